/- What scalars.Len, at, Cut, At, Width, Text, List and Pair answer. Conditions: sizes, the tables of utf8, the errors' variables. -/
import Derived.Test.YtkehomiogkoomaaDoorUtf3
import Derived.Test.YtkehomiogkoomaaDoorStr
import Derived.Test.YtkehomiogkoomaaDoorAn
set_option linter.unusedVariables false
set_option linter.unusedSimpArgs false
set_option maxRecDepth 100000
namespace Go.Proofs.YtkehomiogkoomaaDoor
open Go Go.RowKit Go.Proofs.YtkehomiogkoomaaDoorW.PrintWords RX
theorem ent21 : Ent Tryd.prog 21 := ent_of Tryd.func21 (by kernel_rfl) rfl
theorem ent137 : Ent Tryd.prog 137 := ent_of Tryd.func137 (by kernel_rfl) rfl
theorem ent83 : Ent Tryd.prog 83 := ent_of Tryd.func83 (by kernel_rfl) rfl
theorem ent86 : Ent Tryd.prog 86 := ent_of Tryd.func86 (by kernel_rfl) rfl
theorem ent84 : Ent Tryd.prog 84 := ent_of Tryd.func84 (by kernel_rfl) rfl
theorem ent20 : Ent Tryd.prog 20 := ent_of Tryd.func20 (by kernel_rfl) rfl
theorem ent85 : Ent Tryd.prog 85 := ent_of Tryd.func85 (by kernel_rfl) rfl
theorem ent91 : Ent Tryd.prog 91 := ent_of Tryd.func91 (by kernel_rfl) rfl
theorem ent92 : Ent Tryd.prog 92 := ent_of Tryd.func92 (by kernel_rfl) rfl
theorem ent138 : Ent Tryd.prog 138 := ent_of Tryd.func138 (by kernel_rfl) rfl
theorem ent139 : Ent Tryd.prog 139 := ent_of Tryd.func139 (by kernel_rfl) rfl
theorem info21 : (Tryd.prog.info? 21).map (fun i => (i.zero, i.size, i.bytes)) = some (some (.int .i32 0), 1, 4) := by kernel_rfl
theorem len_any (s : ByteArray) (w : World) (hs : s.size ≤ 1000000000) (hT : Tabs w) (es : List Addr) (hE : ErrsA w es) : Calls Tryd.prog 21 #[.string s] w fun e w' => e = .returned (.tuple #[.int .i64 ((U.lenP s).1 : Int), errV es (U.lenP s).2]) ∧ Below w.heap.size w w' := by
  refine RX.enter Tryd.func21 rfl 10 rfl [(0, .string s)] rfl (by kernel_rfl) (fun R_ hR_ => ?_)
  refine X_seq ?_
  refine X_region ?_
  refine XL_run 2 [] [(0, .string s)] w [] (by kernel_rfl) trivial ?_
  refine XL_nil ?_
  refine X_seq ?_
  refine X_seq ?_
  refine X_region ?_
  refine XL_run 1 [] [(0, .string s), (4, .string s)] w [] (by kernel_rfl) trivial ?_
  refine XL_call 91 rfl rfl rfl ent91 [.string s] (by kernel_rfl) (Tryd.utf8_ValidString s _ (by omega) (hT.below (Below.refl _ _))) ?_
  rintro e w_1 ⟨rfl, hb_2⟩; refine ⟨_, rfl, ?_⟩
  rw [U.valid_utf]
  by_cases c_3 : decide (U.tl s = []) = true
  · rw [show (decide (U.tl s = []) : Bool) = true from by simpa using c_3]
    refine XL_run 1 [] [(0, .string s), (6, .bool false)] w_1 [] (by kernel_rfl) trivial ?_
    refine XL_nil ?_
    refine X_cond false rfl ?_
    refine X_skip ?_
    refine X_seq ?_
    refine X_region ?_
    refine XL_run 1 [] [(8, .string s)] w_1 [] (by kernel_rfl) trivial ?_
    refine XL_call 92 rfl rfl rfl ent92 [.string s] (by kernel_rfl) (Tryd.utf8_RuneCountInString s _ (by omega)) ?_
    rintro e w_4 ⟨rfl, pos_5, hw_6⟩; refine ⟨_, rfl, ?_⟩
    have hb_7 : Below w_1.heap.size w_1 w_4 := by rw [hw_6]; exact (Below.refl _ _).alloc (Nat.le_refl _) _
    rw [U.count_utf (of_decide_eq_true (p := U.tl s = []) c_3)]
    refine XL_run 2 [] [(2, .int .i64 ((U.sc s).length : Int)), (3, .nilIface)] w_4 [] (by kernel_rfl) trivial ?_
    refine XL_nil ?_
    refine X_ret ?_
    refine RX.ret_ok (P := Tryd.prog) (fn := Tryd.f21) (N := 10) (R := R_) [.int .i64 ((U.sc s).length : Int), .nilIface] (by kernel_rfl) (hR_ _ _ ?_)
    rw [show U.lenP s = ((U.sc s).length, 0) from if_pos (of_decide_eq_true (p := U.tl s = []) c_3)]
    exact ⟨rfl, (bt hb_2 hb_7)⟩
  · rw [show (decide (U.tl s = []) : Bool) = false from by simpa using c_3]
    refine XL_run 1 [] [(0, .string s), (6, .bool true)] w_1 [] (by kernel_rfl) trivial ?_
    refine XL_nil ?_
    refine X_cond true rfl ?_
    refine X_seq ?_
    refine X_still (by kernel_rfl) (by kernel_rfl) (fun wd_8 hb_9 hh_10 => ?_)
    refine XS_run 3 [(7, .load (.iface 235 (.pointer (some (errAt es 1)))))] [.iface 235 (.pointer (some (errAt es 1))), .int .i64 0, .iface 235 (.pointer (some (errAt es 1)))] [(2, .int .i64 0), (3, .iface 235 (.pointer (some (errAt es 1))))] [LoadsAs Tryd.prog 24 (⟨0, 0, none⟩) (.iface 235 (.pointer (some (errAt es 1)))) wd_8] (by kernel_rfl) (by kernel_rfl) ⟨loads1 rfl (((bt hb_2 hb_9).cell (World.block_lt_of_cell? _ _ (hE.load 1 0 (by decide) (by decide) rfl))).trans (hE.load 1 0 (by decide) (by decide) rfl)), trivial⟩ ?_
    refine XS_nil ?_
    refine X_ret ?_
    refine RX.ret_ok (P := Tryd.prog) (fn := Tryd.f21) (N := 10) (R := R_) [.int .i64 0, .iface 235 (.pointer (some (errAt es 1)))] (by kernel_rfl) (hR_ _ _ ?_)
    rw [show U.lenP s = (0, 1) from if_neg (of_decide_eq_false (p := U.tl s = []) (Bool.eq_false_iff.2 c_3))]
    exact ⟨rfl, (bt hb_2 hb_9)⟩
theorem at_any (s : ByteArray) (n : Int) (w : World) (hs : s.size ≤ 1000000000) (hn0 : -9223372036854775808 ≤ n) (hn1 : n ≤ 9223372036854775807) (hT : Tabs w) (es : List Addr) (hE : ErrsOn [1, 12] w es) : Calls Tryd.prog 137 #[.string s, .int .i64 n] w fun e w' => e = .returned (.tuple #[.int .i64 ((U.atP s n).1 : Int), errV es (U.atP s n).2]) ∧ Below w.heap.size w w' := by
  refine RX.enter Tryd.func137 rfl 29 rfl [(0, .string s), (1, .int .i64 n)] rfl (by kernel_rfl) (fun R_ hR_ => ?_)
  refine X_seq ?_
  refine X_region ?_
  refine XL_run 2 [] [(0, .string s), (1, .int .i64 n)] w [] (by kernel_rfl) trivial ?_
  refine XL_nil ?_
  refine X_seq ?_
  refine X_seq ?_
  refine X_region ?_
  refine XL_run 1 [] [(0, .string s), (1, .int .i64 n), (7, .string s)] w [] (by kernel_rfl) trivial ?_
  refine XL_call 91 rfl rfl rfl ent91 [.string s] (by kernel_rfl) (Tryd.utf8_ValidString s _ (by omega) (hT.below (Below.refl _ _))) ?_
  rintro e w_1 ⟨rfl, hb_2⟩; refine ⟨_, rfl, ?_⟩
  rw [U.valid_utf]
  by_cases c_3 : decide (U.tl s = []) = true
  · rw [show (decide (U.tl s = []) : Bool) = true from by simpa using c_3]
    refine XL_run 1 [] [(0, .string s), (1, .int .i64 n), (9, .bool false)] w_1 [] (by kernel_rfl) trivial ?_
    refine XL_nil ?_
    refine X_cond false rfl ?_
    refine X_skip ?_
    refine X_seq ?_
    refine X_seq ?_
    refine X_region ?_
    refine XL_run 1 [] [(0, .string s), (1, .int .i64 n), (11, .int .i64 n)] w_1 [] (by kernel_rfl) trivial ?_
    by_cases c_4 : n < 0
    · refine XL_run 1 [(12, .eq (.bool true))] [(0, .string s), (1, .int .i64 n), (12, .bool true)] w_1 [Value.bool (decide (n < 0)) = Value.bool true] (by kernel_rfl) ⟨congrArg Value.bool (decide_eq_true (c_4)), trivial⟩ ?_
      refine XL_nil ?_
      refine X_cond true rfl ?_
      refine X_seq ?_
      refine X_still (by kernel_rfl) (by kernel_rfl) (fun wd_5 hb_6 hh_7 => ?_)
      refine XS_run 3 [(13, .load (.iface 235 (.pointer (some (errAt es 12)))))] [.iface 235 (.pointer (some (errAt es 12))), .int .i64 0, .iface 235 (.pointer (some (errAt es 12)))] [(4, .int .i64 0), (5, .iface 235 (.pointer (some (errAt es 12))))] [LoadsAs Tryd.prog 24 (⟨12, 0, none⟩) (.iface 235 (.pointer (some (errAt es 12)))) wd_5] (by kernel_rfl) (by kernel_rfl) ⟨loads1 rfl (((bt hb_2 hb_6).cell (World.block_lt_of_cell? _ _ (hE.load 12 12 (by decide) (by decide) rfl))).trans (hE.load 12 12 (by decide) (by decide) rfl)), trivial⟩ ?_
      refine XS_nil ?_
      refine X_ret ?_
      refine RX.ret_ok (P := Tryd.prog) (fn := Tryd.f137) (N := 29) (R := R_) [.int .i64 0, .iface 235 (.pointer (some (errAt es 12)))] (by kernel_rfl) (hR_ _ _ ?_)
      have ha : U.atP s n = if n < 0 then (0, 12) else if n ≤ (U.sc s).length then (U.pl s n.toNat, 0) else (0, 12) := if_pos (of_decide_eq_true (p := U.tl s = []) c_3)
      rw [if_pos (by omega)] at ha
      rw [ha]
      exact ⟨rfl, (bt hb_2 hb_6)⟩
    · refine XL_run 1 [(12, .eq (.bool false))] [(0, .string s), (1, .int .i64 n), (12, .bool false)] w_1 [Value.bool (decide (n < 0)) = Value.bool false] (by kernel_rfl) ⟨congrArg Value.bool (decide_eq_false (c_4)), trivial⟩ ?_
      refine XL_nil ?_
      refine X_cond false rfl ?_
      refine X_skip ?_
      refine X_seq ?_
      refine X_seq ?_
      refine X_region ?_
      refine XL_run 1 [] [(0, .string s), (1, .int .i64 n), (14, .string s)] w_1 [] (by kernel_rfl) trivial ?_
      refine XL_range (s := s) rfl rfl rfl Tryd.underlying9 rfl (fun w_8 hb_9 hi_10 => ?_)
      refine XL_nil ?_
      refine X_block ?_
      refine X_loop (ι := Nat × Int) (fun ⟨i, m⟩ => [(0, .string s), (1, .int .i64 m), (15, .pointer (some ⟨w_1.heap.size, 0, none⟩))]) (fun ⟨i, m⟩ wl => i ≤ (U.sc s).length ∧ (i : Int) ≤ n ∧ m = n - (i : Int) ∧ wl.heap[w_1.heap.size]? = some (.stringIter s (U.pl s i)) ∧ Below w.heap.size w wl) (fun ⟨i, m⟩ => (U.sc s).length - i) (0, n) ⟨by omega, by omega, by omega, by rw [U.pl_zero]; exact hi_10, (bt hb_2 hb_9)⟩ (by kernel_rfl) ?_
      rintro ⟨i, m⟩ wl ⟨hi, hin, hm, hit, HB⟩
      refine X_seq ?_
      refine X_region ?_
      refine XL_next (s := s) (g := w_1.heap.size) (pos := (U.pl s i)) rfl rfl rfl rfl hit ?_ ?_
      · intro hp_11 w_12 hg_13 hi_14
        refine XL_run 1 [] [(0, .string s), (1, .int .i64 m), (15, .pointer (some ⟨w_1.heap.size, 0, none⟩)), (16, .tuple #[.bool true, .int .i64 ((U.pl s i) : Int), .int .i32 ((Utf8.decode s (U.pl s i)).1 : Int)]), (17, .bool true)] w_12 [] (by kernel_rfl) trivial ?_
        refine XL_nil ?_
        refine X_seq ?_
        refine X_cond true rfl ?_
        refine X_skip ?_
        refine X_block ?_
        refine X_seq ?_
        refine X_region ?_
        refine XL_run 2 [] [(0, .string s), (1, .int .i64 m), (6, .int .i64 ((U.pl s i) : Int)), (15, .pointer (some ⟨w_1.heap.size, 0, none⟩))] w_12 [] (by kernel_rfl) trivial ?_
        refine XL_nil ?_
        refine X_seq ?_
        refine X_seq ?_
        refine X_region ?_
        refine XL_run 1 [] [(0, .string s), (1, .int .i64 m), (6, .int .i64 ((U.pl s i) : Int)), (15, .pointer (some ⟨w_1.heap.size, 0, none⟩)), (19, .int .i64 m)] w_12 [] (by kernel_rfl) trivial ?_
        by_cases c_15 : m = 0
        · refine XL_run 1 [(20, .eq (.bool true))] [(0, .string s), (1, .int .i64 m), (6, .int .i64 ((U.pl s i) : Int)), (15, .pointer (some ⟨w_1.heap.size, 0, none⟩)), (20, .bool true)] w_12 [Value.bool (m == 0) = Value.bool true] (by kernel_rfl) ⟨congrArg Value.bool (beq_iff_eq.2 (c_15)), trivial⟩ ?_
          refine XL_nil ?_
          refine X_cond true rfl ?_
          refine X_seq ?_
          refine X_region ?_
          refine XL_run 3 [] [(4, .int .i64 ((U.pl s i) : Int)), (5, .nilIface)] w_12 [] (by kernel_rfl) trivial ?_
          refine XL_nil ?_
          refine X_ret ?_
          refine RX.ret_ok (P := Tryd.prog) (fn := Tryd.f137) (N := 29) (R := R_) [.int .i64 ((U.pl s i) : Int), .nilIface] (by kernel_rfl) (hR_ _ _ ?_)
          have ha : U.atP s n = if n < 0 then (0, 12) else if n ≤ (U.sc s).length then (U.pl s n.toNat, 0) else (0, 12) := if_pos (of_decide_eq_true (p := U.tl s = []) c_3)
          have hlt := (U.pl_lt_iff (of_decide_eq_true (p := U.tl s = []) c_3) i hi).1 hp_11
          rw [if_neg (by omega), if_pos (by omega), show n.toNat = i from by omega] at ha
          rw [ha]
          exact ⟨rfl, (bg HB hg_13 (hb_2).size)⟩
        · refine XL_run 1 [(20, .eq (.bool false))] [(0, .string s), (1, .int .i64 m), (6, .int .i64 ((U.pl s i) : Int)), (15, .pointer (some ⟨w_1.heap.size, 0, none⟩)), (20, .bool false)] w_12 [Value.bool (m == 0) = Value.bool false] (by kernel_rfl) ⟨congrArg Value.bool (beq_eq_false_iff_ne.2 (c_15)), trivial⟩ ?_
          refine XL_nil ?_
          refine X_cond false rfl ?_
          refine X_skip ?_
          refine X_region ?_
          refine XL_run 3 [(23, .eq (.int .i64 (m - 1)))] [(0, .string s), (1, .int .i64 (m - 1)), (15, .pointer (some ⟨w_1.heap.size, 0, none⟩))] w_12 [Value.int .i64 (IntKind.i64.wrap (m - 1)) = Value.int .i64 (m - 1)] (by kernel_rfl) ⟨wr_i64 (by omega) (by omega), trivial⟩ ?_
          refine XL_nil ?_
          have hlt := (U.pl_lt_iff (of_decide_eq_true (p := U.tl s = []) c_3) i hi).1 hp_11
          refine ⟨(i + 1, m - 1), by kernel_rfl, ?_, ?_⟩
          · have hst := U.pl_step (of_decide_eq_true (p := U.tl s = []) c_3) i hlt
            have hdc : (Utf8.decode s (U.pl s i)).2 = (U.enc (U.sc s)[i]).length := by rw [hst.1]
            rw [hdc, ← hst.2.1] at hi_14
            exact ⟨by omega, by omega, by omega, hi_14, (bg HB hg_13 (hb_2).size)⟩
          · (try dsimp only); omega
      · intro hp_16
        refine XL_run 1 [] [(0, .string s), (1, .int .i64 m), (15, .pointer (some ⟨w_1.heap.size, 0, none⟩)), (16, .tuple #[.bool false]), (17, .bool false)] wl [] (by kernel_rfl) trivial ?_
        refine XL_nil ?_
        refine X_seq ?_
        refine X_cond false rfl ?_
        refine X_exit ?_
        refine X_seq ?_
        refine X_seq ?_
        refine X_region ?_
        refine XL_run 1 [] [(0, .string s), (24, .int .i64 m)] wl [] (by kernel_rfl) trivial ?_
        by_cases c_17 : m > 0
        · refine XL_run 1 [(25, .eq (.bool true))] [(0, .string s), (25, .bool true)] wl [Value.bool (decide (m > 0)) = Value.bool true] (by kernel_rfl) ⟨congrArg Value.bool (decide_eq_true (c_17)), trivial⟩ ?_
          refine XL_nil ?_
          refine X_cond true rfl ?_
          refine X_seq ?_
          refine X_still (by kernel_rfl) (by kernel_rfl) (fun wd_18 hb_19 hh_20 => ?_)
          refine XS_run 3 [(26, .load (.iface 235 (.pointer (some (errAt es 12)))))] [.iface 235 (.pointer (some (errAt es 12))), .int .i64 0, .iface 235 (.pointer (some (errAt es 12)))] [(4, .int .i64 0), (5, .iface 235 (.pointer (some (errAt es 12))))] [LoadsAs Tryd.prog 24 (⟨12, 0, none⟩) (.iface 235 (.pointer (some (errAt es 12)))) wd_18] (by kernel_rfl) (by kernel_rfl) ⟨loads1 rfl (((bt HB hb_19).cell (World.block_lt_of_cell? _ _ (hE.load 12 12 (by decide) (by decide) rfl))).trans (hE.load 12 12 (by decide) (by decide) rfl)), trivial⟩ ?_
          refine XS_nil ?_
          refine X_ret ?_
          refine RX.ret_ok (P := Tryd.prog) (fn := Tryd.f137) (N := 29) (R := R_) [.int .i64 0, .iface 235 (.pointer (some (errAt es 12)))] (by kernel_rfl) (hR_ _ _ ?_)
          have ha : U.atP s n = if n < 0 then (0, 12) else if n ≤ (U.sc s).length then (U.pl s n.toNat, 0) else (0, 12) := if_pos (of_decide_eq_true (p := U.tl s = []) c_3)
          have hend : i = (U.sc s).length := by have := mt (U.pl_lt_iff (of_decide_eq_true (p := U.tl s = []) c_3) i hi).2 hp_16; omega
          rw [if_neg (by omega), if_neg (by omega)] at ha
          rw [ha]
          exact ⟨rfl, (bt HB hb_19)⟩
        · refine XL_run 1 [(25, .eq (.bool false))] [(0, .string s), (25, .bool false)] wl [Value.bool (decide (m > 0)) = Value.bool false] (by kernel_rfl) ⟨congrArg Value.bool (decide_eq_false (c_17)), trivial⟩ ?_
          refine XL_nil ?_
          refine X_cond false rfl ?_
          refine X_skip ?_
          refine X_seq ?_
          refine X_region ?_
          refine XL_run 4 [] [(4, .int .i64 (s.size : Int)), (5, .nilIface)] wl [] (by kernel_rfl) trivial ?_
          refine XL_nil ?_
          refine X_ret ?_
          refine RX.ret_ok (P := Tryd.prog) (fn := Tryd.f137) (N := 29) (R := R_) [.int .i64 (s.size : Int), .nilIface] (by kernel_rfl) (hR_ _ _ ?_)
          have ha : U.atP s n = if n < 0 then (0, 12) else if n ≤ (U.sc s).length then (U.pl s n.toNat, 0) else (0, 12) := if_pos (of_decide_eq_true (p := U.tl s = []) c_3)
          have hend : i = (U.sc s).length := by have := mt (U.pl_lt_iff (of_decide_eq_true (p := U.tl s = []) c_3) i hi).2 hp_16; omega
          rw [if_neg (by omega), if_pos (by omega), show n.toNat = (U.sc s).length from by omega, U.pl_all (of_decide_eq_true (p := U.tl s = []) c_3)] at ha
          rw [ha]
          exact ⟨rfl, HB⟩
  · rw [show (decide (U.tl s = []) : Bool) = false from by simpa using c_3]
    refine XL_run 1 [] [(0, .string s), (1, .int .i64 n), (9, .bool true)] w_1 [] (by kernel_rfl) trivial ?_
    refine XL_nil ?_
    refine X_cond true rfl ?_
    refine X_seq ?_
    refine X_still (by kernel_rfl) (by kernel_rfl) (fun wd_21 hb_22 hh_23 => ?_)
    refine XS_run 3 [(10, .load (.iface 235 (.pointer (some (errAt es 1)))))] [.iface 235 (.pointer (some (errAt es 1))), .int .i64 0, .iface 235 (.pointer (some (errAt es 1)))] [(4, .int .i64 0), (5, .iface 235 (.pointer (some (errAt es 1))))] [LoadsAs Tryd.prog 24 (⟨0, 0, none⟩) (.iface 235 (.pointer (some (errAt es 1)))) wd_21] (by kernel_rfl) (by kernel_rfl) ⟨loads1 rfl (((bt hb_2 hb_22).cell (World.block_lt_of_cell? _ _ (hE.load 1 0 (by decide) (by decide) rfl))).trans (hE.load 1 0 (by decide) (by decide) rfl)), trivial⟩ ?_
    refine XS_nil ?_
    refine X_ret ?_
    refine RX.ret_ok (P := Tryd.prog) (fn := Tryd.f137) (N := 29) (R := R_) [.int .i64 0, .iface 235 (.pointer (some (errAt es 1)))] (by kernel_rfl) (hR_ _ _ ?_)
    rw [show U.atP s n = (0, 1) from if_neg (of_decide_eq_false (p := U.tl s = []) (Bool.eq_false_iff.2 c_3))]
    exact ⟨rfl, (bt hb_2 hb_22)⟩
theorem atP_le (s : ByteArray) (n : Int) : (U.atP s n).1 ≤ s.size := by
  unfold U.atP
  split
  · rename_i h
    split
    · exact Nat.zero_le _
    · split
      · exact U.pl_le h _ (by omega)
      · exact Nat.zero_le _
  · exact Nat.zero_le _
theorem cut_any (s : ByteArray) (n : Int) (w : World) (hs : s.size ≤ 1000000000) (hn0 : -9223372036854775808 ≤ n) (hn1 : n ≤ 9223372036854775807) (hT : Tabs w) (es : List Addr) (hE : ErrsOn [1, 12] w es) : Calls Tryd.prog 83 #[.string s, .int .i64 n] w fun e w' => e = .returned (.tuple #[.string (U.cutP s n).1, .string (U.cutP s n).2.1, errV es (U.cutP s n).2.2]) ∧ Below w.heap.size w w' := by
  refine RX.enter Tryd.func83 rfl 24 rfl [(0, .string s), (1, .int .i64 n)] rfl (by kernel_rfl) (fun R_ hR_ => ?_)
  refine X_seq ?_
  refine X_region ?_
  refine XL_run 3 [] [(0, .string s), (1, .int .i64 n)] w [] (by kernel_rfl) trivial ?_
  refine XL_nil ?_
  refine X_seq ?_
  refine X_region ?_
  refine XL_run 2 [] [(0, .string s), (10, .string s), (11, .int .i64 n)] w [] (by kernel_rfl) trivial ?_
  refine XL_call 137 rfl rfl rfl ent137 [.string s, .int .i64 n] (by kernel_rfl) (at_any s n _ (by omega) (by omega) (by omega) (hT.below (Below.refl _ _)) es (hE.below (Below.refl _ _))) ?_
  rintro e w_1 ⟨rfl, hb_2⟩; refine ⟨_, rfl, ?_⟩
  have hle := atP_le s n
  have hsz : s.size ≤ 1000000000 := hs
  refine XL_run 5 [] [(0, .string s), (7, .int .i64 ((U.atP s n).1 : Int)), (8, errV es ((U.atP s n).2))] w_1 [] (by kernel_rfl) trivial ?_
  refine XL_nil ?_
  refine X_seq ?_
  refine X_seq ?_
  refine X_region ?_
  refine XL_run 1 [] [(0, .string s), (7, .int .i64 ((U.atP s n).1 : Int)), (8, errV es ((U.atP s n).2)), (15, errV es ((U.atP s n).2))] w_1 [] (by kernel_rfl) trivial ?_
  by_cases c_3 : (U.atP s n).2 = 0
  · rw [show errV es ((U.atP s n).2) = .nilIface from by rw [c_3]; rfl]
    refine XL_run 1 [] [(0, .string s), (7, .int .i64 ((U.atP s n).1 : Int)), (8, .nilIface), (16, .bool false)] w_1 [] (by kernel_rfl) trivial ?_
    refine XL_nil ?_
    refine X_cond false rfl ?_
    refine X_skip ?_
    refine X_seq ?_
    refine X_still (by kernel_rfl) (by kernel_rfl) (fun wd_4 hb_5 hh_6 => ?_)
    refine XS_run 9 [(20, .as (.string (s.extract 0 (((U.atP s n).1 : Int).toNat)))), (23, .as (.string (s.extract (((U.atP s n).1 : Int).toNat) s.size)))] [.string s, .int .i64 ((U.atP s n).1 : Int), .string (s.extract 0 (((U.atP s n).1 : Int).toNat)), .string s, .int .i64 ((U.atP s n).1 : Int), .string (s.extract (((U.atP s n).1 : Int).toNat) s.size), .string (s.extract 0 (((U.atP s n).1 : Int).toNat)), .string (s.extract (((U.atP s n).1 : Int).toNat) s.size), .nilIface] [(4, .string (s.extract 0 (((U.atP s n).1 : Int).toNat))), (5, .string (s.extract (((U.atP s n).1 : Int).toNat) s.size)), (6, .nilIface)] [RunsAs Tryd.prog [(18, .string s), (19, .int .i64 ((U.atP s n).1 : Int))] (Go.Op.slice 9 (Go.Operand.tmp 18) none (some (Go.Operand.tmp 19)) none) 9 (.string (s.extract 0 (((U.atP s n).1 : Int).toNat))) wd_4, RunsAs Tryd.prog [(21, .string s), (22, .int .i64 ((U.atP s n).1 : Int))] (Go.Op.slice 9 (Go.Operand.tmp 21) (some (Go.Operand.tmp 22)) none none) 9 (.string (s.extract (((U.atP s n).1 : Int).toNat) s.size)) wd_4] (by kernel_rfl) (by kernel_rfl) ⟨runs_slice_sh (h := ((U.atP s n).1 : Int)) Tryd.underlying9 rfl rfl (by omega) (by omega), runs_slice_sl (h := ((U.atP s n).1 : Int)) Tryd.underlying9 rfl rfl (by omega) (by omega), trivial⟩ ?_
    refine XS_nil ?_
    refine X_ret ?_
    refine RX.ret_ok (P := Tryd.prog) (fn := Tryd.f83) (N := 24) (R := R_) [.string (s.extract 0 (((U.atP s n).1 : Int).toNat)), .string (s.extract (((U.atP s n).1 : Int).toNat) s.size), .nilIface] (by kernel_rfl) (hR_ _ _ ?_)
    rw [show U.cutP s n = (s.extract 0 (U.atP s n).1, s.extract (U.atP s n).1 s.size, 0) from if_pos c_3]
    exact ⟨rfl, (bt hb_2 hb_5)⟩
  · rw [errV_pos es ((U.atP s n).2) (Nat.pos_of_ne_zero c_3)]
    refine XL_run 1 [] [(0, .string s), (7, .int .i64 ((U.atP s n).1 : Int)), (8, .iface 235 (.pointer (some (errAt es ((U.atP s n).2))))), (16, .bool true)] w_1 [] (by kernel_rfl) trivial ?_
    refine XL_nil ?_
    refine X_cond true rfl ?_
    refine X_seq ?_
    refine X_region ?_
    refine XL_run 4 [] [(4, .string (⟨#[]⟩ : ByteArray)), (5, .string (⟨#[]⟩ : ByteArray)), (6, .iface 235 (.pointer (some (errAt es ((U.atP s n).2)))))] w_1 [] (by kernel_rfl) trivial ?_
    refine XL_nil ?_
    refine X_ret ?_
    refine RX.ret_ok (P := Tryd.prog) (fn := Tryd.f83) (N := 24) (R := R_) [.string (⟨#[]⟩ : ByteArray), .string (⟨#[]⟩ : ByteArray), .iface 235 (.pointer (some (errAt es ((U.atP s n).2))))] (by kernel_rfl) (hR_ _ _ ?_)
    rw [show U.cutP s n = (⟨#[]⟩, ⟨#[]⟩, (U.atP s n).2) from if_neg c_3, errV_pos es _ (Nat.pos_of_ne_zero c_3)]
    exact ⟨rfl, hb_2⟩
theorem widthP_pos {k : Nat} (hv : U.vr k) : U.widthP (k : Int) = (U.enc k).length := by
  unfold U.widthP
  rw [if_pos (show U.vz (k : Int) from ⟨by omega, by rw [Int.toNat_natCast]; exact hv⟩), Int.toNat_natCast]
theorem widthP_neg {r : Int} (h : ¬ U.vz r) : U.widthP r = 0 := if_neg h
theorem width_eq (r : Int) : max (Lib.runeLen r) 0 = (U.widthP r : Int) := by
  by_cases h0 : r < 0
  · rw [widthP_neg (fun h => by have := h.1; omega)]
    unfold Lib.runeLen
    rw [if_pos h0]; rfl
  · obtain ⟨k, rfl⟩ := Int.eq_ofNat_of_zero_le (show 0 ≤ r by omega)
    by_cases hv : U.vr k
    · rw [widthP_pos hv]
      have hv' := hv
      unfold U.vr at hv'
      unfold Lib.runeLen
      by_cases h1 : k < 128
      · rw [if_neg h0, if_pos (by omega), U.enc_1 h1]; rfl
      · by_cases h2 : k < 2048
        · rw [if_neg h0, if_neg (by omega), if_pos (by omega), U.enc_2 (by omega) h2]; rfl
        · by_cases h3 : k < 65536
          · rw [if_neg h0, if_neg (by omega), if_neg (by omega), if_neg (by omega), if_pos (by omega), U.enc_3 hv (by omega) h3]; rfl
          · rw [if_neg h0, if_neg (by omega), if_neg (by omega), if_neg (by omega), if_neg (by omega), if_pos (by omega), U.enc_4 hv (by omega)]; rfl
    · rw [widthP_neg (fun h => hv (by have := h.2; rwa [Int.toNat_natCast] at this))]
      unfold U.vr at hv
      unfold Lib.runeLen
      rw [if_neg h0, if_neg (by omega), if_neg (by omega)]
      by_cases h4 : 55296 ≤ (k : Int) ∧ (k : Int) ≤ 57343
      · rw [if_pos h4]; rfl
      · rw [if_neg h4, if_neg (by omega), if_neg (by omega)]; rfl
theorem width_any (r : Int) (w : World) : Calls Tryd.prog 86 #[.int .i32 r] w fun e w' => e = .returned (.int .i64 (U.widthP r : Int)) ∧ Below w.heap.size w w' := by
  refine RX.enter Tryd.func86 rfl 6 rfl [(0, .int .i32 r)] rfl (by kernel_rfl) (fun R_ hR_ => ?_)
  refine X_seq ?_
  refine X_region ?_
  refine XL_run 1 [] [(0, .int .i32 r)] w [] (by kernel_rfl) trivial ?_
  refine XL_nil ?_
  refine X_seq ?_
  refine X_region ?_
  refine XL_run 1 [] [(3, .int .i32 r)] w [] (by kernel_rfl) trivial ?_
  refine XL_call 139 rfl rfl rfl ent139 [.int .i32 r] (by kernel_rfl) (Tryd.utf8_RuneLen r _) ?_
  rintro e w_1 ⟨rfl, hw_⟩; refine ⟨_, rfl, ?_⟩; rw [hw_]
  refine XL_run 2 [(5, .eq (.int .i64 (max (Lib.runeLen r) 0)))] [(2, .int .i64 (max (Lib.runeLen r) 0))] w [Value.int .i64 (if 0 > Lib.runeLen r then 0 else Lib.runeLen r) = Value.int .i64 (max (Lib.runeLen r) 0)] (by kernel_rfl) ⟨congrArg (Value.int .i64) (max_eq _ _), trivial⟩ ?_
  refine XL_nil ?_
  refine X_ret ?_
  refine RX.ret_ok (P := Tryd.prog) (fn := Tryd.f86) (N := 6) (R := R_) [.int .i64 (max (Lib.runeLen r) 0)] (by kernel_rfl) (hR_ _ _ ?_)
  rw [width_eq]
  exact ⟨rfl, (Below.refl _ _)⟩
theorem vrune (r : Int) : Lib.validRune r = decide (U.vz r) := by
  unfold Lib.validRune
  rw [Bool.eq_iff_iff, decide_eq_true_iff, decide_eq_true_iff]
  unfold U.vz U.vr
  omega
theorem text_any (A : Option Addr) (c : Nat) (xs : List Int) (w : World) (hx : (Kd.int .i32).C w A xs.length xs) (es : List Addr) (hE : ErrsA w es) : Calls Tryd.prog 84 #[.slice A xs.length c] w fun e w' => e = .returned (.tuple #[.string (U.textP xs).1, errV es (U.textP xs).2]) ∧ Below w.heap.size w w' := by
  have hpl : xs.length ≤ 9223372036854775807 := hx.2.1
  refine RX.enter Tryd.func84 rfl 19 rfl [(0, .slice A xs.length c)] rfl (by kernel_rfl) (fun R_ hR_ => ?_)
  refine X_seq ?_
  refine X_region ?_
  refine XL_run 2 [] [(0, .slice A xs.length c)] w [] (by kernel_rfl) trivial ?_
  refine XL_nil ?_
  refine X_seq ?_
  refine X_seq ?_
  refine X_region ?_
  refine XL_run 3 [] [(0, .slice A xs.length c), (6, .slice A xs.length c), (7, .int .i64 (xs.length : Int)), (8, .int .i64 0)] w [] (by kernel_rfl) trivial ?_
  refine XL_nil ?_
  refine X_block ?_
  refine X_loop (ι := Nat) (fun i => [(0, .slice A xs.length c), (6, .slice A xs.length c), (7, .int .i64 (xs.length : Int)), (8, .int .i64 (i : Int))]) (fun i wl => i ≤ xs.length ∧ (∀ q : Nat, q < i → U.vz (rd xs (q : Int))) ∧ Below w.heap.size w wl) (fun i => xs.length - i) 0 ⟨by omega, fun q hq => by omega, (Below.refl _ _)⟩ (by kernel_rfl) ?_
  rintro i wl ⟨hi, hq0, HB⟩
  refine X_seq ?_
  refine X_region ?_
  by_cases c_1 : (i : Int) < (xs.length : Int)
  · refine XL_run 1 [(9, .eq (.bool true))] [(0, .slice A xs.length c), (6, .slice A xs.length c), (7, .int .i64 (xs.length : Int)), (8, .int .i64 (i : Int)), (9, .bool true)] wl [Value.bool (decide ((i : Int) < (xs.length : Int))) = Value.bool true] (by kernel_rfl) ⟨congrArg Value.bool (decide_eq_true (c_1)), trivial⟩ ?_
    refine XL_nil ?_
    refine X_seq ?_
    refine X_cond true rfl ?_
    refine X_skip ?_
    refine X_seq ?_
    refine X_block ?_
    refine X_seq ?_
    refine X_region ?_
    obtain ⟨ad_2, ha_3, hc_4⟩ := Kd.atI (Kd.C_below hx HB) (i := (i : Int)) (by omega) (by omega)
    refine XL_run 3 [(10, .idx ad_2), (11, .load (.int .i32 (rd xs (i : Int))))] [(0, .slice A xs.length c), (5, .int .i32 (rd xs (i : Int))), (6, .slice A xs.length c), (7, .int .i64 (xs.length : Int)), (8, .int .i64 (i : Int))] wl [A = some ad_2, (0 : Int) ≤ (i : Int), (i : Int) < (xs.length : Int), LoadsAs Tryd.prog 21 (ad_2.add ((i : Int).toNat * 1)) (.int .i32 (rd xs (i : Int))) wl] (by kernel_rfl) ⟨ha_3, (by omega), (by omega), loads1 rfl (elem_cell hc_4 0 _ rfl), trivial⟩ ?_
    refine XL_nil ?_
    refine X_seq ?_
    refine X_region ?_
    refine XL_run 1 [] [(0, .slice A xs.length c), (6, .slice A xs.length c), (7, .int .i64 (xs.length : Int)), (8, .int .i64 (i : Int)), (12, .int .i32 (rd xs (i : Int)))] wl [] (by kernel_rfl) trivial ?_
    refine XL_call 138 rfl rfl rfl ent138 [.int .i32 (rd xs (i : Int))] (by kernel_rfl) (Tryd.utf8_ValidRune (rd xs (i : Int)) _) ?_
    rintro e w_5 ⟨rfl, hw_⟩; refine ⟨_, rfl, ?_⟩; rw [hw_]
    rw [vrune]
    by_cases c_6 : decide (U.vz (rd xs (i : Int))) = true
    · rw [show (decide (U.vz (rd xs (i : Int))) : Bool) = true from by simpa using c_6]
      refine XL_run 1 [] [(0, .slice A xs.length c), (6, .slice A xs.length c), (7, .int .i64 (xs.length : Int)), (8, .int .i64 (i : Int)), (14, .bool false)] wl [] (by kernel_rfl) trivial ?_
      refine XL_nil ?_
      refine X_cond false rfl ?_
      refine X_skip ?_
      refine X_region ?_
      refine XL_run 2 [(16, .eq (.int .i64 ((i : Int) + 1)))] [(0, .slice A xs.length c), (6, .slice A xs.length c), (7, .int .i64 (xs.length : Int)), (8, .int .i64 ((i : Int) + 1))] wl [Value.int .i64 (IntKind.i64.wrap ((i : Int) + 1)) = Value.int .i64 ((i : Int) + 1)] (by kernel_rfl) ⟨wr_i64 (by omega) (by omega), trivial⟩ ?_
      refine XL_nil ?_
      refine ⟨(i + 1), by kernel_rfl, ?_, ?_⟩
      · exact ⟨by omega, fun q hq => by by_cases e : q = i; (· subst e; exact of_decide_eq_true c_6); (· exact hq0 q (by omega)), HB⟩
      · (try dsimp only); omega
    · rw [show (decide (U.vz (rd xs (i : Int))) : Bool) = false from by simpa using c_6]
      refine XL_run 1 [] [(0, .slice A xs.length c), (6, .slice A xs.length c), (7, .int .i64 (xs.length : Int)), (8, .int .i64 (i : Int)), (14, .bool true)] wl [] (by kernel_rfl) trivial ?_
      refine XL_nil ?_
      refine X_cond true rfl ?_
      refine X_seq ?_
      refine X_still (by kernel_rfl) (by kernel_rfl) (fun wd_7 hb_8 hh_9 => ?_)
      refine XS_run 3 [(15, .load (.iface 235 (.pointer (some (errAt es 1)))))] [.iface 235 (.pointer (some (errAt es 1))), .string (⟨#[]⟩ : ByteArray), .iface 235 (.pointer (some (errAt es 1)))] [(2, .string (⟨#[]⟩ : ByteArray)), (3, .iface 235 (.pointer (some (errAt es 1))))] [LoadsAs Tryd.prog 24 (⟨0, 0, none⟩) (.iface 235 (.pointer (some (errAt es 1)))) wd_7] (by kernel_rfl) (by kernel_rfl) ⟨loads1 rfl (((bt HB hb_8).cell (World.block_lt_of_cell? _ _ (hE.load 1 0 (by decide) (by decide) rfl))).trans (hE.load 1 0 (by decide) (by decide) rfl)), trivial⟩ ?_
      refine XS_nil ?_
      refine X_ret ?_
      refine RX.ret_ok (P := Tryd.prog) (fn := Tryd.f84) (N := 19) (R := R_) [.string (⟨#[]⟩ : ByteArray), .iface 235 (.pointer (some (errAt es 1)))] (by kernel_rfl) (hR_ _ _ ?_)
      rw [show U.textP xs = (⟨#[]⟩, 1) from if_neg (fun h => of_decide_eq_false (Bool.eq_false_iff.2 c_6) (h _ (by unfold rd; rw [Int.toNat_natCast, List.getD_eq_getElem?_getD, List.getElem?_eq_getElem (by omega)]; exact List.getElem_mem (by omega))))]
      exact ⟨rfl, (bt HB hb_8)⟩
  · refine XL_run 1 [(9, .eq (.bool false))] [(0, .slice A xs.length c), (6, .slice A xs.length c), (7, .int .i64 (xs.length : Int)), (8, .int .i64 (i : Int)), (9, .bool false)] wl [Value.bool (decide ((i : Int) < (xs.length : Int))) = Value.bool false] (by kernel_rfl) ⟨congrArg Value.bool (decide_eq_false (c_1)), trivial⟩ ?_
    refine XL_nil ?_
    refine X_seq ?_
    refine X_cond false rfl ?_
    refine X_exit ?_
    refine X_seq ?_
    refine X_region ?_
    refine XL_run 1 [] [(17, .slice A xs.length c)] wl [] (by kernel_rfl) trivial ?_
    refine XL_run 3 [(18, .as (.string (runesBytes xs)))] [(2, .string (runesBytes xs)), (3, .nilIface)] wl [RunsAs Tryd.prog [(17, .slice A xs.length c)] (Go.Op.convert 30 9 (Go.Operand.tmp 17)) 9 (.string (runesBytes xs)) wl] (by kernel_rfl) ⟨runs_conv rfl (conv_runesC xs Tryd.underlying30 Tryd.underlying21 Tryd.underlying9 (Kd.C_below hx HB)), trivial⟩ ?_
    refine XL_nil ?_
    refine X_ret ?_
    refine RX.ret_ok (P := Tryd.prog) (fn := Tryd.f84) (N := 19) (R := R_) [.string (runesBytes xs), .nilIface] (by kernel_rfl) (hR_ _ _ ?_)
    rw [show U.textP xs = (runesBytes xs, 0) from if_pos (fun r hr => by obtain ⟨q, hq, rfl⟩ := List.mem_iff_getElem.1 hr; have := hq0 q (by omega); unfold rd at this; rwa [Int.toNat_natCast, List.getD_eq_getElem?_getD, List.getElem?_eq_getElem hq] at this)]
    exact ⟨rfl, HB⟩
theorem slist_any (s : ByteArray) (w : World) (hs : s.size ≤ 1000000000) (hT : Tabs w) (es : List Addr) (hE : ErrsA w es) : Calls Tryd.prog 20 #[.string s] w fun e w' => ∃ A' c', e = .returned (.tuple #[.slice A' (U.listP s).1.length c', errV es (U.listP s).2]) ∧ (U.listP s).1.length ≤ c' ∧ (Kd.int .i32).R 21 w' w.heap.size (OkFrom w.heap.size) (.slice A' (U.listP s).1.length c') (U.listP s).1 ∧ Below w.heap.size w w' := by
  refine RX.enter Tryd.func20 rfl 10 rfl [(0, .string s)] rfl (by kernel_rfl) (fun R_ hR_ => ?_)
  refine X_seq ?_
  refine X_region ?_
  refine XL_run 2 [] [(0, .string s)] w [] (by kernel_rfl) trivial ?_
  refine XL_nil ?_
  refine X_seq ?_
  refine X_seq ?_
  refine X_region ?_
  refine XL_run 1 [] [(0, .string s), (4, .string s)] w [] (by kernel_rfl) trivial ?_
  refine XL_call 91 rfl rfl rfl ent91 [.string s] (by kernel_rfl) (Tryd.utf8_ValidString s _ (by omega) (hT.below (Below.refl _ _))) ?_
  rintro e w_1 ⟨rfl, hb_2⟩; refine ⟨_, rfl, ?_⟩
  rw [U.valid_utf]
  by_cases c_3 : decide (U.tl s = []) = true
  · rw [show (decide (U.tl s = []) : Bool) = true from by simpa using c_3]
    refine XL_run 1 [] [(0, .string s), (6, .bool false)] w_1 [] (by kernel_rfl) trivial ?_
    refine XL_nil ?_
    refine X_cond false rfl ?_
    refine X_skip ?_
    refine X_seq ?_
    refine X_region ?_
    refine XL_run 1 [] [(8, .string s)] w_1 [] (by kernel_rfl) trivial ?_
    refine XL_runes ((U.sc s).map fun (r : Nat) => (r : Int)) rfl rfl rfl Tryd.underlying9 Tryd.underlying30 Tryd.underlying21 rfl (by rw [U.runes_utf (of_decide_eq_true (p := U.tl s = []) c_3), List.map_map]; rfl) (by rw [List.length_map]; have := U.sc_le s; omega) (fun c_4 w_5 hr_6 hc_7 hb_8 => ?_)
    refine XL_run 2 [] [(2, .slice (some ⟨w_1.heap.size, 0, none⟩) (((U.sc s).map fun (r : Nat) => (r : Int)).length) c_4), (3, .nilIface)] w_5 [] (by kernel_rfl) trivial ?_
    refine XL_nil ?_
    refine X_ret ?_
    refine RX.ret_ok (P := Tryd.prog) (fn := Tryd.f20) (N := 10) (R := R_) [.slice (some ⟨w_1.heap.size, 0, none⟩) (((U.sc s).map fun (r : Nat) => (r : Int)).length) c_4, .nilIface] (by kernel_rfl) (hR_ _ _ ?_)
    rw [show U.listP s = ((U.sc s).map fun (r : Nat) => (r : Int), 0) from if_pos (of_decide_eq_true (p := U.tl s = []) c_3)]
    exact ⟨_, _, rfl, (RX.Kd.R_len hr_6).2, Kd.R_low hr_6 (hb_2).size, (bt hb_2 hb_8)⟩
  · rw [show (decide (U.tl s = []) : Bool) = false from by simpa using c_3]
    refine XL_run 1 [] [(0, .string s), (6, .bool true)] w_1 [] (by kernel_rfl) trivial ?_
    refine XL_nil ?_
    refine X_cond true rfl ?_
    refine X_seq ?_
    refine X_still (by kernel_rfl) (by kernel_rfl) (fun wd_9 hb_10 hh_11 => ?_)
    refine XS_run 3 [(7, .load (.iface 235 (.pointer (some (errAt es 1)))))] [.iface 235 (.pointer (some (errAt es 1))), .slice none 0 0, .iface 235 (.pointer (some (errAt es 1)))] [(2, .slice none 0 0), (3, .iface 235 (.pointer (some (errAt es 1))))] [LoadsAs Tryd.prog 24 (⟨0, 0, none⟩) (.iface 235 (.pointer (some (errAt es 1)))) wd_9] (by kernel_rfl) (by kernel_rfl) ⟨loads1 rfl (((bt hb_2 hb_10).cell (World.block_lt_of_cell? _ _ (hE.load 1 0 (by decide) (by decide) rfl))).trans (hE.load 1 0 (by decide) (by decide) rfl)), trivial⟩ ?_
    refine XS_nil ?_
    refine X_ret ?_
    refine RX.ret_ok (P := Tryd.prog) (fn := Tryd.f20) (N := 10) (R := R_) [.slice none 0 0, .iface 235 (.pointer (some (errAt es 1)))] (by kernel_rfl) (hR_ _ _ ?_)
    rw [show U.listP s = ([], 1) from if_neg (of_decide_eq_false (p := U.tl s = []) (Bool.eq_false_iff.2 c_3))]
    exact ⟨none, 0, rfl, Nat.le_refl _, Kd.R_nil _ _ _ _ _, (bt hb_2 hb_10)⟩
theorem spair_any (a b : Int) (w : World) (es : List Addr) (hE : ErrsA w es) : Calls Tryd.prog 85 #[.int .i32 a, .int .i32 b] w fun e w' => e = .returned (.tuple #[.int .i32 (U.pairP a b).1, errV es (U.pairP a b).2]) ∧ Below w.heap.size w w' := by
  refine RX.enter Tryd.func85 rfl 28 rfl [(0, .int .i32 a), (1, .int .i32 b)] rfl (by kernel_rfl) (fun R_ hR_ => ?_)
  refine X_seq ?_
  refine X_region ?_
  refine XL_run 2 [] [(0, .int .i32 a), (1, .int .i32 b)] w [] (by kernel_rfl) trivial ?_
  refine XL_nil ?_
  refine X_seq ?_
  refine X_seq ?_
  refine X_region ?_
  refine XL_run 1 [] [(0, .int .i32 a), (1, .int .i32 b), (6, .int .i32 a)] w [] (by kernel_rfl) trivial ?_
  by_cases c_1 : a < 55296
  · refine XL_run 13 [(7, .eq (.bool true))] [(0, .int .i32 a), (1, .int .i32 b), (19, .bool true)] w [Value.bool (decide (a < 55296)) = Value.bool true] (by kernel_rfl) ⟨congrArg Value.bool (decide_eq_true (c_1)), trivial⟩ ?_
    refine XL_nil ?_
    refine X_cond true rfl ?_
    refine X_seq ?_
    refine X_still (by kernel_rfl) (by kernel_rfl) (fun wd_2 hb_3 hh_4 => ?_)
    refine XS_run 3 [(20, .load (.iface 235 (.pointer (some (errAt es 1)))))] [.iface 235 (.pointer (some (errAt es 1))), .int .i32 0, .iface 235 (.pointer (some (errAt es 1)))] [(4, .int .i32 0), (5, .iface 235 (.pointer (some (errAt es 1))))] [LoadsAs Tryd.prog 24 (⟨0, 0, none⟩) (.iface 235 (.pointer (some (errAt es 1)))) wd_2] (by kernel_rfl) (by kernel_rfl) ⟨loads1 rfl ((hb_3.cell (World.block_lt_of_cell? _ _ (hE.load 1 0 (by decide) (by decide) rfl))).trans (hE.load 1 0 (by decide) (by decide) rfl)), trivial⟩ ?_
    refine XS_nil ?_
    refine X_ret ?_
    refine RX.ret_ok (P := Tryd.prog) (fn := Tryd.f85) (N := 28) (R := R_) [.int .i32 0, .iface 235 (.pointer (some (errAt es 1)))] (by kernel_rfl) (hR_ _ _ ?_)
    rw [show U.pairP a b = (0, 1) from if_pos (by omega)]
    exact ⟨rfl, hb_3⟩
  · refine XL_run 3 [(7, .eq (.bool false))] [(0, .int .i32 a), (1, .int .i32 b), (8, .bool false), (9, .int .i32 a)] w [Value.bool (decide (a < 55296)) = Value.bool false] (by kernel_rfl) ⟨congrArg Value.bool (decide_eq_false (c_1)), trivial⟩ ?_
    by_cases c_5 : a ≥ 56320
    · refine XL_run 10 [(10, .eq (.bool true))] [(0, .int .i32 a), (1, .int .i32 b), (19, .bool true)] w [Value.bool (decide (a ≥ 56320)) = Value.bool true] (by kernel_rfl) ⟨congrArg Value.bool (decide_eq_true (c_5)), trivial⟩ ?_
      refine XL_nil ?_
      refine X_cond true rfl ?_
      refine X_seq ?_
      refine X_still (by kernel_rfl) (by kernel_rfl) (fun wd_6 hb_7 hh_8 => ?_)
      refine XS_run 3 [(20, .load (.iface 235 (.pointer (some (errAt es 1)))))] [.iface 235 (.pointer (some (errAt es 1))), .int .i32 0, .iface 235 (.pointer (some (errAt es 1)))] [(4, .int .i32 0), (5, .iface 235 (.pointer (some (errAt es 1))))] [LoadsAs Tryd.prog 24 (⟨0, 0, none⟩) (.iface 235 (.pointer (some (errAt es 1)))) wd_6] (by kernel_rfl) (by kernel_rfl) ⟨loads1 rfl ((hb_7.cell (World.block_lt_of_cell? _ _ (hE.load 1 0 (by decide) (by decide) rfl))).trans (hE.load 1 0 (by decide) (by decide) rfl)), trivial⟩ ?_
      refine XS_nil ?_
      refine X_ret ?_
      refine RX.ret_ok (P := Tryd.prog) (fn := Tryd.f85) (N := 28) (R := R_) [.int .i32 0, .iface 235 (.pointer (some (errAt es 1)))] (by kernel_rfl) (hR_ _ _ ?_)
      rw [show U.pairP a b = (0, 1) from if_pos (by omega)]
      exact ⟨rfl, hb_7⟩
    · refine XL_run 4 [(10, .eq (.bool false))] [(0, .int .i32 a), (1, .int .i32 b), (12, .bool false), (13, .int .i32 b)] w [Value.bool (decide (a ≥ 56320)) = Value.bool false] (by kernel_rfl) ⟨congrArg Value.bool (decide_eq_false (c_5)), trivial⟩ ?_
      by_cases c_9 : b < 56320
      · refine XL_run 6 [(14, .eq (.bool true))] [(0, .int .i32 a), (1, .int .i32 b), (19, .bool true)] w [Value.bool (decide (b < 56320)) = Value.bool true] (by kernel_rfl) ⟨congrArg Value.bool (decide_eq_true (c_9)), trivial⟩ ?_
        refine XL_nil ?_
        refine X_cond true rfl ?_
        refine X_seq ?_
        refine X_still (by kernel_rfl) (by kernel_rfl) (fun wd_10 hb_11 hh_12 => ?_)
        refine XS_run 3 [(20, .load (.iface 235 (.pointer (some (errAt es 1)))))] [.iface 235 (.pointer (some (errAt es 1))), .int .i32 0, .iface 235 (.pointer (some (errAt es 1)))] [(4, .int .i32 0), (5, .iface 235 (.pointer (some (errAt es 1))))] [LoadsAs Tryd.prog 24 (⟨0, 0, none⟩) (.iface 235 (.pointer (some (errAt es 1)))) wd_10] (by kernel_rfl) (by kernel_rfl) ⟨loads1 rfl ((hb_11.cell (World.block_lt_of_cell? _ _ (hE.load 1 0 (by decide) (by decide) rfl))).trans (hE.load 1 0 (by decide) (by decide) rfl)), trivial⟩ ?_
        refine XS_nil ?_
        refine X_ret ?_
        refine RX.ret_ok (P := Tryd.prog) (fn := Tryd.f85) (N := 28) (R := R_) [.int .i32 0, .iface 235 (.pointer (some (errAt es 1)))] (by kernel_rfl) (hR_ _ _ ?_)
        rw [show U.pairP a b = (0, 1) from if_pos (by omega)]
        exact ⟨rfl, hb_11⟩
      · refine XL_run 4 [(14, .eq (.bool false))] [(0, .int .i32 a), (1, .int .i32 b), (16, .bool false), (17, .int .i32 b)] w [Value.bool (decide (b < 56320)) = Value.bool false] (by kernel_rfl) ⟨congrArg Value.bool (decide_eq_false (c_9)), trivial⟩ ?_
        by_cases c_13 : b > 57343
        · refine XL_run 2 [(18, .eq (.bool true))] [(0, .int .i32 a), (1, .int .i32 b), (19, .bool true)] w [Value.bool (decide (b > 57343)) = Value.bool true] (by kernel_rfl) ⟨congrArg Value.bool (decide_eq_true (c_13)), trivial⟩ ?_
          refine XL_nil ?_
          refine X_cond true rfl ?_
          refine X_seq ?_
          refine X_still (by kernel_rfl) (by kernel_rfl) (fun wd_14 hb_15 hh_16 => ?_)
          refine XS_run 3 [(20, .load (.iface 235 (.pointer (some (errAt es 1)))))] [.iface 235 (.pointer (some (errAt es 1))), .int .i32 0, .iface 235 (.pointer (some (errAt es 1)))] [(4, .int .i32 0), (5, .iface 235 (.pointer (some (errAt es 1))))] [LoadsAs Tryd.prog 24 (⟨0, 0, none⟩) (.iface 235 (.pointer (some (errAt es 1)))) wd_14] (by kernel_rfl) (by kernel_rfl) ⟨loads1 rfl ((hb_15.cell (World.block_lt_of_cell? _ _ (hE.load 1 0 (by decide) (by decide) rfl))).trans (hE.load 1 0 (by decide) (by decide) rfl)), trivial⟩ ?_
          refine XS_nil ?_
          refine X_ret ?_
          refine RX.ret_ok (P := Tryd.prog) (fn := Tryd.f85) (N := 28) (R := R_) [.int .i32 0, .iface 235 (.pointer (some (errAt es 1)))] (by kernel_rfl) (hR_ _ _ ?_)
          rw [show U.pairP a b = (0, 1) from if_pos (by omega)]
          exact ⟨rfl, hb_15⟩
        · refine XL_run 2 [(18, .eq (.bool false))] [(0, .int .i32 a), (1, .int .i32 b), (19, .bool false)] w [Value.bool (decide (b > 57343)) = Value.bool false] (by kernel_rfl) ⟨congrArg Value.bool (decide_eq_false (c_13)), trivial⟩ ?_
          refine XL_nil ?_
          refine X_cond false rfl ?_
          refine X_skip ?_
          refine X_seq ?_
          refine X_region ?_
          refine XL_run 9 [(22, .eq (.int .i32 (a - 55296))), (23, .eq (.int .i32 ((a - 55296) * 1024))), (24, .eq (.int .i32 (65536 + ((a - 55296) * 1024)))), (26, .eq (.int .i32 (b - 56320))), (27, .eq (.int .i32 ((65536 + ((a - 55296) * 1024)) + (b - 56320))))] [(4, .int .i32 ((65536 + ((a - 55296) * 1024)) + (b - 56320))), (5, .nilIface)] w [Value.int .i32 (IntKind.i32.wrap (a - 55296)) = Value.int .i32 (a - 55296), Value.int .i32 (IntKind.i32.wrap ((a - 55296) * 1024)) = Value.int .i32 ((a - 55296) * 1024), Value.int .i32 (IntKind.i32.wrap (65536 + ((a - 55296) * 1024))) = Value.int .i32 (65536 + ((a - 55296) * 1024)), Value.int .i32 (IntKind.i32.wrap (b - 56320)) = Value.int .i32 (b - 56320), Value.int .i32 (IntKind.i32.wrap ((65536 + ((a - 55296) * 1024)) + (b - 56320))) = Value.int .i32 ((65536 + ((a - 55296) * 1024)) + (b - 56320))] (by kernel_rfl) ⟨wr_i32 (by omega) (by omega), wr_i32 (by omega) (by omega), wr_i32 (by omega) (by omega), wr_i32 (by omega) (by omega), wr_i32 (by omega) (by omega), trivial⟩ ?_
          refine XL_nil ?_
          refine X_ret ?_
          refine RX.ret_ok (P := Tryd.prog) (fn := Tryd.f85) (N := 28) (R := R_) [.int .i32 ((65536 + ((a - 55296) * 1024)) + (b - 56320)), .nilIface] (by kernel_rfl) (hR_ _ _ ?_)
          rw [show U.pairP a b = (65536 + (a - 55296) * 1024 + (b - 56320), 0) from if_neg (by omega)]
          exact ⟨rfl, (Below.refl _ _)⟩
end Go.Proofs.YtkehomiogkoomaaDoor
