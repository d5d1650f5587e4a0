/- What scalars.Len, at, Cut, At, Width, Text, List and Pair answer. Conditions: sizes, the tables of utf8, the errors' variables. -/
import Derived.Test.YtekfdfafhfhfbaaDoorUtf3
import Derived.Test.YtekfdfafhfhfbaaDoorStr
import Derived.Test.YtekfdfafhfhfbaaDoorAn
set_option linter.unusedVariables false
set_option linter.unusedSimpArgs false
set_option maxRecDepth 100000
namespace Go.Proofs.YtekfdfafhfhfbaaDoor
open Go Go.RowKit Go.Proofs.YtekfdfafhfhfbaaDoorW.PrintWords RX
theorem ent101 : Ent Tryd.prog 101 := ent_of Tryd.func101 (by kernel_rfl) rfl
theorem ent129 : Ent Tryd.prog 129 := ent_of Tryd.func129 (by kernel_rfl) rfl
theorem ent106 : Ent Tryd.prog 106 := ent_of Tryd.func106 (by kernel_rfl) rfl
theorem ent115 : Ent Tryd.prog 115 := ent_of Tryd.func115 (by kernel_rfl) rfl
theorem ent125 : Ent Tryd.prog 125 := ent_of Tryd.func125 (by kernel_rfl) rfl
theorem info21 : (Tryd.prog.info? 21).map (fun i => (i.zero, i.size, i.bytes)) = some (some (.int .i32 0), 1, 4) := by kernel_rfl
theorem len_any (s : ByteArray) (w : World) (hs : s.size ≤ 1000000000) (hT : Tabs w) (es : List Addr) (hE : ErrsA w es) : Calls Tryd.prog 101 #[.string s] w fun e w' => e = .returned (.tuple #[.int .i64 ((U.lenP s).1 : Int), errV es (U.lenP s).2]) ∧ Below w.heap.size w w' := by
  refine RX.enter Tryd.func101 rfl 10 rfl [(0, .string s)] rfl (by kernel_rfl) (fun R_ hR_ => ?_)
  refine X_seq ?_
  refine X_region ?_
  refine XL_run 2 [] [(0, .string s)] w [] (by kernel_rfl) trivial ?_
  refine XL_nil ?_
  refine X_seq ?_
  refine X_seq ?_
  refine X_region ?_
  refine XL_run 1 [] [(0, .string s), (4, .string s)] w [] (by kernel_rfl) trivial ?_
  refine XL_call 115 rfl rfl rfl ent115 [.string s] (by kernel_rfl) (Tryd.utf8_ValidString s _ (by omega) (hT.below (Below.refl _ _))) ?_
  rintro e w_1 ⟨rfl, hb_2⟩; refine ⟨_, rfl, ?_⟩
  rw [U.valid_utf]
  by_cases c_3 : decide (U.tl s = []) = true
  · rw [show (decide (U.tl s = []) : Bool) = true from by simpa using c_3]
    refine XL_run 1 [] [(0, .string s), (6, .bool false)] w_1 [] (by kernel_rfl) trivial ?_
    refine XL_nil ?_
    refine X_cond false rfl ?_
    refine X_skip ?_
    refine X_seq ?_
    refine X_region ?_
    refine XL_run 1 [] [(8, .string s)] w_1 [] (by kernel_rfl) trivial ?_
    refine XL_call 125 rfl rfl rfl ent125 [.string s] (by kernel_rfl) (Tryd.utf8_RuneCountInString s _ (by omega)) ?_
    rintro e w_4 ⟨rfl, pos_5, hw_6⟩; refine ⟨_, rfl, ?_⟩
    have hb_7 : Below w_1.heap.size w_1 w_4 := by rw [hw_6]; exact (Below.refl _ _).alloc (Nat.le_refl _) _
    rw [U.count_utf (of_decide_eq_true (p := U.tl s = []) c_3)]
    refine XL_run 2 [] [(2, .int .i64 ((U.sc s).length : Int)), (3, .nilIface)] w_4 [] (by kernel_rfl) trivial ?_
    refine XL_nil ?_
    refine X_ret ?_
    refine RX.ret_ok (P := Tryd.prog) (fn := Tryd.f101) (N := 10) (R := R_) [.int .i64 ((U.sc s).length : Int), .nilIface] (by kernel_rfl) (hR_ _ _ ?_)
    rw [show U.lenP s = ((U.sc s).length, 0) from if_pos (of_decide_eq_true (p := U.tl s = []) c_3)]
    exact ⟨rfl, (bt hb_2 hb_7)⟩
  · rw [show (decide (U.tl s = []) : Bool) = false from by simpa using c_3]
    refine XL_run 1 [] [(0, .string s), (6, .bool true)] w_1 [] (by kernel_rfl) trivial ?_
    refine XL_nil ?_
    refine X_cond true rfl ?_
    refine X_seq ?_
    refine X_still (by kernel_rfl) (by kernel_rfl) (fun wd_8 hb_9 hh_10 => ?_)
    refine XS_run 3 [(7, .load (.iface 184 (.pointer (some (errAt es 1)))))] [.iface 184 (.pointer (some (errAt es 1))), .int .i64 0, .iface 184 (.pointer (some (errAt es 1)))] [(2, .int .i64 0), (3, .iface 184 (.pointer (some (errAt es 1))))] [LoadsAs Tryd.prog 27 (⟨4, 0, none⟩) (.iface 184 (.pointer (some (errAt es 1)))) wd_8] (by kernel_rfl) (by kernel_rfl) ⟨loads1 rfl (((bt hb_2 hb_9).cell (World.block_lt_of_cell? _ _ (hE.load 1 4 (by decide) (by decide) rfl))).trans (hE.load 1 4 (by decide) (by decide) rfl)), trivial⟩ ?_
    refine XS_nil ?_
    refine X_ret ?_
    refine RX.ret_ok (P := Tryd.prog) (fn := Tryd.f101) (N := 10) (R := R_) [.int .i64 0, .iface 184 (.pointer (some (errAt es 1)))] (by kernel_rfl) (hR_ _ _ ?_)
    rw [show U.lenP s = (0, 1) from if_neg (of_decide_eq_false (p := U.tl s = []) (Bool.eq_false_iff.2 c_3))]
    exact ⟨rfl, (bt hb_2 hb_9)⟩
theorem at_any (s : ByteArray) (n : Int) (w : World) (hs : s.size ≤ 1000000000) (hn0 : -9223372036854775808 ≤ n) (hn1 : n ≤ 9223372036854775807) (hT : Tabs w) (es : List Addr) (hE : ErrsOn [1, 12] w es) : Calls Tryd.prog 129 #[.string s, .int .i64 n] w fun e w' => e = .returned (.tuple #[.int .i64 ((U.atP s n).1 : Int), errV es (U.atP s n).2]) ∧ Below w.heap.size w w' := by
  refine RX.enter Tryd.func129 rfl 29 rfl [(0, .string s), (1, .int .i64 n)] rfl (by kernel_rfl) (fun R_ hR_ => ?_)
  refine X_seq ?_
  refine X_region ?_
  refine XL_run 2 [] [(0, .string s), (1, .int .i64 n)] w [] (by kernel_rfl) trivial ?_
  refine XL_nil ?_
  refine X_seq ?_
  refine X_seq ?_
  refine X_region ?_
  refine XL_run 1 [] [(0, .string s), (1, .int .i64 n), (7, .string s)] w [] (by kernel_rfl) trivial ?_
  refine XL_call 115 rfl rfl rfl ent115 [.string s] (by kernel_rfl) (Tryd.utf8_ValidString s _ (by omega) (hT.below (Below.refl _ _))) ?_
  rintro e w_1 ⟨rfl, hb_2⟩; refine ⟨_, rfl, ?_⟩
  rw [U.valid_utf]
  by_cases c_3 : decide (U.tl s = []) = true
  · rw [show (decide (U.tl s = []) : Bool) = true from by simpa using c_3]
    refine XL_run 1 [] [(0, .string s), (1, .int .i64 n), (9, .bool false)] w_1 [] (by kernel_rfl) trivial ?_
    refine XL_nil ?_
    refine X_cond false rfl ?_
    refine X_skip ?_
    refine X_seq ?_
    refine X_seq ?_
    refine X_region ?_
    refine XL_run 1 [] [(0, .string s), (1, .int .i64 n), (11, .int .i64 n)] w_1 [] (by kernel_rfl) trivial ?_
    by_cases c_4 : n < 0
    · refine XL_run 1 [(12, .eq (.bool true))] [(0, .string s), (1, .int .i64 n), (12, .bool true)] w_1 [Value.bool (decide (n < 0)) = Value.bool true] (by kernel_rfl) ⟨congrArg Value.bool (decide_eq_true (c_4)), trivial⟩ ?_
      refine XL_nil ?_
      refine X_cond true rfl ?_
      refine X_seq ?_
      refine X_still (by kernel_rfl) (by kernel_rfl) (fun wd_5 hb_6 hh_7 => ?_)
      refine XS_run 3 [(13, .load (.iface 184 (.pointer (some (errAt es 12)))))] [.iface 184 (.pointer (some (errAt es 12))), .int .i64 0, .iface 184 (.pointer (some (errAt es 12)))] [(4, .int .i64 0), (5, .iface 184 (.pointer (some (errAt es 12))))] [LoadsAs Tryd.prog 27 (⟨5, 0, none⟩) (.iface 184 (.pointer (some (errAt es 12)))) wd_5] (by kernel_rfl) (by kernel_rfl) ⟨loads1 rfl (((bt hb_2 hb_6).cell (World.block_lt_of_cell? _ _ (hE.load 12 5 (by decide) (by decide) rfl))).trans (hE.load 12 5 (by decide) (by decide) rfl)), trivial⟩ ?_
      refine XS_nil ?_
      refine X_ret ?_
      refine RX.ret_ok (P := Tryd.prog) (fn := Tryd.f129) (N := 29) (R := R_) [.int .i64 0, .iface 184 (.pointer (some (errAt es 12)))] (by kernel_rfl) (hR_ _ _ ?_)
      have ha : U.atP s n = if n < 0 then (0, 12) else if n ≤ (U.sc s).length then (U.pl s n.toNat, 0) else (0, 12) := if_pos (of_decide_eq_true (p := U.tl s = []) c_3)
      rw [if_pos (by omega)] at ha
      rw [ha]
      exact ⟨rfl, (bt hb_2 hb_6)⟩
    · refine XL_run 1 [(12, .eq (.bool false))] [(0, .string s), (1, .int .i64 n), (12, .bool false)] w_1 [Value.bool (decide (n < 0)) = Value.bool false] (by kernel_rfl) ⟨congrArg Value.bool (decide_eq_false (c_4)), trivial⟩ ?_
      refine XL_nil ?_
      refine X_cond false rfl ?_
      refine X_skip ?_
      refine X_seq ?_
      refine X_seq ?_
      refine X_region ?_
      refine XL_run 1 [] [(0, .string s), (1, .int .i64 n), (14, .string s)] w_1 [] (by kernel_rfl) trivial ?_
      refine XL_range (s := s) rfl rfl rfl Tryd.underlying9 rfl (fun w_8 hb_9 hi_10 => ?_)
      refine XL_nil ?_
      refine X_block ?_
      refine X_loop (ι := Nat × Int) (fun ⟨i, m⟩ => [(0, .string s), (1, .int .i64 m), (15, .pointer (some ⟨w_1.heap.size, 0, none⟩))]) (fun ⟨i, m⟩ wl => i ≤ (U.sc s).length ∧ (i : Int) ≤ n ∧ m = n - (i : Int) ∧ wl.heap[w_1.heap.size]? = some (.stringIter s (U.pl s i)) ∧ Below w.heap.size w wl) (fun ⟨i, m⟩ => (U.sc s).length - i) (0, n) ⟨by omega, by omega, by omega, by rw [U.pl_zero]; exact hi_10, (bt hb_2 hb_9)⟩ (by kernel_rfl) ?_
      rintro ⟨i, m⟩ wl ⟨hi, hin, hm, hit, HB⟩
      refine X_seq ?_
      refine X_region ?_
      refine XL_next (s := s) (g := w_1.heap.size) (pos := (U.pl s i)) rfl rfl rfl rfl hit ?_ ?_
      · intro hp_11 w_12 hg_13 hi_14
        refine XL_run 1 [] [(0, .string s), (1, .int .i64 m), (15, .pointer (some ⟨w_1.heap.size, 0, none⟩)), (16, .tuple #[.bool true, .int .i64 ((U.pl s i) : Int), .int .i32 ((Utf8.decode s (U.pl s i)).1 : Int)]), (17, .bool true)] w_12 [] (by kernel_rfl) trivial ?_
        refine XL_nil ?_
        refine X_seq ?_
        refine X_cond true rfl ?_
        refine X_skip ?_
        refine X_block ?_
        refine X_seq ?_
        refine X_region ?_
        refine XL_run 2 [] [(0, .string s), (1, .int .i64 m), (6, .int .i64 ((U.pl s i) : Int)), (15, .pointer (some ⟨w_1.heap.size, 0, none⟩))] w_12 [] (by kernel_rfl) trivial ?_
        refine XL_nil ?_
        refine X_seq ?_
        refine X_seq ?_
        refine X_region ?_
        refine XL_run 1 [] [(0, .string s), (1, .int .i64 m), (6, .int .i64 ((U.pl s i) : Int)), (15, .pointer (some ⟨w_1.heap.size, 0, none⟩)), (19, .int .i64 m)] w_12 [] (by kernel_rfl) trivial ?_
        by_cases c_15 : m = 0
        · refine XL_run 1 [(20, .eq (.bool true))] [(0, .string s), (1, .int .i64 m), (6, .int .i64 ((U.pl s i) : Int)), (15, .pointer (some ⟨w_1.heap.size, 0, none⟩)), (20, .bool true)] w_12 [Value.bool (m == 0) = Value.bool true] (by kernel_rfl) ⟨congrArg Value.bool (beq_iff_eq.2 (c_15)), trivial⟩ ?_
          refine XL_nil ?_
          refine X_cond true rfl ?_
          refine X_seq ?_
          refine X_region ?_
          refine XL_run 3 [] [(4, .int .i64 ((U.pl s i) : Int)), (5, .nilIface)] w_12 [] (by kernel_rfl) trivial ?_
          refine XL_nil ?_
          refine X_ret ?_
          refine RX.ret_ok (P := Tryd.prog) (fn := Tryd.f129) (N := 29) (R := R_) [.int .i64 ((U.pl s i) : Int), .nilIface] (by kernel_rfl) (hR_ _ _ ?_)
          have ha : U.atP s n = if n < 0 then (0, 12) else if n ≤ (U.sc s).length then (U.pl s n.toNat, 0) else (0, 12) := if_pos (of_decide_eq_true (p := U.tl s = []) c_3)
          have hlt := (U.pl_lt_iff (of_decide_eq_true (p := U.tl s = []) c_3) i hi).1 hp_11
          rw [if_neg (by omega), if_pos (by omega), show n.toNat = i from by omega] at ha
          rw [ha]
          exact ⟨rfl, (bg HB hg_13 (hb_2).size)⟩
        · refine XL_run 1 [(20, .eq (.bool false))] [(0, .string s), (1, .int .i64 m), (6, .int .i64 ((U.pl s i) : Int)), (15, .pointer (some ⟨w_1.heap.size, 0, none⟩)), (20, .bool false)] w_12 [Value.bool (m == 0) = Value.bool false] (by kernel_rfl) ⟨congrArg Value.bool (beq_eq_false_iff_ne.2 (c_15)), trivial⟩ ?_
          refine XL_nil ?_
          refine X_cond false rfl ?_
          refine X_skip ?_
          refine X_region ?_
          refine XL_run 3 [(23, .eq (.int .i64 (m - 1)))] [(0, .string s), (1, .int .i64 (m - 1)), (15, .pointer (some ⟨w_1.heap.size, 0, none⟩))] w_12 [Value.int .i64 (IntKind.i64.wrap (m - 1)) = Value.int .i64 (m - 1)] (by kernel_rfl) ⟨wr_i64 (by omega) (by omega), trivial⟩ ?_
          refine XL_nil ?_
          have hlt := (U.pl_lt_iff (of_decide_eq_true (p := U.tl s = []) c_3) i hi).1 hp_11
          refine ⟨(i + 1, m - 1), by kernel_rfl, ?_, ?_⟩
          · have hst := U.pl_step (of_decide_eq_true (p := U.tl s = []) c_3) i hlt
            have hdc : (Utf8.decode s (U.pl s i)).2 = (U.enc (U.sc s)[i]).length := by rw [hst.1]
            rw [hdc, ← hst.2.1] at hi_14
            exact ⟨by omega, by omega, by omega, hi_14, (bg HB hg_13 (hb_2).size)⟩
          · (try dsimp only); omega
      · intro hp_16
        refine XL_run 1 [] [(0, .string s), (1, .int .i64 m), (15, .pointer (some ⟨w_1.heap.size, 0, none⟩)), (16, .tuple #[.bool false]), (17, .bool false)] wl [] (by kernel_rfl) trivial ?_
        refine XL_nil ?_
        refine X_seq ?_
        refine X_cond false rfl ?_
        refine X_exit ?_
        refine X_seq ?_
        refine X_seq ?_
        refine X_region ?_
        refine XL_run 1 [] [(0, .string s), (24, .int .i64 m)] wl [] (by kernel_rfl) trivial ?_
        by_cases c_17 : m > 0
        · refine XL_run 1 [(25, .eq (.bool true))] [(0, .string s), (25, .bool true)] wl [Value.bool (decide (m > 0)) = Value.bool true] (by kernel_rfl) ⟨congrArg Value.bool (decide_eq_true (c_17)), trivial⟩ ?_
          refine XL_nil ?_
          refine X_cond true rfl ?_
          refine X_seq ?_
          refine X_still (by kernel_rfl) (by kernel_rfl) (fun wd_18 hb_19 hh_20 => ?_)
          refine XS_run 3 [(26, .load (.iface 184 (.pointer (some (errAt es 12)))))] [.iface 184 (.pointer (some (errAt es 12))), .int .i64 0, .iface 184 (.pointer (some (errAt es 12)))] [(4, .int .i64 0), (5, .iface 184 (.pointer (some (errAt es 12))))] [LoadsAs Tryd.prog 27 (⟨5, 0, none⟩) (.iface 184 (.pointer (some (errAt es 12)))) wd_18] (by kernel_rfl) (by kernel_rfl) ⟨loads1 rfl (((bt HB hb_19).cell (World.block_lt_of_cell? _ _ (hE.load 12 5 (by decide) (by decide) rfl))).trans (hE.load 12 5 (by decide) (by decide) rfl)), trivial⟩ ?_
          refine XS_nil ?_
          refine X_ret ?_
          refine RX.ret_ok (P := Tryd.prog) (fn := Tryd.f129) (N := 29) (R := R_) [.int .i64 0, .iface 184 (.pointer (some (errAt es 12)))] (by kernel_rfl) (hR_ _ _ ?_)
          have ha : U.atP s n = if n < 0 then (0, 12) else if n ≤ (U.sc s).length then (U.pl s n.toNat, 0) else (0, 12) := if_pos (of_decide_eq_true (p := U.tl s = []) c_3)
          have hend : i = (U.sc s).length := by have := mt (U.pl_lt_iff (of_decide_eq_true (p := U.tl s = []) c_3) i hi).2 hp_16; omega
          rw [if_neg (by omega), if_neg (by omega)] at ha
          rw [ha]
          exact ⟨rfl, (bt HB hb_19)⟩
        · refine XL_run 1 [(25, .eq (.bool false))] [(0, .string s), (25, .bool false)] wl [Value.bool (decide (m > 0)) = Value.bool false] (by kernel_rfl) ⟨congrArg Value.bool (decide_eq_false (c_17)), trivial⟩ ?_
          refine XL_nil ?_
          refine X_cond false rfl ?_
          refine X_skip ?_
          refine X_seq ?_
          refine X_region ?_
          refine XL_run 4 [] [(4, .int .i64 (s.size : Int)), (5, .nilIface)] wl [] (by kernel_rfl) trivial ?_
          refine XL_nil ?_
          refine X_ret ?_
          refine RX.ret_ok (P := Tryd.prog) (fn := Tryd.f129) (N := 29) (R := R_) [.int .i64 (s.size : Int), .nilIface] (by kernel_rfl) (hR_ _ _ ?_)
          have ha : U.atP s n = if n < 0 then (0, 12) else if n ≤ (U.sc s).length then (U.pl s n.toNat, 0) else (0, 12) := if_pos (of_decide_eq_true (p := U.tl s = []) c_3)
          have hend : i = (U.sc s).length := by have := mt (U.pl_lt_iff (of_decide_eq_true (p := U.tl s = []) c_3) i hi).2 hp_16; omega
          rw [if_neg (by omega), if_pos (by omega), show n.toNat = (U.sc s).length from by omega, U.pl_all (of_decide_eq_true (p := U.tl s = []) c_3)] at ha
          rw [ha]
          exact ⟨rfl, HB⟩
  · rw [show (decide (U.tl s = []) : Bool) = false from by simpa using c_3]
    refine XL_run 1 [] [(0, .string s), (1, .int .i64 n), (9, .bool true)] w_1 [] (by kernel_rfl) trivial ?_
    refine XL_nil ?_
    refine X_cond true rfl ?_
    refine X_seq ?_
    refine X_still (by kernel_rfl) (by kernel_rfl) (fun wd_21 hb_22 hh_23 => ?_)
    refine XS_run 3 [(10, .load (.iface 184 (.pointer (some (errAt es 1)))))] [.iface 184 (.pointer (some (errAt es 1))), .int .i64 0, .iface 184 (.pointer (some (errAt es 1)))] [(4, .int .i64 0), (5, .iface 184 (.pointer (some (errAt es 1))))] [LoadsAs Tryd.prog 27 (⟨4, 0, none⟩) (.iface 184 (.pointer (some (errAt es 1)))) wd_21] (by kernel_rfl) (by kernel_rfl) ⟨loads1 rfl (((bt hb_2 hb_22).cell (World.block_lt_of_cell? _ _ (hE.load 1 4 (by decide) (by decide) rfl))).trans (hE.load 1 4 (by decide) (by decide) rfl)), trivial⟩ ?_
    refine XS_nil ?_
    refine X_ret ?_
    refine RX.ret_ok (P := Tryd.prog) (fn := Tryd.f129) (N := 29) (R := R_) [.int .i64 0, .iface 184 (.pointer (some (errAt es 1)))] (by kernel_rfl) (hR_ _ _ ?_)
    rw [show U.atP s n = (0, 1) from if_neg (of_decide_eq_false (p := U.tl s = []) (Bool.eq_false_iff.2 c_3))]
    exact ⟨rfl, (bt hb_2 hb_22)⟩
theorem atP_le (s : ByteArray) (n : Int) : (U.atP s n).1 ≤ s.size := by
  unfold U.atP
  split
  · rename_i h
    split
    · exact Nat.zero_le _
    · split
      · exact U.pl_le h _ (by omega)
      · exact Nat.zero_le _
  · exact Nat.zero_le _
theorem cut_any (s : ByteArray) (n : Int) (w : World) (hs : s.size ≤ 1000000000) (hn0 : -9223372036854775808 ≤ n) (hn1 : n ≤ 9223372036854775807) (hT : Tabs w) (es : List Addr) (hE : ErrsOn [1, 12] w es) : Calls Tryd.prog 106 #[.string s, .int .i64 n] w fun e w' => e = .returned (.tuple #[.string (U.cutP s n).1, .string (U.cutP s n).2.1, errV es (U.cutP s n).2.2]) ∧ Below w.heap.size w w' := by
  refine RX.enter Tryd.func106 rfl 24 rfl [(0, .string s), (1, .int .i64 n)] rfl (by kernel_rfl) (fun R_ hR_ => ?_)
  refine X_seq ?_
  refine X_region ?_
  refine XL_run 3 [] [(0, .string s), (1, .int .i64 n)] w [] (by kernel_rfl) trivial ?_
  refine XL_nil ?_
  refine X_seq ?_
  refine X_region ?_
  refine XL_run 2 [] [(0, .string s), (10, .string s), (11, .int .i64 n)] w [] (by kernel_rfl) trivial ?_
  refine XL_call 129 rfl rfl rfl ent129 [.string s, .int .i64 n] (by kernel_rfl) (at_any s n _ (by omega) (by omega) (by omega) (hT.below (Below.refl _ _)) es (hE.below (Below.refl _ _))) ?_
  rintro e w_1 ⟨rfl, hb_2⟩; refine ⟨_, rfl, ?_⟩
  have hle := atP_le s n
  have hsz : s.size ≤ 1000000000 := hs
  refine XL_run 5 [] [(0, .string s), (7, .int .i64 ((U.atP s n).1 : Int)), (8, errV es ((U.atP s n).2))] w_1 [] (by kernel_rfl) trivial ?_
  refine XL_nil ?_
  refine X_seq ?_
  refine X_seq ?_
  refine X_region ?_
  refine XL_run 1 [] [(0, .string s), (7, .int .i64 ((U.atP s n).1 : Int)), (8, errV es ((U.atP s n).2)), (15, errV es ((U.atP s n).2))] w_1 [] (by kernel_rfl) trivial ?_
  by_cases c_3 : (U.atP s n).2 = 0
  · rw [show errV es ((U.atP s n).2) = .nilIface from by rw [c_3]; rfl]
    refine XL_run 1 [] [(0, .string s), (7, .int .i64 ((U.atP s n).1 : Int)), (8, .nilIface), (16, .bool false)] w_1 [] (by kernel_rfl) trivial ?_
    refine XL_nil ?_
    refine X_cond false rfl ?_
    refine X_skip ?_
    refine X_seq ?_
    refine X_still (by kernel_rfl) (by kernel_rfl) (fun wd_4 hb_5 hh_6 => ?_)
    refine XS_run 9 [(20, .as (.string (s.extract 0 (((U.atP s n).1 : Int).toNat)))), (23, .as (.string (s.extract (((U.atP s n).1 : Int).toNat) s.size)))] [.string s, .int .i64 ((U.atP s n).1 : Int), .string (s.extract 0 (((U.atP s n).1 : Int).toNat)), .string s, .int .i64 ((U.atP s n).1 : Int), .string (s.extract (((U.atP s n).1 : Int).toNat) s.size), .string (s.extract 0 (((U.atP s n).1 : Int).toNat)), .string (s.extract (((U.atP s n).1 : Int).toNat) s.size), .nilIface] [(4, .string (s.extract 0 (((U.atP s n).1 : Int).toNat))), (5, .string (s.extract (((U.atP s n).1 : Int).toNat) s.size)), (6, .nilIface)] [RunsAs Tryd.prog [(18, .string s), (19, .int .i64 ((U.atP s n).1 : Int))] (Go.Op.slice 9 (Go.Operand.tmp 18) none (some (Go.Operand.tmp 19)) none) 9 (.string (s.extract 0 (((U.atP s n).1 : Int).toNat))) wd_4, RunsAs Tryd.prog [(21, .string s), (22, .int .i64 ((U.atP s n).1 : Int))] (Go.Op.slice 9 (Go.Operand.tmp 21) (some (Go.Operand.tmp 22)) none none) 9 (.string (s.extract (((U.atP s n).1 : Int).toNat) s.size)) wd_4] (by kernel_rfl) (by kernel_rfl) ⟨runs_slice_sh (h := ((U.atP s n).1 : Int)) Tryd.underlying9 rfl rfl (by omega) (by omega), runs_slice_sl (h := ((U.atP s n).1 : Int)) Tryd.underlying9 rfl rfl (by omega) (by omega), trivial⟩ ?_
    refine XS_nil ?_
    refine X_ret ?_
    refine RX.ret_ok (P := Tryd.prog) (fn := Tryd.f106) (N := 24) (R := R_) [.string (s.extract 0 (((U.atP s n).1 : Int).toNat)), .string (s.extract (((U.atP s n).1 : Int).toNat) s.size), .nilIface] (by kernel_rfl) (hR_ _ _ ?_)
    rw [show U.cutP s n = (s.extract 0 (U.atP s n).1, s.extract (U.atP s n).1 s.size, 0) from if_pos c_3]
    exact ⟨rfl, (bt hb_2 hb_5)⟩
  · rw [errV_pos es ((U.atP s n).2) (Nat.pos_of_ne_zero c_3)]
    refine XL_run 1 [] [(0, .string s), (7, .int .i64 ((U.atP s n).1 : Int)), (8, .iface 184 (.pointer (some (errAt es ((U.atP s n).2))))), (16, .bool true)] w_1 [] (by kernel_rfl) trivial ?_
    refine XL_nil ?_
    refine X_cond true rfl ?_
    refine X_seq ?_
    refine X_region ?_
    refine XL_run 4 [] [(4, .string (⟨#[]⟩ : ByteArray)), (5, .string (⟨#[]⟩ : ByteArray)), (6, .iface 184 (.pointer (some (errAt es ((U.atP s n).2)))))] w_1 [] (by kernel_rfl) trivial ?_
    refine XL_nil ?_
    refine X_ret ?_
    refine RX.ret_ok (P := Tryd.prog) (fn := Tryd.f106) (N := 24) (R := R_) [.string (⟨#[]⟩ : ByteArray), .string (⟨#[]⟩ : ByteArray), .iface 184 (.pointer (some (errAt es ((U.atP s n).2))))] (by kernel_rfl) (hR_ _ _ ?_)
    rw [show U.cutP s n = (⟨#[]⟩, ⟨#[]⟩, (U.atP s n).2) from if_neg c_3, errV_pos es _ (Nat.pos_of_ne_zero c_3)]
    exact ⟨rfl, hb_2⟩
end Go.Proofs.YtekfdfafhfhfbaaDoor
