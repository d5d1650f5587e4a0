/- What the reference's Compose, Apply, Diff, Invert and Transform answer: what the program's do. Conditions: sizes, lengths, the tables of utf8. -/
import Derived.Test.YtdkdajofppjnaaaDoorR3
set_option linter.unusedVariables false
set_option linter.unusedSimpArgs false
set_option maxRecDepth 100000
namespace Go.Proofs.YtdkdajofppjnaaaDoor
open Go Go.RowKit Go.Proofs.YtdkdajofppjnaaaDoorW.PrintWords RX
theorem chk2_ok {na nb : Bool} {xs ys : List At} (h : chk2 na xs nb ys = 0) : Good na xs ∧ Good nb ys := by
  unfold chk2 at h
  by_cases h1 : chkA na xs = 0
  · rw [if_pos h1] at h
    exact ⟨(chkA_good _ _).1 h1, (chkA_good _ _).1 h⟩
  · rw [if_neg h1] at h
    exact absurd h h1
theorem patched_any (A B : Option Addr) (c d : Nat) (xs ys : List At) (w : World) (hx : kAttr.C w A xs.length xs) (hy : kAttr.C w B ys.length ys) (rx : Ris xs) (ry : Ris ys) (hxc : xs.length ≤ c) (hyd : ys.length ≤ d) (hn : xs.length + ys.length ≤ 400000000) : Calls Tryd.prog 48 #[.slice A xs.length c, .slice B ys.length d] w fun e w' => ∃ A' c' zs, zs = comp (cmpF false) xs ys ∧ zs.length ≤ xs.length + ys.length ∧ e = .returned (.slice A' zs.length c') ∧ zs.length ≤ c' ∧ kAttr.R 55 w' w.heap.size (OkFrom w.heap.size) (.slice A' zs.length c') zs ∧ Below w.heap.size w w' := by
  refine RX.enter Tryd.func48 rfl 9 rfl [(0, .slice A xs.length c), (1, .slice B ys.length d)] rfl (by kernel_rfl) (fun R_ hR_ => ?_)
  refine X_seq ?_
  refine X_region ?_
  refine XL_run 1 [] [(0, .slice A xs.length c), (1, .slice B ys.length d)] w [] (by kernel_rfl) trivial ?_
  refine XL_nil ?_
  refine X_seq ?_
  refine X_region ?_
  refine XL_run 2 [] [(5, .slice A xs.length c), (6, .slice B ys.length d)] w [] (by kernel_rfl) trivial ?_
  refine XL_call 46 rfl rfl rfl ent46 [.slice A xs.length c, .slice B ys.length d] (by kernel_rfl) (join_any _ _ _ _ xs ys _ hx hy rx ry hyd hn) ?_
  rintro e w_8 ⟨A_1, c_2, zs_3, ez_4, lz_5, rfl, hl_6, hr_7, hb_9⟩; refine ⟨_, rfl, ?_⟩
  refine XL_call 47 rfl rfl rfl ent47 [.slice A_1 zs_3.length c_2] (by kernel_rfl) (whole_any _ _ zs_3 _ (Kd.R_C hr_7) (by omega)) ?_
  rintro e w_17 ⟨A_10, c_11, zs_12, ez_13, lz_14, rfl, hl_15, hr_16, hb_18⟩; refine ⟨_, rfl, ?_⟩
  refine XL_run 1 [] [(4, .slice A_10 zs_12.length c_11)] w_17 [] (by kernel_rfl) trivial ?_
  refine XL_nil ?_
  refine X_ret ?_
  refine RX.ret_ok (P := Tryd.prog) (fn := Tryd.f48) (N := 9) (R := R_) [.slice A_10 zs_12.length c_11] (by kernel_rfl) (hR_ _ _ ?_)
  exact ⟨_, _, _, by rw [ez_13, ez_4, whole_eq], by omega, rfl, (RX.Kd.R_len hr_16).2, RX.Kd.R_down hr_16 (hb_9).size, (bt hb_9 hb_18)⟩
theorem undo_any (A B : Option Addr) (c d : Nat) (xs ys : List At) (w : World) (hx : kAttr.C w A xs.length xs) (hy : kAttr.C w B ys.length ys) (gx : Good true xs) (gy : Good false ys) (hxc : xs.length ≤ c) (hyd : ys.length ≤ d) (hn : xs.length + ys.length + ys.length ≤ 400000000) : Calls Tryd.prog 50 #[.slice A xs.length c, .slice B ys.length d] w fun e w' => ∃ A' c' zs, zs = comp btwF (comp (cmpF false) ys xs) ys ∧ zs.length ≤ xs.length + ys.length + ys.length ∧ e = .returned (.slice A' zs.length c') ∧ zs.length ≤ c' ∧ kAttr.R 55 w' w.heap.size (OkFrom w.heap.size) (.slice A' zs.length c') zs ∧ Below w.heap.size w w' := by
  refine RX.enter Tryd.func50 rfl 10 rfl [(0, .slice A xs.length c), (1, .slice B ys.length d)] rfl (by kernel_rfl) (fun R_ hR_ => ?_)
  refine X_seq ?_
  refine X_region ?_
  refine XL_run 1 [] [(0, .slice A xs.length c), (1, .slice B ys.length d)] w [] (by kernel_rfl) trivial ?_
  refine XL_nil ?_
  refine X_seq ?_
  refine X_region ?_
  refine XL_run 2 [] [(1, .slice B ys.length d), (5, .slice B ys.length d), (6, .slice A xs.length c)] w [] (by kernel_rfl) trivial ?_
  refine XL_call 48 rfl rfl rfl ent48 [.slice B ys.length d, .slice A xs.length c] (by kernel_rfl) (patched_any _ _ _ _ ys xs _ hy hx gy.2 gx.2 hyd hxc (by omega)) ?_
  rintro e w_8 ⟨A_1, c_2, zs_3, ez_4, lz_5, rfl, hl_6, hr_7, hb_9⟩; refine ⟨_, rfl, ?_⟩
  refine XL_run 1 [] [(7, .slice A_1 zs_3.length c_2), (8, .slice B ys.length d)] w_8 [] (by kernel_rfl) trivial ?_
  refine XL_call 49 rfl rfl rfl ent49 [.slice A_1 zs_3.length c_2, .slice B ys.length d] (by kernel_rfl) (rbetween_any _ _ _ _ zs_3 ys _ (Kd.R_C hr_7) (Kd.C_below hy hb_9) (by rw [ez_4]; exact good_cmp false gy gx) gy hyd (by omega)) ?_
  rintro e w_17 ⟨A_10, c_11, zs_12, ez_13, lz_14, rfl, hl_15, hr_16, hb_18⟩; refine ⟨_, rfl, ?_⟩
  refine XL_run 1 [] [(4, .slice A_10 zs_12.length c_11)] w_17 [] (by kernel_rfl) trivial ?_
  refine XL_nil ?_
  refine X_ret ?_
  refine RX.ret_ok (P := Tryd.prog) (fn := Tryd.f50) (N := 10) (R := R_) [.slice A_10 zs_12.length c_11] (by kernel_rfl) (hR_ _ _ ?_)
  exact ⟨_, _, _, by rw [ez_13, ez_4], by omega, rfl, (RX.Kd.R_len hr_16).2, RX.Kd.R_down hr_16 (hb_9).size, (bt hb_9 hb_18)⟩
theorem rcomposeP_any (nulls : Bool) (A B : Option Addr) (c d : Nat) (xs ys : List At) (w : World) (hx : kAttr.C w A xs.length xs) (hy : kAttr.C w B ys.length ys) (hxc : xs.length ≤ c) (hyd : ys.length ≤ d) (hn : xs.length + ys.length + ys.length ≤ 400000000) (hsx : (∀ i, i < xs.length → (xs.getD i at0).1.size ≤ 100000000 ∧ (xs.getD i at0).2.2.2.size ≤ 100000000)) (hsy : (∀ i, i < ys.length → (ys.getD i at0).1.size ≤ 100000000 ∧ (ys.getD i at0).2.2.2.size ≤ 100000000)) (hT : Tabs w) : Calls Tryd.prog 18 #[.slice A xs.length c, .slice B ys.length d, .bool nulls] w fun e w' =>
    ∃ A' c', e = .returned (.tuple #[.slice A' (composeP nulls xs ys).1.length c', .int .i64 ((composeP nulls xs ys).2 : Int)]) ∧ kAttr.C w' A' (composeP nulls xs ys).1.length (composeP nulls xs ys).1 ∧ Below w.heap.size w w' := by
  refine RX.enter Tryd.func18 rfl 23 rfl [(0, .slice A xs.length c), (1, .slice B ys.length d), (2, .bool nulls)] rfl (by kernel_rfl) (fun R_ hR_ => ?_)
  refine X_seq ?_
  refine X_region ?_
  refine XL_run 2 [] [(0, .slice A xs.length c), (1, .slice B ys.length d), (2, .bool nulls)] w [] (by kernel_rfl) trivial ?_
  refine XL_nil ?_
  refine X_seq ?_
  refine X_region ?_
  refine XL_run 2 [] [(0, .slice A xs.length c), (1, .slice B ys.length d), (2, .bool nulls), (9, .slice A xs.length c), (10, .slice B ys.length d)] w [] (by kernel_rfl) trivial ?_
  refine XL_call 45 rfl rfl rfl ent45 [.slice A xs.length c, .slice B ys.length d, .bool true, .bool true] (by kernel_rfl) (r3both_any _ _ _ _ xs ys _ hx hy true true hsx hsy (hT.below (Below.refl _ _))) ?_
  rintro e w_1 ⟨rfl, hb_2⟩; refine ⟨_, rfl, ?_⟩
  refine XL_run 1 [] [(0, .slice A xs.length c), (1, .slice B ys.length d), (2, .bool nulls), (8, .int .i64 (chk2 true xs true ys : Int))] w_1 [] (by kernel_rfl) trivial ?_
  refine XL_nil ?_
  refine X_seq ?_
  refine X_seq ?_
  refine X_region ?_
  refine XL_run 1 [] [(0, .slice A xs.length c), (1, .slice B ys.length d), (2, .bool nulls), (8, .int .i64 (chk2 true xs true ys : Int)), (12, .int .i64 (chk2 true xs true ys : Int))] w_1 [] (by kernel_rfl) trivial ?_
  by_cases c_3 : (chk2 true xs true ys : Int) = 0
  · refine XL_run 1 [(13, .eq (.bool false))] [(0, .slice A xs.length c), (1, .slice B ys.length d), (2, .bool nulls), (8, .int .i64 (chk2 true xs true ys : Int)), (13, .bool false)] w_1 [Value.bool ((chk2 true xs true ys : Int) != 0) = Value.bool false] (by kernel_rfl) ⟨congrArg Value.bool (bneF (c_3)), trivial⟩ ?_
    refine XL_nil ?_
    refine X_cond false rfl ?_
    refine X_skip ?_
    refine X_seq ?_
    refine X_seq ?_
    refine X_region ?_
    refine XL_run 1 [] [(0, .slice A xs.length c), (1, .slice B ys.length d), (15, .bool nulls)] w_1 [] (by kernel_rfl) trivial ?_
    refine XL_nil ?_
    by_cases c_4 : nulls = true
    · rw [show (nulls : Bool) = true from by simpa using c_4]
      refine X_cond true rfl ?_
      refine X_seq ?_
      refine X_region ?_
      refine XL_run 2 [] [(16, .slice A xs.length c), (17, .slice B ys.length d)] w_1 [] (by kernel_rfl) trivial ?_
      obtain ⟨gx, gy⟩ := chk2_ok (show chk2 true xs true ys = 0 from by omega)
      refine XL_call 46 rfl rfl rfl ent46 [.slice A xs.length c, .slice B ys.length d] (by kernel_rfl) (join_any _ _ _ _ xs ys _ (Kd.C_below hx hb_2) (Kd.C_below hy hb_2) gx.2 gy.2 hyd (by omega)) ?_
      rintro e w_12 ⟨A_5, c_6, zs_7, ez_8, lz_9, rfl, hl_10, hr_11, hb_13⟩; refine ⟨_, rfl, ?_⟩
      refine XL_run 2 [] [(6, .slice A_5 zs_7.length c_6), (7, .int .i64 0)] w_12 [] (by kernel_rfl) trivial ?_
      refine XL_nil ?_
      refine X_ret ?_
      refine RX.ret_ok (P := Tryd.prog) (fn := Tryd.f18) (N := 23) (R := R_) [.slice A_5 zs_7.length c_6, .int .i64 0] (by kernel_rfl) (hR_ _ _ ?_)
      obtain rfl : nulls = true := c_4
      have hz : (composeP true xs ys) = (zs_7, 0) := by rw [ez_8]; exact if_pos (by omega)
      rw [hz]
      exact ⟨_, _, rfl, RX.Kd.R_C hr_11, (bt hb_2 hb_13)⟩
    · rw [show (nulls : Bool) = false from by simpa using c_4]
      refine X_cond false rfl ?_
      refine X_skip ?_
      refine X_seq ?_
      refine X_region ?_
      refine XL_run 2 [] [(19, .slice A xs.length c), (20, .slice B ys.length d)] w_1 [] (by kernel_rfl) trivial ?_
      obtain ⟨gx, gy⟩ := chk2_ok (show chk2 true xs true ys = 0 from by omega)
      refine XL_call 46 rfl rfl rfl ent46 [.slice A xs.length c, .slice B ys.length d] (by kernel_rfl) (join_any _ _ _ _ xs ys _ (Kd.C_below hx hb_2) (Kd.C_below hy hb_2) gx.2 gy.2 hyd (by omega)) ?_
      rintro e w_21 ⟨A_14, c_15, zs_16, ez_17, lz_18, rfl, hl_19, hr_20, hb_22⟩; refine ⟨_, rfl, ?_⟩
      refine XL_call 47 rfl rfl rfl ent47 [.slice A_14 zs_16.length c_15] (by kernel_rfl) (whole_any _ _ zs_16 _ (Kd.R_C hr_20) (by omega)) ?_
      rintro e w_30 ⟨A_23, c_24, zs_25, ez_26, lz_27, rfl, hl_28, hr_29, hb_31⟩; refine ⟨_, rfl, ?_⟩
      refine XL_run 2 [] [(6, .slice A_23 zs_25.length c_24), (7, .int .i64 0)] w_30 [] (by kernel_rfl) trivial ?_
      refine XL_nil ?_
      refine X_ret ?_
      refine RX.ret_ok (P := Tryd.prog) (fn := Tryd.f18) (N := 23) (R := R_) [.slice A_23 zs_25.length c_24, .int .i64 0] (by kernel_rfl) (hR_ _ _ ?_)
      obtain rfl : nulls = false := Bool.eq_false_iff.2 c_4
      have hz : (composeP false xs ys) = (zs_25, 0) := by rw [ez_26, ez_17, whole_eq]; exact if_pos (by omega)
      rw [hz]
      exact ⟨_, _, rfl, RX.Kd.R_C hr_29, (bt (bt hb_2 hb_22) hb_31)⟩
  · refine XL_run 1 [(13, .eq (.bool true))] [(0, .slice A xs.length c), (1, .slice B ys.length d), (2, .bool nulls), (8, .int .i64 (chk2 true xs true ys : Int)), (13, .bool true)] w_1 [Value.bool ((chk2 true xs true ys : Int) != 0) = Value.bool true] (by kernel_rfl) ⟨congrArg Value.bool (bneT (c_3)), trivial⟩ ?_
    refine XL_nil ?_
    refine X_cond true rfl ?_
    refine X_seq ?_
    refine X_region ?_
    refine XL_run 3 [] [(6, .slice none 0 0), (7, .int .i64 (chk2 true xs true ys : Int))] w_1 [] (by kernel_rfl) trivial ?_
    refine XL_nil ?_
    refine X_ret ?_
    refine RX.ret_ok (P := Tryd.prog) (fn := Tryd.f18) (N := 23) (R := R_) [.slice none 0 0, .int .i64 (chk2 true xs true ys : Int)] (by kernel_rfl) (hR_ _ _ ?_)
    rw [show (composeP nulls xs ys) = ([], chk2 true xs true ys) from if_neg (by omega)]
    exact ⟨none, 0, rfl, ⟨rfl, by simp, fun h => by simp at h⟩, hb_2⟩
theorem rapplyP_any (A B : Option Addr) (c d : Nat) (xs ys : List At) (w : World) (hx : kAttr.C w A xs.length xs) (hy : kAttr.C w B ys.length ys) (hxc : xs.length ≤ c) (hyd : ys.length ≤ d) (hn : xs.length + ys.length + ys.length ≤ 400000000) (hsx : (∀ i, i < xs.length → (xs.getD i at0).1.size ≤ 100000000 ∧ (xs.getD i at0).2.2.2.size ≤ 100000000)) (hsy : (∀ i, i < ys.length → (ys.getD i at0).1.size ≤ 100000000 ∧ (ys.getD i at0).2.2.2.size ≤ 100000000)) (hT : Tabs w) : Calls Tryd.prog 20 #[.slice A xs.length c, .slice B ys.length d] w fun e w' =>
    ∃ A' c', e = .returned (.tuple #[.slice A' (applyP xs ys).1.length c', .int .i64 ((applyP xs ys).2 : Int)]) ∧ kAttr.C w' A' (applyP xs ys).1.length (applyP xs ys).1 ∧ Below w.heap.size w w' := by
  refine RX.enter Tryd.func20 rfl 16 rfl [(0, .slice A xs.length c), (1, .slice B ys.length d)] rfl (by kernel_rfl) (fun R_ hR_ => ?_)
  refine X_seq ?_
  refine X_region ?_
  refine XL_run 2 [] [(0, .slice A xs.length c), (1, .slice B ys.length d)] w [] (by kernel_rfl) trivial ?_
  refine XL_nil ?_
  refine X_seq ?_
  refine X_region ?_
  refine XL_run 2 [] [(0, .slice A xs.length c), (1, .slice B ys.length d), (7, .slice A xs.length c), (8, .slice B ys.length d)] w [] (by kernel_rfl) trivial ?_
  refine XL_call 45 rfl rfl rfl ent45 [.slice A xs.length c, .slice B ys.length d, .bool false, .bool true] (by kernel_rfl) (r3both_any _ _ _ _ xs ys _ hx hy false true hsx hsy (hT.below (Below.refl _ _))) ?_
  rintro e w_1 ⟨rfl, hb_2⟩; refine ⟨_, rfl, ?_⟩
  refine XL_run 1 [] [(0, .slice A xs.length c), (1, .slice B ys.length d), (6, .int .i64 (chk2 false xs true ys : Int))] w_1 [] (by kernel_rfl) trivial ?_
  refine XL_nil ?_
  refine X_seq ?_
  refine X_seq ?_
  refine X_region ?_
  refine XL_run 1 [] [(0, .slice A xs.length c), (1, .slice B ys.length d), (6, .int .i64 (chk2 false xs true ys : Int)), (10, .int .i64 (chk2 false xs true ys : Int))] w_1 [] (by kernel_rfl) trivial ?_
  by_cases c_3 : (chk2 false xs true ys : Int) = 0
  · refine XL_run 1 [(11, .eq (.bool false))] [(0, .slice A xs.length c), (1, .slice B ys.length d), (6, .int .i64 (chk2 false xs true ys : Int)), (11, .bool false)] w_1 [Value.bool ((chk2 false xs true ys : Int) != 0) = Value.bool false] (by kernel_rfl) ⟨congrArg Value.bool (bneF (c_3)), trivial⟩ ?_
    refine XL_nil ?_
    refine X_cond false rfl ?_
    refine X_skip ?_
    refine X_seq ?_
    refine X_region ?_
    refine XL_run 2 [] [(13, .slice A xs.length c), (14, .slice B ys.length d)] w_1 [] (by kernel_rfl) trivial ?_
    obtain ⟨gx, gy⟩ := chk2_ok (show chk2 false xs true ys = 0 from by omega)
    refine XL_call 48 rfl rfl rfl ent48 [.slice A xs.length c, .slice B ys.length d] (by kernel_rfl) (patched_any _ _ _ _ xs ys _ (Kd.C_below hx hb_2) (Kd.C_below hy hb_2) gx.2 gy.2 hxc hyd (by omega)) ?_
    rintro e w_11 ⟨A_4, c_5, zs_6, ez_7, lz_8, rfl, hl_9, hr_10, hb_12⟩; refine ⟨_, rfl, ?_⟩
    refine XL_run 2 [] [(4, .slice A_4 zs_6.length c_5), (5, .int .i64 0)] w_11 [] (by kernel_rfl) trivial ?_
    refine XL_nil ?_
    refine X_ret ?_
    refine RX.ret_ok (P := Tryd.prog) (fn := Tryd.f20) (N := 16) (R := R_) [.slice A_4 zs_6.length c_5, .int .i64 0] (by kernel_rfl) (hR_ _ _ ?_)
    have hz : (applyP xs ys) = (zs_6, 0) := by rw [ez_7]; exact if_pos (by omega)
    rw [hz]
    exact ⟨_, _, rfl, RX.Kd.R_C hr_10, (bt hb_2 hb_12)⟩
  · refine XL_run 1 [(11, .eq (.bool true))] [(0, .slice A xs.length c), (1, .slice B ys.length d), (6, .int .i64 (chk2 false xs true ys : Int)), (11, .bool true)] w_1 [Value.bool ((chk2 false xs true ys : Int) != 0) = Value.bool true] (by kernel_rfl) ⟨congrArg Value.bool (bneT (c_3)), trivial⟩ ?_
    refine XL_nil ?_
    refine X_cond true rfl ?_
    refine X_seq ?_
    refine X_region ?_
    refine XL_run 3 [] [(4, .slice none 0 0), (5, .int .i64 (chk2 false xs true ys : Int))] w_1 [] (by kernel_rfl) trivial ?_
    refine XL_nil ?_
    refine X_ret ?_
    refine RX.ret_ok (P := Tryd.prog) (fn := Tryd.f20) (N := 16) (R := R_) [.slice none 0 0, .int .i64 (chk2 false xs true ys : Int)] (by kernel_rfl) (hR_ _ _ ?_)
    rw [show (applyP xs ys) = ([], chk2 false xs true ys) from if_neg (by omega)]
    exact ⟨none, 0, rfl, ⟨rfl, by simp, fun h => by simp at h⟩, hb_2⟩
theorem rdiffP_any (A B : Option Addr) (c d : Nat) (xs ys : List At) (w : World) (hx : kAttr.C w A xs.length xs) (hy : kAttr.C w B ys.length ys) (hxc : xs.length ≤ c) (hyd : ys.length ≤ d) (hn : xs.length + ys.length + ys.length ≤ 400000000) (hsx : (∀ i, i < xs.length → (xs.getD i at0).1.size ≤ 100000000 ∧ (xs.getD i at0).2.2.2.size ≤ 100000000)) (hsy : (∀ i, i < ys.length → (ys.getD i at0).1.size ≤ 100000000 ∧ (ys.getD i at0).2.2.2.size ≤ 100000000)) (hT : Tabs w) : Calls Tryd.prog 21 #[.slice A xs.length c, .slice B ys.length d] w fun e w' =>
    ∃ A' c', e = .returned (.tuple #[.slice A' (diffP xs ys).1.length c', .int .i64 ((diffP xs ys).2 : Int)]) ∧ kAttr.C w' A' (diffP xs ys).1.length (diffP xs ys).1 ∧ Below w.heap.size w w' := by
  refine RX.enter Tryd.func21 rfl 16 rfl [(0, .slice A xs.length c), (1, .slice B ys.length d)] rfl (by kernel_rfl) (fun R_ hR_ => ?_)
  refine X_seq ?_
  refine X_region ?_
  refine XL_run 2 [] [(0, .slice A xs.length c), (1, .slice B ys.length d)] w [] (by kernel_rfl) trivial ?_
  refine XL_nil ?_
  refine X_seq ?_
  refine X_region ?_
  refine XL_run 2 [] [(0, .slice A xs.length c), (1, .slice B ys.length d), (7, .slice A xs.length c), (8, .slice B ys.length d)] w [] (by kernel_rfl) trivial ?_
  refine XL_call 45 rfl rfl rfl ent45 [.slice A xs.length c, .slice B ys.length d, .bool false, .bool false] (by kernel_rfl) (r3both_any _ _ _ _ xs ys _ hx hy false false hsx hsy (hT.below (Below.refl _ _))) ?_
  rintro e w_1 ⟨rfl, hb_2⟩; refine ⟨_, rfl, ?_⟩
  refine XL_run 1 [] [(0, .slice A xs.length c), (1, .slice B ys.length d), (6, .int .i64 (chk2 false xs false ys : Int))] w_1 [] (by kernel_rfl) trivial ?_
  refine XL_nil ?_
  refine X_seq ?_
  refine X_seq ?_
  refine X_region ?_
  refine XL_run 1 [] [(0, .slice A xs.length c), (1, .slice B ys.length d), (6, .int .i64 (chk2 false xs false ys : Int)), (10, .int .i64 (chk2 false xs false ys : Int))] w_1 [] (by kernel_rfl) trivial ?_
  by_cases c_3 : (chk2 false xs false ys : Int) = 0
  · refine XL_run 1 [(11, .eq (.bool false))] [(0, .slice A xs.length c), (1, .slice B ys.length d), (6, .int .i64 (chk2 false xs false ys : Int)), (11, .bool false)] w_1 [Value.bool ((chk2 false xs false ys : Int) != 0) = Value.bool false] (by kernel_rfl) ⟨congrArg Value.bool (bneF (c_3)), trivial⟩ ?_
    refine XL_nil ?_
    refine X_cond false rfl ?_
    refine X_skip ?_
    refine X_seq ?_
    refine X_region ?_
    refine XL_run 2 [] [(13, .slice A xs.length c), (14, .slice B ys.length d)] w_1 [] (by kernel_rfl) trivial ?_
    obtain ⟨gx, gy⟩ := chk2_ok (show chk2 false xs false ys = 0 from by omega)
    refine XL_call 49 rfl rfl rfl ent49 [.slice A xs.length c, .slice B ys.length d] (by kernel_rfl) (rbetween_any _ _ _ _ xs ys _ (Kd.C_below hx hb_2) (Kd.C_below hy hb_2) gx gy hyd (by omega)) ?_
    rintro e w_11 ⟨A_4, c_5, zs_6, ez_7, lz_8, rfl, hl_9, hr_10, hb_12⟩; refine ⟨_, rfl, ?_⟩
    refine XL_run 2 [] [(4, .slice A_4 zs_6.length c_5), (5, .int .i64 0)] w_11 [] (by kernel_rfl) trivial ?_
    refine XL_nil ?_
    refine X_ret ?_
    refine RX.ret_ok (P := Tryd.prog) (fn := Tryd.f21) (N := 16) (R := R_) [.slice A_4 zs_6.length c_5, .int .i64 0] (by kernel_rfl) (hR_ _ _ ?_)
    have hz : (diffP xs ys) = (zs_6, 0) := by rw [ez_7]; exact if_pos (by omega)
    rw [hz]
    exact ⟨_, _, rfl, RX.Kd.R_C hr_10, (bt hb_2 hb_12)⟩
  · refine XL_run 1 [(11, .eq (.bool true))] [(0, .slice A xs.length c), (1, .slice B ys.length d), (6, .int .i64 (chk2 false xs false ys : Int)), (11, .bool true)] w_1 [Value.bool ((chk2 false xs false ys : Int) != 0) = Value.bool true] (by kernel_rfl) ⟨congrArg Value.bool (bneT (c_3)), trivial⟩ ?_
    refine XL_nil ?_
    refine X_cond true rfl ?_
    refine X_seq ?_
    refine X_region ?_
    refine XL_run 3 [] [(4, .slice none 0 0), (5, .int .i64 (chk2 false xs false ys : Int))] w_1 [] (by kernel_rfl) trivial ?_
    refine XL_nil ?_
    refine X_ret ?_
    refine RX.ret_ok (P := Tryd.prog) (fn := Tryd.f21) (N := 16) (R := R_) [.slice none 0 0, .int .i64 (chk2 false xs false ys : Int)] (by kernel_rfl) (hR_ _ _ ?_)
    rw [show (diffP xs ys) = ([], chk2 false xs false ys) from if_neg (by omega)]
    exact ⟨none, 0, rfl, ⟨rfl, by simp, fun h => by simp at h⟩, hb_2⟩
theorem rinvertP_any (A B : Option Addr) (c d : Nat) (xs ys : List At) (w : World) (hx : kAttr.C w A xs.length xs) (hy : kAttr.C w B ys.length ys) (hxc : xs.length ≤ c) (hyd : ys.length ≤ d) (hn : xs.length + ys.length + ys.length ≤ 400000000) (hsx : (∀ i, i < xs.length → (xs.getD i at0).1.size ≤ 100000000 ∧ (xs.getD i at0).2.2.2.size ≤ 100000000)) (hsy : (∀ i, i < ys.length → (ys.getD i at0).1.size ≤ 100000000 ∧ (ys.getD i at0).2.2.2.size ≤ 100000000)) (hT : Tabs w) : Calls Tryd.prog 22 #[.slice A xs.length c, .slice B ys.length d] w fun e w' =>
    ∃ A' c', e = .returned (.tuple #[.slice A' (invertP xs ys).1.length c', .int .i64 ((invertP xs ys).2 : Int)]) ∧ kAttr.C w' A' (invertP xs ys).1.length (invertP xs ys).1 ∧ Below w.heap.size w w' := by
  refine RX.enter Tryd.func22 rfl 16 rfl [(0, .slice A xs.length c), (1, .slice B ys.length d)] rfl (by kernel_rfl) (fun R_ hR_ => ?_)
  refine X_seq ?_
  refine X_region ?_
  refine XL_run 2 [] [(0, .slice A xs.length c), (1, .slice B ys.length d)] w [] (by kernel_rfl) trivial ?_
  refine XL_nil ?_
  refine X_seq ?_
  refine X_region ?_
  refine XL_run 2 [] [(0, .slice A xs.length c), (1, .slice B ys.length d), (7, .slice A xs.length c), (8, .slice B ys.length d)] w [] (by kernel_rfl) trivial ?_
  refine XL_call 45 rfl rfl rfl ent45 [.slice A xs.length c, .slice B ys.length d, .bool true, .bool false] (by kernel_rfl) (r3both_any _ _ _ _ xs ys _ hx hy true false hsx hsy (hT.below (Below.refl _ _))) ?_
  rintro e w_1 ⟨rfl, hb_2⟩; refine ⟨_, rfl, ?_⟩
  refine XL_run 1 [] [(0, .slice A xs.length c), (1, .slice B ys.length d), (6, .int .i64 (chk2 true xs false ys : Int))] w_1 [] (by kernel_rfl) trivial ?_
  refine XL_nil ?_
  refine X_seq ?_
  refine X_seq ?_
  refine X_region ?_
  refine XL_run 1 [] [(0, .slice A xs.length c), (1, .slice B ys.length d), (6, .int .i64 (chk2 true xs false ys : Int)), (10, .int .i64 (chk2 true xs false ys : Int))] w_1 [] (by kernel_rfl) trivial ?_
  by_cases c_3 : (chk2 true xs false ys : Int) = 0
  · refine XL_run 1 [(11, .eq (.bool false))] [(0, .slice A xs.length c), (1, .slice B ys.length d), (6, .int .i64 (chk2 true xs false ys : Int)), (11, .bool false)] w_1 [Value.bool ((chk2 true xs false ys : Int) != 0) = Value.bool false] (by kernel_rfl) ⟨congrArg Value.bool (bneF (c_3)), trivial⟩ ?_
    refine XL_nil ?_
    refine X_cond false rfl ?_
    refine X_skip ?_
    refine X_seq ?_
    refine X_region ?_
    refine XL_run 2 [] [(13, .slice A xs.length c), (14, .slice B ys.length d)] w_1 [] (by kernel_rfl) trivial ?_
    obtain ⟨gx, gy⟩ := chk2_ok (show chk2 true xs false ys = 0 from by omega)
    refine XL_call 50 rfl rfl rfl ent50 [.slice A xs.length c, .slice B ys.length d] (by kernel_rfl) (undo_any _ _ _ _ xs ys _ (Kd.C_below hx hb_2) (Kd.C_below hy hb_2) gx gy hxc hyd (by omega)) ?_
    rintro e w_11 ⟨A_4, c_5, zs_6, ez_7, lz_8, rfl, hl_9, hr_10, hb_12⟩; refine ⟨_, rfl, ?_⟩
    refine XL_run 2 [] [(4, .slice A_4 zs_6.length c_5), (5, .int .i64 0)] w_11 [] (by kernel_rfl) trivial ?_
    refine XL_nil ?_
    refine X_ret ?_
    refine RX.ret_ok (P := Tryd.prog) (fn := Tryd.f22) (N := 16) (R := R_) [.slice A_4 zs_6.length c_5, .int .i64 0] (by kernel_rfl) (hR_ _ _ ?_)
    have hz : (invertP xs ys) = (zs_6, 0) := by rw [ez_7]; exact if_pos (by omega)
    rw [hz]
    exact ⟨_, _, rfl, RX.Kd.R_C hr_10, (bt hb_2 hb_12)⟩
  · refine XL_run 1 [(11, .eq (.bool true))] [(0, .slice A xs.length c), (1, .slice B ys.length d), (6, .int .i64 (chk2 true xs false ys : Int)), (11, .bool true)] w_1 [Value.bool ((chk2 true xs false ys : Int) != 0) = Value.bool true] (by kernel_rfl) ⟨congrArg Value.bool (bneT (c_3)), trivial⟩ ?_
    refine XL_nil ?_
    refine X_cond true rfl ?_
    refine X_seq ?_
    refine X_region ?_
    refine XL_run 3 [] [(4, .slice none 0 0), (5, .int .i64 (chk2 true xs false ys : Int))] w_1 [] (by kernel_rfl) trivial ?_
    refine XL_nil ?_
    refine X_ret ?_
    refine RX.ret_ok (P := Tryd.prog) (fn := Tryd.f22) (N := 16) (R := R_) [.slice none 0 0, .int .i64 (chk2 true xs false ys : Int)] (by kernel_rfl) (hR_ _ _ ?_)
    rw [show (invertP xs ys) = ([], chk2 true xs false ys) from if_neg (by omega)]
    exact ⟨none, 0, rfl, ⟨rfl, by simp, fun h => by simp at h⟩, hb_2⟩
theorem rtransformP_any (first : Bool) (A B : Option Addr) (c d : Nat) (xs ys : List At) (w : World) (hx : kAttr.C w A xs.length xs) (hy : kAttr.C w B ys.length ys) (hxc : xs.length ≤ c) (hyd : ys.length ≤ d) (hn : xs.length + ys.length + ys.length ≤ 400000000) (hsx : (∀ i, i < xs.length → (xs.getD i at0).1.size ≤ 100000000 ∧ (xs.getD i at0).2.2.2.size ≤ 100000000)) (hsy : (∀ i, i < ys.length → (ys.getD i at0).1.size ≤ 100000000 ∧ (ys.getD i at0).2.2.2.size ≤ 100000000)) (hT : Tabs w) : Calls Tryd.prog 23 #[.slice A xs.length c, .slice B ys.length d, .bool first] w fun e w' =>
    ∃ A' c', e = .returned (.tuple #[.slice A' (transformP first xs ys).1.length c', .int .i64 ((transformP first xs ys).2 : Int)]) ∧ kAttr.C w' A' (transformP first xs ys).1.length (transformP first xs ys).1 ∧ Below w.heap.size w w' := by
  refine RX.enter Tryd.func23 rfl 19 rfl [(0, .slice A xs.length c), (1, .slice B ys.length d), (2, .bool first)] rfl (by kernel_rfl) (fun R_ hR_ => ?_)
  refine X_seq ?_
  refine X_region ?_
  refine XL_run 2 [] [(0, .slice A xs.length c), (1, .slice B ys.length d), (2, .bool first)] w [] (by kernel_rfl) trivial ?_
  refine XL_nil ?_
  refine X_seq ?_
  refine X_region ?_
  refine XL_run 2 [] [(0, .slice A xs.length c), (1, .slice B ys.length d), (2, .bool first), (9, .slice A xs.length c), (10, .slice B ys.length d)] w [] (by kernel_rfl) trivial ?_
  refine XL_call 45 rfl rfl rfl ent45 [.slice A xs.length c, .slice B ys.length d, .bool true, .bool true] (by kernel_rfl) (r3both_any _ _ _ _ xs ys _ hx hy true true hsx hsy (hT.below (Below.refl _ _))) ?_
  rintro e w_1 ⟨rfl, hb_2⟩; refine ⟨_, rfl, ?_⟩
  refine XL_run 1 [] [(0, .slice A xs.length c), (1, .slice B ys.length d), (2, .bool first), (8, .int .i64 (chk2 true xs true ys : Int))] w_1 [] (by kernel_rfl) trivial ?_
  refine XL_nil ?_
  refine X_seq ?_
  refine X_seq ?_
  refine X_region ?_
  refine XL_run 1 [] [(0, .slice A xs.length c), (1, .slice B ys.length d), (2, .bool first), (8, .int .i64 (chk2 true xs true ys : Int)), (12, .int .i64 (chk2 true xs true ys : Int))] w_1 [] (by kernel_rfl) trivial ?_
  by_cases c_3 : (chk2 true xs true ys : Int) = 0
  · refine XL_run 1 [(13, .eq (.bool false))] [(0, .slice A xs.length c), (1, .slice B ys.length d), (2, .bool first), (8, .int .i64 (chk2 true xs true ys : Int)), (13, .bool false)] w_1 [Value.bool ((chk2 true xs true ys : Int) != 0) = Value.bool false] (by kernel_rfl) ⟨congrArg Value.bool (bneF (c_3)), trivial⟩ ?_
    refine XL_nil ?_
    refine X_cond false rfl ?_
    refine X_skip ?_
    refine X_seq ?_
    refine X_region ?_
    refine XL_run 3 [] [(15, .slice A xs.length c), (16, .slice B ys.length d), (17, .bool first)] w_1 [] (by kernel_rfl) trivial ?_
    obtain ⟨gx, gy⟩ := chk2_ok (show chk2 true xs true ys = 0 from by omega)
    refine XL_call 35 rfl rfl rfl ent35 [.slice A xs.length c, .slice B ys.length d, .bool first] (by kernel_rfl) (over_any _ _ _ _ xs ys _ (Kd.C_below hx hb_2) (Kd.C_below hy hb_2) (by omega) first) ?_
    rintro e w_11 ⟨A_4, c_5, zs_6, ez_7, lz_8, rfl, hl_9, hr_10, hb_12⟩; refine ⟨_, rfl, ?_⟩
    refine XL_run 2 [] [(6, .slice A_4 zs_6.length c_5), (7, .int .i64 0)] w_11 [] (by kernel_rfl) trivial ?_
    refine XL_nil ?_
    refine X_ret ?_
    refine RX.ret_ok (P := Tryd.prog) (fn := Tryd.f23) (N := 19) (R := R_) [.slice A_4 zs_6.length c_5, .int .i64 0] (by kernel_rfl) (hR_ _ _ ?_)
    have hz : (transformP first xs ys) = (zs_6, 0) := by rw [ez_7, over_eq first gx.2 gy.2]; exact if_pos (by omega)
    rw [hz]
    exact ⟨_, _, rfl, RX.Kd.R_C hr_10, (bt hb_2 hb_12)⟩
  · refine XL_run 1 [(13, .eq (.bool true))] [(0, .slice A xs.length c), (1, .slice B ys.length d), (2, .bool first), (8, .int .i64 (chk2 true xs true ys : Int)), (13, .bool true)] w_1 [Value.bool ((chk2 true xs true ys : Int) != 0) = Value.bool true] (by kernel_rfl) ⟨congrArg Value.bool (bneT (c_3)), trivial⟩ ?_
    refine XL_nil ?_
    refine X_cond true rfl ?_
    refine X_seq ?_
    refine X_region ?_
    refine XL_run 3 [] [(6, .slice none 0 0), (7, .int .i64 (chk2 true xs true ys : Int))] w_1 [] (by kernel_rfl) trivial ?_
    refine XL_nil ?_
    refine X_ret ?_
    refine RX.ret_ok (P := Tryd.prog) (fn := Tryd.f23) (N := 19) (R := R_) [.slice none 0 0, .int .i64 (chk2 true xs true ys : Int)] (by kernel_rfl) (hR_ _ _ ?_)
    rw [show (transformP first xs ys) = ([], chk2 true xs true ys) from if_neg (by omega)]
    exact ⟨none, 0, rfl, ⟨rfl, by simp, fun h => by simp at h⟩, hb_2⟩
end Go.Proofs.YtdkdajofppjnaaaDoor
