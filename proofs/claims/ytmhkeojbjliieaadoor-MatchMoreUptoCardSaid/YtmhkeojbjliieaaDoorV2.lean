/- What match's inner functions answer. Conditions: bounds on lengths and numbers. -/
import Derived.Test.YtmhkeojbjliieaaDoorProg
import Derived.Test.YtmhkeojbjliieaaDoorLcs
import Derived.Test.YtmhkeojbjliieaaDoorV1
set_option linter.unusedVariables false
set_option linter.unusedSimpArgs false
set_option maxRecDepth 100000
namespace Go.Proofs.YtmhkeojbjliieaaDoor
open Go.RowKit Go.Proofs.YtmhkeojbjliieaaDoorW.PrintWords MM RX
theorem ent19 : Ent Tryd.prog 19 := ent_of Tryd.func19 (by kernel_rfl) rfl
theorem ent22 : Ent Tryd.prog 22 := ent_of Tryd.func22 (by kernel_rfl) rfl
theorem ent24 : Ent Tryd.prog 24 := ent_of Tryd.func24 (by kernel_rfl) rfl
theorem ent20 : Ent Tryd.prog 20 := ent_of Tryd.func20 (by kernel_rfl) rfl
theorem info3 : (Tryd.prog.info? 3).map (fun i => (i.zero, i.size, i.bytes)) = some (some (.int .i64 0), 1, 8) := by kernel_rfl
theorem info22 : (Tryd.prog.info? 22).map (fun i => (i.zero, i.size, i.bytes)) = some (some (.slice none 0 0), 1, 24) := by kernel_rfl
theorem long_any (A A' : Option Addr) (c c' n m : Nat) (w : World) :
    Calls Tryd.prog 19 #[.slice A n c, .slice A' m c'] w fun e w' => e = .returned (.bool (decide (1024 < n ∨ 1024 < m))) ∧ w = w' := by
  refine RX.enter Tryd.func19 rfl 13 rfl [(0, .slice A n c), (1, .slice A' m c')] rfl (by kernel_rfl) (fun R_ hR_ => ?_)
  refine X_seq ?_
  refine X_region ?_
  refine XL_run 1 [] [(0, .slice A n c), (1, .slice A' m c')] w [] (by kernel_rfl) trivial ?_
  refine XL_nil ?_
  refine X_seq ?_
  refine X_region ?_
  refine XL_run 2 [] [(1, .slice A' m c'), (6, .int .i64 (n : Int))] w [] (by kernel_rfl) trivial ?_
  by_cases c_1 : (n : Int) > 1024
  · refine XL_run 7 [(7, .eq (.bool true))] [(4, .bool true)] w [Value.bool (decide ((n : Int) > 1024)) = Value.bool true] (by kernel_rfl) ⟨congrArg Value.bool (decide_eq_true (c_1)), trivial⟩ ?_
    refine XL_nil ?_
    refine X_ret ?_
    refine RX.ret_ok (P := Tryd.prog) (fn := Tryd.f19) (N := 13) (R := R_) [.bool true] (by kernel_rfl) (hR_ _ _ ?_)
    exact ⟨ret_bool (by simp; omega), rfl⟩
  · refine XL_run 4 [(7, .eq (.bool false))] [(8, .bool false), (10, .int .i64 (m : Int))] w [Value.bool (decide ((n : Int) > 1024)) = Value.bool false] (by kernel_rfl) ⟨congrArg Value.bool (decide_eq_false (c_1)), trivial⟩ ?_
    by_cases c_2 : (m : Int) > 1024
    · refine XL_run 3 [(11, .eq (.bool true))] [(4, .bool true)] w [Value.bool (decide ((m : Int) > 1024)) = Value.bool true] (by kernel_rfl) ⟨congrArg Value.bool (decide_eq_true (c_2)), trivial⟩ ?_
      refine XL_nil ?_
      refine X_ret ?_
      refine RX.ret_ok (P := Tryd.prog) (fn := Tryd.f19) (N := 13) (R := R_) [.bool true] (by kernel_rfl) (hR_ _ _ ?_)
      exact ⟨ret_bool (by simp; omega), rfl⟩
    · refine XL_run 3 [(11, .eq (.bool false))] [(4, .bool false)] w [Value.bool (decide ((m : Int) > 1024)) = Value.bool false] (by kernel_rfl) ⟨congrArg Value.bool (decide_eq_false (c_2)), trivial⟩ ?_
      refine XL_nil ?_
      refine X_ret ?_
      refine RX.ret_ok (P := Tryd.prog) (fn := Tryd.f19) (N := 13) (R := R_) [.bool false] (by kernel_rfl) (hR_ _ _ ?_)
      exact ⟨ret_bool (by simp; omega), rfl⟩
theorem before_any (A : Option Addr) (c : Nat) (xs : List Int) (d k x y : Int) (w : World) (hx : (Kd.int .i64).C w A xs.length xs) (hv : ∀ j, j < xs.length → -1 ≤ xs.getD j 0 ∧ xs.getD j 0 ≤ 1000000)
    (hk : -1000000 ≤ k ∧ k ≤ 1000000) (hd : 0 ≤ d ∧ d ≤ 1000000) (hxy : 0 ≤ x ∧ x ≤ 1000000 ∧ 0 ≤ y ∧ y ≤ 1000000) :
    Calls Tryd.prog 22 #[.slice A xs.length c, .int .i64 d, .int .i64 k, .int .i64 x, .int .i64 y] w fun e w' => e = .returned (.tuple #[.int .i64 (beforeP xs d k x y).1, .int .i64 (beforeP xs d k x y).2]) ∧ w = w' := by
  have hB : ∀ i : Int, 0 ≤ i → i < xs.length → -1 ≤ rd xs i ∧ rd xs i ≤ 1000000 := fun i h0 h1 => hv i.toNat (by omega)
  have hat : ∀ i : Int, i = k - 1 + d - 1 → 0 ≤ i → i < xs.length → atP xs d (k - 1) = rd xs i := fun i hi h0 h1 => by unfold atP rd; rw [if_pos (by omega)]; congr 1; omega
  have hat0 : ¬ (0 ≤ k - 1 + d - 1 ∧ k - 1 + d - 1 < xs.length) → atP xs d (k - 1) = -1 := fun h => by unfold atP; rw [if_neg (by omega)]
  refine RX.enter Tryd.func22 rfl 48 rfl [(0, .slice A xs.length c), (1, .int .i64 d), (2, .int .i64 k), (3, .int .i64 x), (4, .int .i64 y)] rfl (by kernel_rfl) (fun R_ hR_ => ?_)
  refine X_seq ?_
  refine X_region ?_
  refine XL_run 2 [] [(0, .slice A xs.length c), (1, .int .i64 d), (2, .int .i64 k), (3, .int .i64 x), (4, .int .i64 y)] w [] (by kernel_rfl) trivial ?_
  refine XL_nil ?_
  refine X_seq ?_
  refine X_seq ?_
  refine X_region ?_
  refine XL_run 6 [(14, .eq (.int .i64 (k - 1))), (16, .eq (.int .i64 ((k - 1) + d))), (17, .eq (.int .i64 (((k - 1) + d) - 1)))] [(0, .slice A xs.length c), (3, .int .i64 x), (4, .int .i64 y), (12, .int .i64 (((k - 1) + d) - 1))] w [Value.int .i64 (IntKind.i64.wrap (k - 1)) = Value.int .i64 (k - 1), Value.int .i64 (IntKind.i64.wrap ((k - 1) + d)) = Value.int .i64 ((k - 1) + d), Value.int .i64 (IntKind.i64.wrap (((k - 1) + d) - 1)) = Value.int .i64 (((k - 1) + d) - 1)] (by kernel_rfl) ⟨wr_i64 (by omega) (by omega), wr_i64 (by omega) (by omega), wr_i64 (by omega) (by omega), trivial⟩ ?_
  refine XL_nil ?_
  refine X_seq ?_
  refine X_region ?_
  refine XL_run 1 [] [(0, .slice A xs.length c), (3, .int .i64 x), (4, .int .i64 y), (12, .int .i64 (((k - 1) + d) - 1)), (18, .int .i64 (((k - 1) + d) - 1))] w [] (by kernel_rfl) trivial ?_
  by_cases c_1 : ((k - 1) + d) - 1 ≥ 0
  · refine XL_run 5 [(19, .eq (.bool true))] [(0, .slice A xs.length c), (3, .int .i64 x), (4, .int .i64 y), (12, .int .i64 (((k - 1) + d) - 1)), (20, .bool true), (21, .int .i64 (((k - 1) + d) - 1)), (23, .int .i64 (xs.length : Int))] w [Value.bool (decide (((k - 1) + d) - 1 ≥ 0)) = Value.bool true] (by kernel_rfl) ⟨congrArg Value.bool (decide_eq_true (c_1)), trivial⟩ ?_
    by_cases c_2 : ((k - 1) + d) - 1 < (xs.length : Int)
    · refine XL_run 5 [(24, .eq (.bool true))] [(0, .slice A xs.length c), (3, .int .i64 x), (4, .int .i64 y), (12, .int .i64 (((k - 1) + d) - 1)), (26, .bool true), (27, .slice A xs.length c), (28, .int .i64 (((k - 1) + d) - 1))] w [Value.bool (decide (((k - 1) + d) - 1 < (xs.length : Int))) = Value.bool true] (by kernel_rfl) ⟨congrArg Value.bool (decide_eq_true (c_2)), trivial⟩ ?_
      obtain ⟨ad_3, ha_4, hc_5⟩ := Kd.atI hx (i := ((k - 1) + d) - 1) (by omega) (by omega)
      refine XL_run 2 [(29, .idx ad_3), (30, .load (.int .i64 (rd xs (((k - 1) + d) - 1))))] [(0, .slice A xs.length c), (3, .int .i64 x), (4, .int .i64 y), (12, .int .i64 (((k - 1) + d) - 1)), (26, .bool true), (30, .int .i64 (rd xs (((k - 1) + d) - 1)))] w [A = some ad_3, (0 : Int) ≤ ((k - 1) + d) - 1, ((k - 1) + d) - 1 < (xs.length : Int), LoadsAs Tryd.prog 3 (ad_3.add ((((k - 1) + d) - 1).toNat * 1)) (.int .i64 (rd xs (((k - 1) + d) - 1))) w] (by kernel_rfl) ⟨ha_4, (by omega), (by omega), loads1 rfl (elem_cell hc_5 0 _ rfl), trivial⟩ ?_
      by_cases c_6 : rd xs (((k - 1) + d) - 1) ≥ 0
      · refine XL_run 5 [(31, .eq (.bool true))] [(3, .int .i64 x), (4, .int .i64 y), (33, .bool true), (34, .slice A xs.length c), (35, .int .i64 (((k - 1) + d) - 1))] w [Value.bool (decide (rd xs (((k - 1) + d) - 1) ≥ 0)) = Value.bool true] (by kernel_rfl) ⟨congrArg Value.bool (decide_eq_true (c_6)), trivial⟩ ?_
        obtain ⟨ad_7, ha_8, hc_9⟩ := Kd.atI hx (i := ((k - 1) + d) - 1) (by omega) (by omega)
        refine XL_run 4 [(36, .idx ad_7), (37, .load (.int .i64 (rd xs (((k - 1) + d) - 1)))), (38, .eq (.int .i64 ((rd xs (((k - 1) + d) - 1)) + 1)))] [(3, .int .i64 x), (4, .int .i64 y), (33, .bool true), (38, .int .i64 ((rd xs (((k - 1) + d) - 1)) + 1)), (39, .int .i64 x)] w [A = some ad_7, (0 : Int) ≤ ((k - 1) + d) - 1, ((k - 1) + d) - 1 < (xs.length : Int), LoadsAs Tryd.prog 3 (ad_7.add ((((k - 1) + d) - 1).toNat * 1)) (.int .i64 (rd xs (((k - 1) + d) - 1))) w, Value.int .i64 (IntKind.i64.wrap ((rd xs (((k - 1) + d) - 1)) + 1)) = Value.int .i64 ((rd xs (((k - 1) + d) - 1)) + 1)] (by kernel_rfl) ⟨ha_8, (by omega), (by omega), loads1 rfl (elem_cell hc_9 0 _ rfl), wr_i64 (by have := hB (k - 1 + d - 1) (by omega) (by omega); omega) (by have := hB (k - 1 + d - 1) (by omega) (by omega); omega), trivial⟩ ?_
        by_cases c_10 : (rd xs (((k - 1) + d) - 1)) + 1 = x
        · refine XL_run 2 [(40, .eq (.bool true))] [(3, .int .i64 x), (4, .int .i64 y), (41, .bool true)] w [Value.bool ((rd xs (((k - 1) + d) - 1)) + 1 == x) = Value.bool true] (by kernel_rfl) ⟨congrArg Value.bool (beq_iff_eq.2 (c_10)), trivial⟩ ?_
          refine XL_nil ?_
          refine X_cond true rfl ?_
          refine X_seq ?_
          refine X_region ?_
          refine XL_run 5 [(43, .eq (.int .i64 (x - 1)))] [(10, .int .i64 (x - 1)), (11, .int .i64 y)] w [Value.int .i64 (IntKind.i64.wrap (x - 1)) = Value.int .i64 (x - 1)] (by kernel_rfl) ⟨wr_i64 (by omega) (by omega), trivial⟩ ?_
          refine XL_nil ?_
          refine X_ret ?_
          refine RX.ret_ok (P := Tryd.prog) (fn := Tryd.f22) (N := 48) (R := R_) [.int .i64 (x - 1), .int .i64 y] (by kernel_rfl) (hR_ _ _ ?_)
          have hfin : beforeP xs d k x y = (x - 1, y) := by
            unfold beforeP
            first
              | (rw [if_pos (by first | (rw [hat _ rfl (by omega) (by omega)]; omega))]; done)
              | (rw [if_neg (by first | (rw [hat _ rfl (by omega) (by omega)]; omega) | (rw [hat0 (by omega)]; omega))]; done)
          rw [hfin]
          exact ⟨rfl, rfl⟩
        · refine XL_run 2 [(40, .eq (.bool false))] [(3, .int .i64 x), (4, .int .i64 y), (41, .bool false)] w [Value.bool ((rd xs (((k - 1) + d) - 1)) + 1 == x) = Value.bool false] (by kernel_rfl) ⟨congrArg Value.bool (beq_eq_false_iff_ne.2 (c_10)), trivial⟩ ?_
          refine XL_nil ?_
          refine X_cond false rfl ?_
          refine X_skip ?_
          refine X_seq ?_
          refine X_region ?_
          refine XL_run 5 [(47, .eq (.int .i64 (y - 1)))] [(10, .int .i64 x), (11, .int .i64 (y - 1))] w [Value.int .i64 (IntKind.i64.wrap (y - 1)) = Value.int .i64 (y - 1)] (by kernel_rfl) ⟨wr_i64 (by omega) (by omega), trivial⟩ ?_
          refine XL_nil ?_
          refine X_ret ?_
          refine RX.ret_ok (P := Tryd.prog) (fn := Tryd.f22) (N := 48) (R := R_) [.int .i64 x, .int .i64 (y - 1)] (by kernel_rfl) (hR_ _ _ ?_)
          have hfin : beforeP xs d k x y = (x, y - 1) := by
            unfold beforeP
            first
              | (rw [if_pos (by first | (rw [hat _ rfl (by omega) (by omega)]; omega))]; done)
              | (rw [if_neg (by first | (rw [hat _ rfl (by omega) (by omega)]; omega) | (rw [hat0 (by omega)]; omega))]; done)
          rw [hfin]
          exact ⟨rfl, rfl⟩
      · refine XL_run 11 [(31, .eq (.bool false))] [(3, .int .i64 x), (4, .int .i64 y), (41, .bool false)] w [Value.bool (decide (rd xs (((k - 1) + d) - 1) ≥ 0)) = Value.bool false] (by kernel_rfl) ⟨congrArg Value.bool (decide_eq_false (c_6)), trivial⟩ ?_
        refine XL_nil ?_
        refine X_cond false rfl ?_
        refine X_skip ?_
        refine X_seq ?_
        refine X_region ?_
        refine XL_run 5 [(47, .eq (.int .i64 (y - 1)))] [(10, .int .i64 x), (11, .int .i64 (y - 1))] w [Value.int .i64 (IntKind.i64.wrap (y - 1)) = Value.int .i64 (y - 1)] (by kernel_rfl) ⟨wr_i64 (by omega) (by omega), trivial⟩ ?_
        refine XL_nil ?_
        refine X_ret ?_
        refine RX.ret_ok (P := Tryd.prog) (fn := Tryd.f22) (N := 48) (R := R_) [.int .i64 x, .int .i64 (y - 1)] (by kernel_rfl) (hR_ _ _ ?_)
        have hfin : beforeP xs d k x y = (x, y - 1) := by
          unfold beforeP
          first
            | (rw [if_pos (by first | (rw [hat _ rfl (by omega) (by omega)]; omega))]; done)
            | (rw [if_neg (by first | (rw [hat _ rfl (by omega) (by omega)]; omega) | (rw [hat0 (by omega)]; omega))]; done)
        rw [hfin]
        exact ⟨rfl, rfl⟩
    · refine XL_run 18 [(24, .eq (.bool false))] [(3, .int .i64 x), (4, .int .i64 y), (41, .bool false)] w [Value.bool (decide (((k - 1) + d) - 1 < (xs.length : Int))) = Value.bool false] (by kernel_rfl) ⟨congrArg Value.bool (decide_eq_false (c_2)), trivial⟩ ?_
      refine XL_nil ?_
      refine X_cond false rfl ?_
      refine X_skip ?_
      refine X_seq ?_
      refine X_region ?_
      refine XL_run 5 [(47, .eq (.int .i64 (y - 1)))] [(10, .int .i64 x), (11, .int .i64 (y - 1))] w [Value.int .i64 (IntKind.i64.wrap (y - 1)) = Value.int .i64 (y - 1)] (by kernel_rfl) ⟨wr_i64 (by omega) (by omega), trivial⟩ ?_
      refine XL_nil ?_
      refine X_ret ?_
      refine RX.ret_ok (P := Tryd.prog) (fn := Tryd.f22) (N := 48) (R := R_) [.int .i64 x, .int .i64 (y - 1)] (by kernel_rfl) (hR_ _ _ ?_)
      have hfin : beforeP xs d k x y = (x, y - 1) := by
        unfold beforeP
        first
          | (rw [if_pos (by first | (rw [hat _ rfl (by omega) (by omega)]; omega))]; done)
          | (rw [if_neg (by first | (rw [hat _ rfl (by omega) (by omega)]; omega) | (rw [hat0 (by omega)]; omega))]; done)
      rw [hfin]
      exact ⟨rfl, rfl⟩
  · refine XL_run 23 [(19, .eq (.bool false))] [(3, .int .i64 x), (4, .int .i64 y), (41, .bool false)] w [Value.bool (decide (((k - 1) + d) - 1 ≥ 0)) = Value.bool false] (by kernel_rfl) ⟨congrArg Value.bool (decide_eq_false (c_1)), trivial⟩ ?_
    refine XL_nil ?_
    refine X_cond false rfl ?_
    refine X_skip ?_
    refine X_seq ?_
    refine X_region ?_
    refine XL_run 5 [(47, .eq (.int .i64 (y - 1)))] [(10, .int .i64 x), (11, .int .i64 (y - 1))] w [Value.int .i64 (IntKind.i64.wrap (y - 1)) = Value.int .i64 (y - 1)] (by kernel_rfl) ⟨wr_i64 (by omega) (by omega), trivial⟩ ?_
    refine XL_nil ?_
    refine X_ret ?_
    refine RX.ret_ok (P := Tryd.prog) (fn := Tryd.f22) (N := 48) (R := R_) [.int .i64 x, .int .i64 (y - 1)] (by kernel_rfl) (hR_ _ _ ?_)
    have hfin : beforeP xs d k x y = (x, y - 1) := by
      unfold beforeP
      first
        | (rw [if_pos (by first | (rw [hat _ rfl (by omega) (by omega)]; omega))]; done)
        | (rw [if_neg (by first | (rw [hat _ rfl (by omega) (by omega)]; omega) | (rw [hat0 (by omega)]; omega))]; done)
    rw [hfin]
    exact ⟨rfl, rfl⟩
theorem one_nil (w : World) : Calls Tryd.prog 24 #[.nilIface] w fun e w' => e = .returned (.int .i64 1) ∧ w = w' := by
  refine RX.enter Tryd.func24 rfl 5 rfl [(0, .nilIface)] rfl (by kernel_rfl) (fun R_ hR_ => ?_)
  refine X_seq ?_
  refine X_region ?_
  refine XL_run 1 [] [(0, .nilIface)] w [] (by kernel_rfl) trivial ?_
  refine XL_nil ?_
  refine X_seq ?_
  refine X_seq ?_
  refine X_region ?_
  refine XL_run 2 [] [(4, .bool false)] w [] (by kernel_rfl) trivial ?_
  refine XL_nil ?_
  refine X_cond false rfl ?_
  refine X_skip ?_
  refine X_seq ?_
  refine X_region ?_
  refine XL_run 1 [] [(2, .int .i64 1)] w [] (by kernel_rfl) trivial ?_
  refine XL_nil ?_
  refine X_ret ?_
  refine RX.ret_ok (P := Tryd.prog) (fn := Tryd.f24) (N := 5) (R := R_) [.int .i64 1] (by kernel_rfl) (hR_ _ _ ?_)
  exact ⟨rfl, rfl⟩
theorem one_err (t : TypeId) (v : Value) (w : World) : Calls Tryd.prog 24 #[.iface t v] w fun e w' => e = .returned (.int .i64 0) ∧ w = w' := by
  refine RX.enter Tryd.func24 rfl 5 rfl [(0, .iface t (v))] rfl (by kernel_rfl) (fun R_ hR_ => ?_)
  refine X_seq ?_
  refine X_region ?_
  refine XL_run 1 [] [(0, .iface t (v))] w [] (by kernel_rfl) trivial ?_
  refine XL_nil ?_
  refine X_seq ?_
  refine X_seq ?_
  refine X_region ?_
  refine XL_run 2 [] [(4, .bool true)] w [] (by kernel_rfl) trivial ?_
  refine XL_nil ?_
  refine X_cond true rfl ?_
  refine X_seq ?_
  refine X_region ?_
  refine XL_run 1 [] [(2, .int .i64 0)] w [] (by kernel_rfl) trivial ?_
  refine XL_nil ?_
  refine X_ret ?_
  refine RX.ret_ok (P := Tryd.prog) (fn := Tryd.f24) (N := 5) (R := R_) [.int .i64 0] (by kernel_rfl) (hR_ _ _ ?_)
  exact ⟨rfl, rfl⟩
/-- the rows of all edits before the d-th -/
def pre (a b : List Int) (d : Nat) : List (List Int) := (List.range d).map (rows a b)
theorem pre_length (a b : List Int) (d : Nat) : (pre a b d).length = d := by simp [pre]
theorem pre_succ (a b : List Int) (d : Nat) : pre a b d ++ [rows a b d] = pre a b (d + 1) := by simp [pre, List.range_succ]
/-- the rows of all edits up to the last, which is broken off behind the diagonal where the end is come to -/
def fwd (a b : List Int) (D j : Nat) : List (List Int) := pre a b D ++ [rowU a b (lastOf a b D) D (j + 1)]
theorem fill_set (n i : Nat) (hi : i < n) : (List.replicate i (-1 : Int) ++ List.replicate (n - i) 0).set i (-1) = List.replicate (i + 1) (-1) ++ List.replicate (n - (i + 1)) 0 := by
  rw [List.set_append_right _ _ (by simp)]
  rw [List.length_replicate, Nat.sub_self, show n - i = (n - (i + 1)) + 1 from by omega, List.replicate_succ, List.set_cons_zero, List.replicate_succ' , List.append_assoc]
  rfl
theorem lastOf_length (a b : List Int) (d : Nat) : (lastOf a b d).length = 2 * d - 1 := by
  cases d with
  | zero => rfl
  | succ d => show (rows a b d).length = _; rw [rows_length]; omega
theorem lastOf_bd (a b : List Int) (d : Nat) : ∀ j, j < (lastOf a b d).length → -1 ≤ (lastOf a b d).getD j 0 ∧ (lastOf a b d).getD j 0 ≤ a.length := by
  intro j hj
  cases d with
  | zero => simp [lastOf] at hj
  | succ d =>
    have hl : (lastOf a b (d + 1)).length = 2 * d + 1 := rows_length a b d
    show -1 ≤ (rows a b d).getD j 0 ∧ (rows a b d).getD j 0 ≤ a.length
    rw [rows_eq, rowU_get _ _ _ _ _ _ (by omega)]
    split
    · exact e_bd a b d _ (by omega) (by omega) (by omega)
    · omega
theorem reach_bd (xs : List Int) (d k n m : Int) (hn : 0 ≤ n) (hv : ∀ j, j < xs.length → -1 ≤ xs.getD j 0 ∧ xs.getD j 0 ≤ n) : -1 ≤ reachP xs d k n m ∧ reachP xs d k n m ≤ n := by
  obtain ⟨b1, b2⟩ := atP_bd xs d (k + 1) n hn hv
  obtain ⟨b3, b4⟩ := atP_bd xs d (k - 1) n hn hv
  unfold reachP
  split
  · omega
  · dsimp only
    (repeat' split) <;> omega
theorem reach_rch (a b : List Int) (d : Nat) (k : Int) (h1 : -(d : Int) ≤ k) (h2 : k ≤ d) (hp : (k + d) % 2 = 0) (r : Int) (hr : r = reachP (lastOf a b d) d k a.length b.length) (h0 : 0 ≤ r) :
    Rch a b d r (r - k) := by
  cases d with
  | zero =>
    obtain rfl : k = 0 := by omega
    have : r = 0 := by rw [hr]; unfold reachP; exact if_pos rfl
    subst this
    simpa using Rch.zero
  | succ d =>
    have h := e_reach a b d (e_sound a b d) k h1 h2 hp r hr h0
    exact h

theorem forward_any (A A' : Option Addr) (c c' : Nat) (a b : List Int) (D j : Nat) (w : World) (ha : (Kd.int .i64).C w A a.length a) (hb : (Kd.int .i64).C w A' b.length b)
    (hla : a.length ≤ 1024) (hlb : b.length ≤ 1024) (hD : D ≤ a.length + b.length) (hj : j ≤ D)
    (hno : ∀ d, d < D → ∀ i, i ≤ d → ¬ MM.Found a b d (2 * (i : Int) - d)) (hnoj : ∀ i, i < j → ¬ MM.Found a b D (2 * (i : Int) - D)) (hyes : MM.Found a b D (2 * (j : Int) - D)) :
    Calls Tryd.prog 20 #[.slice A a.length c, .slice A' b.length c'] w fun e w' =>
      ∃ A1 c1, e = .returned (.slice A1 (fwd a b D j).length c1) ∧ (Kd.slice 3 (Kd.int .i64)).R 22 w' w.heap.size (OkFrom w.heap.size) (.slice A1 (fwd a b D j).length c1) (fwd a b D j) ∧ Below w.heap.size w w' := by
  refine RX.enter Tryd.func20 rfl 104 rfl [(0, .slice A a.length c), (1, .slice A' b.length c')] rfl (by kernel_rfl) (fun R_ hR_ => ?_)
  refine X_seq ?_
  refine X_region ?_
  refine XL_run 1 [] [(0, .slice A a.length c), (1, .slice A' b.length c')] w [] (by kernel_rfl) trivial ?_
  refine XL_nil ?_
  refine X_seq ?_
  refine X_region ?_
  refine XL_run 1 [] [(0, .slice A a.length c), (1, .slice A' b.length c'), (5, .slice none 0 0)] w [] (by kernel_rfl) trivial ?_
  refine XL_nil ?_
  refine X_seq ?_
  refine X_region ?_
  refine XL_run 1 [] [(0, .slice A a.length c), (1, .slice A' b.length c'), (5, .slice none 0 0), (6, .slice none 0 0)] w [] (by kernel_rfl) trivial ?_
  refine XL_nil ?_
  refine X_seq ?_
  refine X_region ?_
  refine XL_run 6 [] [(0, .slice A a.length c), (1, .slice A' b.length c'), (5, .slice none 0 0), (6, .slice none 0 0), (7, .int .i64 (a.length : Int)), (8, .int .i64 (b.length : Int))] w [] (by kernel_rfl) trivial ?_
  refine XL_nil ?_
  refine X_seq ?_
  refine X_region ?_
  refine XL_run 1 [] [(0, .slice A a.length c), (1, .slice A' b.length c'), (5, .slice none 0 0), (6, .slice none 0 0), (7, .int .i64 (a.length : Int)), (8, .int .i64 (b.length : Int)), (9, .int .i64 0)] w [] (by kernel_rfl) trivial ?_
  refine XL_nil ?_
  refine X_block ?_
  refine X_loop (ι := Nat × Option Addr × Nat × Option Addr × Nat × Nat) (fun ⟨d, A1, c1, A2, n2, c2⟩ => [(0, .slice A a.length c), (1, .slice A' b.length c'), (5, .slice A1 ((pre a b d).length) c1), (6, .slice A2 n2 c2), (7, .int .i64 (a.length : Int)), (8, .int .i64 (b.length : Int)), (9, .int .i64 (d : Int))]) (fun ⟨d, A1, c1, A2, n2, c2⟩ wo => d ≤ D ∧ (Kd.slice 3 (Kd.int .i64)).R 22 wo w.heap.size (OkFrom w.heap.size) (.slice A1 (pre a b d).length c1) (pre a b d) ∧ n2 = (lastOf a b d).length ∧ (Kd.int .i64).C wo A2 n2 (lastOf a b d) ∧ Below w.heap.size w wo) (fun ⟨d, A1, c1, A2, n2, c2⟩ => D + 1 - d) ⟨0, none, 0, none, 0, 0⟩ ⟨by omega, Kd.R_nil _ _ _ _ _, rfl, Kd.C_nil _ _, Below.refl _ _⟩ (by kernel_rfl) ?_
  rintro ⟨d, A1, c1, A2, n2, c2⟩ wo ⟨hd, HR, rfl, HL, HB⟩
  refine X_seq ?_
  refine X_block ?_
  refine X_seq ?_
  refine X_region ?_
  refine XL_run 3 [(21, .eq (.int .i64 (2 * (d : Int)))), (22, .eq (.int .i64 ((2 * (d : Int)) + 1)))] [(0, .slice A a.length c), (1, .slice A' b.length c'), (5, .slice A1 ((pre a b d).length) c1), (6, .slice A2 ((lastOf a b d).length) c2), (7, .int .i64 (a.length : Int)), (8, .int .i64 (b.length : Int)), (9, .int .i64 (d : Int)), (22, .int .i64 ((2 * (d : Int)) + 1))] wo [Value.int .i64 (IntKind.i64.wrap (2 * (d : Int))) = Value.int .i64 (2 * (d : Int)), Value.int .i64 (IntKind.i64.wrap ((2 * (d : Int)) + 1)) = Value.int .i64 ((2 * (d : Int)) + 1)] (by kernel_rfl) ⟨wr_i64 (by omega) (by omega), wr_i64 (by omega) (by omega), trivial⟩ ?_
  refine XL_make (Kd.int .i64) rfl rfl rfl rfl 3 (.int .i64 0) 8 ((2 * (d : Int)) + 1) (by kernel_rfl) Tryd.underlying22 info3 rfl (by decide) (by omega) (0 : Int) rfl (by omega) (by omega) ?_
  intro A_1 c_2 w_3 hr_4 hc_5 hb_6
  refine XL_run 1 [] [(0, .slice A a.length c), (1, .slice A' b.length c'), (5, .slice A1 ((pre a b d).length) c1), (6, .slice A2 ((lastOf a b d).length) c2), (7, .int .i64 (a.length : Int)), (8, .int .i64 (b.length : Int)), (9, .int .i64 (d : Int)), (10, .slice A_1 (((2 * (d : Int)) + 1).toNat) c_2)] w_3 [] (by kernel_rfl) trivial ?_
  refine XL_nil ?_
  refine X_seq ?_
  refine X_seq ?_
  refine X_region ?_
  refine XL_run 3 [] [(0, .slice A a.length c), (1, .slice A' b.length c'), (5, .slice A1 ((pre a b d).length) c1), (6, .slice A2 ((lastOf a b d).length) c2), (7, .int .i64 (a.length : Int)), (8, .int .i64 (b.length : Int)), (9, .int .i64 (d : Int)), (10, .slice A_1 (((2 * (d : Int)) + 1).toNat) c_2), (25, .int .i64 (((2 * (d : Int)) + 1).toNat : Int)), (26, .int .i64 0)] w_3 [] (by kernel_rfl) trivial ?_
  refine XL_nil ?_
  refine X_block ?_
  refine X_loop (ι := Nat) (fun i => [(0, .slice A a.length c), (1, .slice A' b.length c'), (5, .slice A1 ((pre a b d).length) c1), (6, .slice A2 ((lastOf a b d).length) c2), (7, .int .i64 (a.length : Int)), (8, .int .i64 (b.length : Int)), (9, .int .i64 (d : Int)), (10, .slice A_1 (((2 * (d : Int)) + 1).toNat) c_2), (25, .int .i64 (((2 * (d : Int)) + 1).toNat : Int)), (26, .int .i64 (i : Int))]) (fun i wf => i ≤ (2 * (d : Int) + 1).toNat ∧ (Kd.int .i64).R 3 wf wo.heap.size (OkFrom wo.heap.size) (.slice A_1 (((2 * (d : Int)) + 1).toNat) c_2) (List.replicate i (-1) ++ List.replicate ((2 * (d : Int) + 1).toNat - i) 0) ∧ Below wo.heap.size wo wf) (fun i => (2 * (d : Int) + 1).toNat - i) 0 ⟨by omega, by simpa using hr_4, hb_6⟩ (by kernel_rfl) ?_
  rintro i wf ⟨hi, HN, HB1⟩
  refine X_seq ?_
  refine X_region ?_
  by_cases c_7 : (i : Int) < (((2 * (d : Int)) + 1).toNat : Int)
  · refine XL_run 1 [(27, .eq (.bool true))] [(0, .slice A a.length c), (1, .slice A' b.length c'), (5, .slice A1 ((pre a b d).length) c1), (6, .slice A2 ((lastOf a b d).length) c2), (7, .int .i64 (a.length : Int)), (8, .int .i64 (b.length : Int)), (9, .int .i64 (d : Int)), (10, .slice A_1 (((2 * (d : Int)) + 1).toNat) c_2), (25, .int .i64 (((2 * (d : Int)) + 1).toNat : Int)), (26, .int .i64 (i : Int)), (27, .bool true)] wf [Value.bool (decide ((i : Int) < (((2 * (d : Int)) + 1).toNat : Int))) = Value.bool true] (by kernel_rfl) ⟨congrArg Value.bool (decide_eq_true (c_7)), trivial⟩ ?_
    refine XL_nil ?_
    refine X_seq ?_
    refine X_cond true rfl ?_
    refine X_skip ?_
    refine X_seq ?_
    refine X_block ?_
    refine X_seq ?_
    refine X_region ?_
    refine XL_run 2 [] [(0, .slice A a.length c), (1, .slice A' b.length c'), (5, .slice A1 ((pre a b d).length) c1), (6, .slice A2 ((lastOf a b d).length) c2), (7, .int .i64 (a.length : Int)), (8, .int .i64 (b.length : Int)), (9, .int .i64 (d : Int)), (10, .slice A_1 (((2 * (d : Int)) + 1).toNat) c_2), (11, .int .i64 (i : Int)), (25, .int .i64 (((2 * (d : Int)) + 1).toNat : Int)), (26, .int .i64 (i : Int))] wf [] (by kernel_rfl) trivial ?_
    refine XL_nil ?_
    refine X_region ?_
    refine XL_run 2 [] [(0, .slice A a.length c), (1, .slice A' b.length c'), (5, .slice A1 ((pre a b d).length) c1), (6, .slice A2 ((lastOf a b d).length) c2), (7, .int .i64 (a.length : Int)), (8, .int .i64 (b.length : Int)), (9, .int .i64 (d : Int)), (10, .slice A_1 (((2 * (d : Int)) + 1).toNat) c_2), (25, .int .i64 (((2 * (d : Int)) + 1).toNat : Int)), (26, .int .i64 (i : Int)), (29, .slice A_1 (((2 * (d : Int)) + 1).toNat) c_2), (30, .int .i64 (i : Int))] wf [] (by kernel_rfl) trivial ?_
    obtain ⟨ad_8, ha_9, hc_10⟩ := Kd.atI (Kd.R_C HN) (i := (i : Int)) (by omega) (by omega)
    refine XL_run 1 [(31, .idx ad_8)] [(0, .slice A a.length c), (1, .slice A' b.length c'), (5, .slice A1 ((pre a b d).length) c1), (6, .slice A2 ((lastOf a b d).length) c2), (7, .int .i64 (a.length : Int)), (8, .int .i64 (b.length : Int)), (9, .int .i64 (d : Int)), (10, .slice A_1 (((2 * (d : Int)) + 1).toNat) c_2), (25, .int .i64 (((2 * (d : Int)) + 1).toNat : Int)), (26, .int .i64 (i : Int)), (31, .pointer (some (ad_8.add ((i : Int).toNat * 1))))] wf [A_1 = some ad_8, (0 : Int) ≤ (i : Int), (i : Int) < (((2 * (d : Int)) + 1).toNat : Int)] (by kernel_rfl) ⟨ha_9, (by omega), (by omega), trivial⟩ ?_
    refine XL_rowset (Kd.int .i64) rfl rfl rfl wo.heap.size 3 (ad := ad_8) (i := (i : Int)) (v := .int .i64 (-1)) (List.replicate i (-1) ++ List.replicate ((2 * (d : Int) + 1).toNat - i) 0) (-1) (by kernel_rfl) ha_9 HN (by omega) (by omega) [.int .i64 (-1)] ⟨by kernel_rfl, by kernel_rfl⟩ (by kernel_rfl) rfl ?_
    intro w_11 hr_12 hg_13 hl_14
    have he_15 : ((List.replicate i (-1) ++ List.replicate ((2 * (d : Int) + 1).toNat - i) 0).set (i : Int).toNat (-1)) = List.replicate (i + 1) (-1) ++ List.replicate ((2 * (d : Int) + 1).toNat - (i + 1)) 0 := fill_set _ _ (by omega)
    rw [he_15] at hr_12
    refine XL_nil ?_
    refine X_region ?_
    refine XL_run 2 [(32, .eq (.int .i64 ((i : Int) + 1)))] [(0, .slice A a.length c), (1, .slice A' b.length c'), (5, .slice A1 ((pre a b d).length) c1), (6, .slice A2 ((lastOf a b d).length) c2), (7, .int .i64 (a.length : Int)), (8, .int .i64 (b.length : Int)), (9, .int .i64 (d : Int)), (10, .slice A_1 (((2 * (d : Int)) + 1).toNat) c_2), (25, .int .i64 (((2 * (d : Int)) + 1).toNat : Int)), (26, .int .i64 ((i : Int) + 1))] w_11 [Value.int .i64 (IntKind.i64.wrap ((i : Int) + 1)) = Value.int .i64 ((i : Int) + 1)] (by kernel_rfl) ⟨wr_i64 (by omega) (by omega), trivial⟩ ?_
    refine XL_nil ?_
    refine ⟨(i + 1), by kernel_rfl, ?_, ?_⟩
    · exact ⟨by omega, hr_12, (bgo HB1 hg_13 hl_14 (Nat.le_refl _))⟩
    · (try dsimp only); omega
  · refine XL_run 1 [(27, .eq (.bool false))] [(0, .slice A a.length c), (1, .slice A' b.length c'), (5, .slice A1 ((pre a b d).length) c1), (6, .slice A2 ((lastOf a b d).length) c2), (7, .int .i64 (a.length : Int)), (8, .int .i64 (b.length : Int)), (9, .int .i64 (d : Int)), (10, .slice A_1 (((2 * (d : Int)) + 1).toNat) c_2), (25, .int .i64 (((2 * (d : Int)) + 1).toNat : Int)), (26, .int .i64 (i : Int)), (27, .bool false)] wf [Value.bool (decide ((i : Int) < (((2 * (d : Int)) + 1).toNat : Int))) = Value.bool false] (by kernel_rfl) ⟨congrArg Value.bool (decide_eq_false (c_7)), trivial⟩ ?_
    refine XL_nil ?_
    refine X_seq ?_
    refine X_cond false rfl ?_
    refine X_exit ?_
    refine X_seq ?_
    refine X_seq ?_
    refine X_region ?_
    refine XL_run 3 [(34, .eq (.int .i64 (0 - (d : Int))))] [(0, .slice A a.length c), (1, .slice A' b.length c'), (5, .slice A1 ((pre a b d).length) c1), (6, .slice A2 ((lastOf a b d).length) c2), (7, .int .i64 (a.length : Int)), (8, .int .i64 (b.length : Int)), (9, .int .i64 (d : Int)), (10, .slice A_1 (((2 * (d : Int)) + 1).toNat) c_2), (12, .int .i64 (0 - (d : Int)))] wf [Value.int .i64 (IntKind.i64.wrap (0 - (d : Int))) = Value.int .i64 (0 - (d : Int))] (by kernel_rfl) ⟨wr_i64 (by omega) (by omega), trivial⟩ ?_
    refine XL_nil ?_
    refine X_block ?_
    obtain rfl : i = (2 * (d : Int) + 1).toNat := by omega
    have hx0 : (Kd.int .i64).R 3 wf wo.heap.size (OkFrom wo.heap.size) (.slice A_1 (((2 * (d : Int)) + 1).toNat) c_2) (rowU a b (lastOf a b d) d 0) := by
      have h := HN
      rw [Nat.sub_self, List.replicate_zero, List.append_nil] at h
      rwa [rowU_zero, show 2 * d + 1 = (2 * (d : Int) + 1).toNat from by omega]
    refine X_loop (ι := Nat × Int) (fun ⟨jj, k⟩ => [(0, .slice A a.length c), (1, .slice A' b.length c'), (5, .slice A1 ((pre a b d).length) c1), (6, .slice A2 ((lastOf a b d).length) c2), (7, .int .i64 (a.length : Int)), (8, .int .i64 (b.length : Int)), (9, .int .i64 (d : Int)), (10, .slice A_1 (((2 * (d : Int)) + 1).toNat) c_2), (12, .int .i64 k)]) (fun ⟨jj, k⟩ wk => k = 2 * (jj : Int) - d ∧ jj ≤ d + 1 ∧ (d = D → jj ≤ j) ∧ (Kd.int .i64).R 3 wk wo.heap.size (OkFrom wo.heap.size) (.slice A_1 (((2 * (d : Int)) + 1).toNat) c_2) (rowU a b (lastOf a b d) d jj) ∧ Below wo.heap.size wo wk) (fun ⟨jj, k⟩ => d + 1 - jj) ⟨0, 0 - (d : Int)⟩ ⟨by omega, by omega, fun _ => by omega, hx0, HB1⟩ (by kernel_rfl) ?_
    rintro ⟨jj, k⟩ wk ⟨hk1, hk3, hk2, HK, HB2⟩
    refine X_seq ?_
    refine X_seq ?_
    refine X_region ?_
    refine XL_run 2 [] [(0, .slice A a.length c), (1, .slice A' b.length c'), (5, .slice A1 ((pre a b d).length) c1), (6, .slice A2 ((lastOf a b d).length) c2), (7, .int .i64 (a.length : Int)), (8, .int .i64 (b.length : Int)), (9, .int .i64 (d : Int)), (10, .slice A_1 (((2 * (d : Int)) + 1).toNat) c_2), (12, .int .i64 k), (35, .int .i64 k), (36, .int .i64 (d : Int))] wk [] (by kernel_rfl) trivial ?_
    by_cases c_16 : k ≤ (d : Int)
    · refine XL_run 1 [(37, .eq (.bool true))] [(0, .slice A a.length c), (1, .slice A' b.length c'), (5, .slice A1 ((pre a b d).length) c1), (6, .slice A2 ((lastOf a b d).length) c2), (7, .int .i64 (a.length : Int)), (8, .int .i64 (b.length : Int)), (9, .int .i64 (d : Int)), (10, .slice A_1 (((2 * (d : Int)) + 1).toNat) c_2), (12, .int .i64 k), (37, .bool true)] wk [Value.bool (decide (k ≤ (d : Int))) = Value.bool true] (by kernel_rfl) ⟨congrArg Value.bool (decide_eq_true (c_16)), trivial⟩ ?_
      refine XL_nil ?_
      refine X_cond true rfl ?_
      refine X_skip ?_
      refine X_seq ?_
      refine X_block ?_
      refine X_seq ?_
      refine X_region ?_
      refine XL_run 5 [] [(0, .slice A a.length c), (1, .slice A' b.length c'), (5, .slice A1 ((pre a b d).length) c1), (6, .slice A2 ((lastOf a b d).length) c2), (7, .int .i64 (a.length : Int)), (8, .int .i64 (b.length : Int)), (9, .int .i64 (d : Int)), (10, .slice A_1 (((2 * (d : Int)) + 1).toNat) c_2), (12, .int .i64 k), (40, .slice A2 ((lastOf a b d).length) c2), (41, .int .i64 (d : Int)), (42, .int .i64 k), (43, .int .i64 (a.length : Int)), (44, .int .i64 (b.length : Int))] wk [] (by kernel_rfl) trivial ?_
      have hjd : jj ≤ d := by omega
      refine XL_call 21 rfl rfl rfl ent21 [.slice A2 ((lastOf a b d).length) c2, .int .i64 (d : Int), .int .i64 k, .int .i64 (a.length : Int), .int .i64 (b.length : Int)] (by kernel_rfl) (reach_any A2 c2 (lastOf a b d) d k a.length b.length _ (Kd.C_below HL HB2) (fun q hq => by have := lastOf_bd a b d q hq; omega) (by omega) (by omega) (by omega)) ?_
      rintro e w_17 ⟨rfl, hb_18⟩; refine ⟨_, rfl, ?_⟩
      obtain ⟨r, hr⟩ : ∃ r, reachP (lastOf a b d) d k a.length b.length = r := ⟨_, rfl⟩
      rw [hr]
      obtain ⟨hr1, hr2⟩ : -1 ≤ r ∧ r ≤ a.length := by rw [← hr]; exact reach_bd _ _ _ _ _ (by omega) (lastOf_bd a b d)
      have hbr : 0 ≤ r → r - k ≤ b.length := fun h0 => by have := (reach_rch a b d k (by omega) (by omega) (by omega) r hr.symm h0).bd; omega
      refine XL_run 1 [] [(0, .slice A a.length c), (1, .slice A' b.length c'), (5, .slice A1 ((pre a b d).length) c1), (6, .slice A2 ((lastOf a b d).length) c2), (7, .int .i64 (a.length : Int)), (8, .int .i64 (b.length : Int)), (9, .int .i64 (d : Int)), (10, .slice A_1 (((2 * (d : Int)) + 1).toNat) c_2), (12, .int .i64 k), (13, .int .i64 r)] w_17 [] (by kernel_rfl) trivial ?_
      refine XL_nil ?_
      refine X_seq ?_
      refine X_seq ?_
      refine X_region ?_
      refine XL_run 1 [] [(0, .slice A a.length c), (1, .slice A' b.length c'), (5, .slice A1 ((pre a b d).length) c1), (6, .slice A2 ((lastOf a b d).length) c2), (7, .int .i64 (a.length : Int)), (8, .int .i64 (b.length : Int)), (9, .int .i64 (d : Int)), (10, .slice A_1 (((2 * (d : Int)) + 1).toNat) c_2), (12, .int .i64 k), (13, .int .i64 r), (46, .int .i64 r)] w_17 [] (by kernel_rfl) trivial ?_
      by_cases c_19 : r < 0
      · refine XL_run 7 [(47, .eq (.bool true))] [(0, .slice A a.length c), (1, .slice A' b.length c'), (5, .slice A1 ((pre a b d).length) c1), (6, .slice A2 ((lastOf a b d).length) c2), (7, .int .i64 (a.length : Int)), (8, .int .i64 (b.length : Int)), (9, .int .i64 (d : Int)), (10, .slice A_1 (((2 * (d : Int)) + 1).toNat) c_2), (12, .int .i64 k), (13, .int .i64 r), (53, .bool true)] w_17 [Value.bool (decide (r < 0)) = Value.bool true] (by kernel_rfl) ⟨congrArg Value.bool (decide_eq_true (c_19)), trivial⟩ ?_
        refine XL_nil ?_
        refine X_cond true rfl ?_
        refine X_exit ?_
        refine X_region ?_
        refine XL_run 3 [(39, .eq (.int .i64 (k + 2)))] [(0, .slice A a.length c), (1, .slice A' b.length c'), (5, .slice A1 ((pre a b d).length) c1), (6, .slice A2 ((lastOf a b d).length) c2), (7, .int .i64 (a.length : Int)), (8, .int .i64 (b.length : Int)), (9, .int .i64 (d : Int)), (10, .slice A_1 (((2 * (d : Int)) + 1).toNat) c_2), (12, .int .i64 (k + 2))] w_17 [Value.int .i64 (IntKind.i64.wrap (k + 2)) = Value.int .i64 (k + 2)] (by kernel_rfl) ⟨wr_i64 (by omega) (by omega), trivial⟩ ?_
        refine XL_nil ?_
        refine ⟨⟨jj + 1, k + 2⟩, by kernel_rfl, ?_, ?_⟩
        · have hen : ent a b (lastOf a b d) d k = -1 := by unfold ent; rw [hr]; exact if_pos (by omega)
          refine ⟨by omega, by omega, fun hdD => ?_, ?_, (bt HB2 hb_18)⟩
          · have h2 := hk2 hdD
            by_cases hjj : jj = j
            · exfalso
              have hy : e a b D (2 * (j : Int) - D) = a.length := hyes.1
              have : e a b D (2 * (j : Int) - D) = ent a b (lastOf a b d) d k := by rw [hk1, hjj, hdD]; rfl
              rw [this, hen] at hy
              omega
            · omega
          · rw [rowU_skip _ _ _ _ _ (by omega) (by rw [← hk1]; exact hen)]; exact (Kd.R_below HK hb_18)
        · (try dsimp only); omega
      · refine XL_run 5 [(47, .eq (.bool false)), (51, .eq (.int .i64 (r - k)))] [(0, .slice A a.length c), (1, .slice A' b.length c'), (5, .slice A1 ((pre a b d).length) c1), (6, .slice A2 ((lastOf a b d).length) c2), (7, .int .i64 (a.length : Int)), (8, .int .i64 (b.length : Int)), (9, .int .i64 (d : Int)), (10, .slice A_1 (((2 * (d : Int)) + 1).toNat) c_2), (12, .int .i64 k), (13, .int .i64 r), (48, .bool false), (51, .int .i64 (r - k))] w_17 [Value.bool (decide (r < 0)) = Value.bool false, Value.int .i64 (IntKind.i64.wrap (r - k)) = Value.int .i64 (r - k)] (by kernel_rfl) ⟨congrArg Value.bool (decide_eq_false (c_19)), wr_i64 (by omega) (by omega), trivial⟩ ?_
        by_cases c_20 : r - k < 0
        · refine XL_run 2 [(52, .eq (.bool true))] [(0, .slice A a.length c), (1, .slice A' b.length c'), (5, .slice A1 ((pre a b d).length) c1), (6, .slice A2 ((lastOf a b d).length) c2), (7, .int .i64 (a.length : Int)), (8, .int .i64 (b.length : Int)), (9, .int .i64 (d : Int)), (10, .slice A_1 (((2 * (d : Int)) + 1).toNat) c_2), (12, .int .i64 k), (13, .int .i64 r), (53, .bool true)] w_17 [Value.bool (decide (r - k < 0)) = Value.bool true] (by kernel_rfl) ⟨congrArg Value.bool (decide_eq_true (c_20)), trivial⟩ ?_
          refine XL_nil ?_
          refine X_cond true rfl ?_
          refine X_exit ?_
          refine X_region ?_
          refine XL_run 3 [(39, .eq (.int .i64 (k + 2)))] [(0, .slice A a.length c), (1, .slice A' b.length c'), (5, .slice A1 ((pre a b d).length) c1), (6, .slice A2 ((lastOf a b d).length) c2), (7, .int .i64 (a.length : Int)), (8, .int .i64 (b.length : Int)), (9, .int .i64 (d : Int)), (10, .slice A_1 (((2 * (d : Int)) + 1).toNat) c_2), (12, .int .i64 (k + 2))] w_17 [Value.int .i64 (IntKind.i64.wrap (k + 2)) = Value.int .i64 (k + 2)] (by kernel_rfl) ⟨wr_i64 (by omega) (by omega), trivial⟩ ?_
          refine XL_nil ?_
          refine ⟨⟨jj + 1, k + 2⟩, by kernel_rfl, ?_, ?_⟩
          · have hen : ent a b (lastOf a b d) d k = -1 := by unfold ent; rw [hr]; exact if_pos (by omega)
            refine ⟨by omega, by omega, fun hdD => ?_, ?_, (bt HB2 hb_18)⟩
            · have h2 := hk2 hdD
              by_cases hjj : jj = j
              · exfalso
                have hy : e a b D (2 * (j : Int) - D) = a.length := hyes.1
                have : e a b D (2 * (j : Int) - D) = ent a b (lastOf a b d) d k := by rw [hk1, hjj, hdD]; rfl
                rw [this, hen] at hy
                omega
              · omega
            · rw [rowU_skip _ _ _ _ _ (by omega) (by rw [← hk1]; exact hen)]; exact (Kd.R_below HK hb_18)
          · (try dsimp only); omega
        · refine XL_run 2 [(52, .eq (.bool false))] [(0, .slice A a.length c), (1, .slice A' b.length c'), (5, .slice A1 ((pre a b d).length) c1), (6, .slice A2 ((lastOf a b d).length) c2), (7, .int .i64 (a.length : Int)), (8, .int .i64 (b.length : Int)), (9, .int .i64 (d : Int)), (10, .slice A_1 (((2 * (d : Int)) + 1).toNat) c_2), (12, .int .i64 k), (13, .int .i64 r), (53, .bool false)] w_17 [Value.bool (decide (r - k < 0)) = Value.bool false] (by kernel_rfl) ⟨congrArg Value.bool (decide_eq_false (c_20)), trivial⟩ ?_
          refine XL_nil ?_
          refine X_cond false rfl ?_
          refine X_skip ?_
          have hrb := hbr (by omega)
          have hen : ent a b (lastOf a b d) d k = snake a b k r := by unfold ent; rw [hr]; exact if_neg (by omega)
          obtain ⟨hs1, hs2, hs3⟩ : r ≤ snake a b k r ∧ snake a b k r ≤ a.length ∧ snake a b k r - k ≤ b.length := by have h := snake_spec a b k r; exact ⟨h.1, h.2.1 (by omega), h.2.2.1 (by omega)⟩
          obtain ⟨z, hz⟩ : ∃ z, snake a b k r = z := ⟨_, rfl⟩
          rw [hz] at hen hs1 hs2 hs3
          refine X_join (ι := Unit) (fun _ => [(0, .slice A a.length c), (1, .slice A' b.length c'), (5, .slice A1 ((pre a b d).length) c1), (6, .slice A2 ((lastOf a b d).length) c2), (7, .int .i64 (a.length : Int)), (8, .int .i64 (b.length : Int)), (9, .int .i64 (d : Int)), (10, .slice A_1 (((2 * (d : Int)) + 1).toNat) c_2), (12, .int .i64 k), (13, .int .i64 z)]) (fun _ wz => Below w_17.heap.size w_17 wz) ?_ ?_
          · refine X_block ?_
            refine X_loop (ι := Int) (fun x => [(0, .slice A a.length c), (1, .slice A' b.length c'), (5, .slice A1 ((pre a b d).length) c1), (6, .slice A2 ((lastOf a b d).length) c2), (7, .int .i64 (a.length : Int)), (8, .int .i64 (b.length : Int)), (9, .int .i64 (d : Int)), (10, .slice A_1 (((2 * (d : Int)) + 1).toNat) c_2), (12, .int .i64 k), (13, .int .i64 x)]) (fun x ws => r ≤ x ∧ x ≤ a.length ∧ x - k ≤ b.length ∧ snake a b k x = z ∧ Below w_17.heap.size w_17 ws) (fun x => ((a.length : Int) - x).toNat) r ⟨by omega, by omega, by omega, hz, Below.refl _ _⟩ (by kernel_rfl) ?_
            rintro x ws ⟨hx1, hx2, hx3, hsx, HBs⟩
            refine X_seq ?_
            refine X_seq ?_
            refine X_still (by kernel_rfl) (by kernel_rfl) (fun wd_21 hb_22 hh_23 => ?_)
            refine XS_run 2 [] [.int .i64 x, .int .i64 (a.length : Int)] [(0, .slice A a.length c), (1, .slice A' b.length c'), (5, .slice A1 ((pre a b d).length) c1), (6, .slice A2 ((lastOf a b d).length) c2), (7, .int .i64 (a.length : Int)), (8, .int .i64 (b.length : Int)), (9, .int .i64 (d : Int)), (10, .slice A_1 (((2 * (d : Int)) + 1).toNat) c_2), (12, .int .i64 k), (13, .int .i64 x), (54, .int .i64 x), (55, .int .i64 (a.length : Int))] [] (by kernel_rfl) (by kernel_rfl) trivial ?_
            by_cases c_24 : x < (a.length : Int)
            · refine XS_run 6 [(56, .eq (.bool true)), (60, .eq (.int .i64 (x - k)))] [.bool true, .bool true, .int .i64 x, .int .i64 k, .int .i64 (x - k), .int .i64 (b.length : Int)] [(0, .slice A a.length c), (1, .slice A' b.length c'), (5, .slice A1 ((pre a b d).length) c1), (6, .slice A2 ((lastOf a b d).length) c2), (7, .int .i64 (a.length : Int)), (8, .int .i64 (b.length : Int)), (9, .int .i64 (d : Int)), (10, .slice A_1 (((2 * (d : Int)) + 1).toNat) c_2), (12, .int .i64 k), (13, .int .i64 x), (57, .bool true), (60, .int .i64 (x - k)), (61, .int .i64 (b.length : Int))] [Value.bool (decide (x < (a.length : Int))) = Value.bool true, Value.int .i64 (IntKind.i64.wrap (x - k)) = Value.int .i64 (x - k)] (by kernel_rfl) (by kernel_rfl) ⟨congrArg Value.bool (decide_eq_true (c_24)), wr_i64 (by omega) (by omega), trivial⟩ ?_
              by_cases c_25 : x - k < (b.length : Int)
              · refine XS_run 5 [(62, .eq (.bool true))] [.bool true, .bool true, .bool true, .slice A a.length c, .int .i64 x] [(0, .slice A a.length c), (1, .slice A' b.length c'), (5, .slice A1 ((pre a b d).length) c1), (6, .slice A2 ((lastOf a b d).length) c2), (7, .int .i64 (a.length : Int)), (8, .int .i64 (b.length : Int)), (9, .int .i64 (d : Int)), (10, .slice A_1 (((2 * (d : Int)) + 1).toNat) c_2), (12, .int .i64 k), (13, .int .i64 x), (64, .bool true), (65, .slice A a.length c), (66, .int .i64 x)] [Value.bool (decide (x - k < (b.length : Int))) = Value.bool true] (by kernel_rfl) (by kernel_rfl) ⟨congrArg Value.bool (decide_eq_true (c_25)), trivial⟩ ?_
                obtain ⟨ad_26, ha_27, hc_28⟩ := Kd.atI (Kd.C_below ha (bt (bt (bt (bt HB HB2) hb_18) HBs) hb_22)) (i := x) (by omega) (by omega)
                refine XS_run 6 [(67, .idx ad_26), (68, .load (.int .i64 (rd a x))), (72, .eq (.int .i64 (x - k)))] [.pointer (some (ad_26.add (x.toNat * 1))), .int .i64 (rd a x), .slice A' b.length c', .int .i64 x, .int .i64 k, .int .i64 (x - k)] [(0, .slice A a.length c), (1, .slice A' b.length c'), (5, .slice A1 ((pre a b d).length) c1), (6, .slice A2 ((lastOf a b d).length) c2), (7, .int .i64 (a.length : Int)), (8, .int .i64 (b.length : Int)), (9, .int .i64 (d : Int)), (10, .slice A_1 (((2 * (d : Int)) + 1).toNat) c_2), (12, .int .i64 k), (13, .int .i64 x), (64, .bool true), (68, .int .i64 (rd a x)), (69, .slice A' b.length c'), (72, .int .i64 (x - k))] [A = some ad_26, (0 : Int) ≤ x, x < (a.length : Int), LoadsAs Tryd.prog 3 (ad_26.add (x.toNat * 1)) (.int .i64 (rd a x)) wd_21, Value.int .i64 (IntKind.i64.wrap (x - k)) = Value.int .i64 (x - k)] (by kernel_rfl) (by kernel_rfl) ⟨ha_27, (by omega), (by omega), loads1 rfl (elem_cell hc_28 0 _ rfl), wr_i64 (by omega) (by omega), trivial⟩ ?_
                obtain ⟨ad_29, ha_30, hc_31⟩ := Kd.atI (Kd.C_below hb (bt (bt (bt (bt HB HB2) hb_18) HBs) hb_22)) (i := x - k) (by omega) (by omega)
                refine XS_run 2 [(73, .idx ad_29), (74, .load (.int .i64 (rd b (x - k))))] [.pointer (some (ad_29.add ((x - k).toNat * 1))), .int .i64 (rd b (x - k))] [(0, .slice A a.length c), (1, .slice A' b.length c'), (5, .slice A1 ((pre a b d).length) c1), (6, .slice A2 ((lastOf a b d).length) c2), (7, .int .i64 (a.length : Int)), (8, .int .i64 (b.length : Int)), (9, .int .i64 (d : Int)), (10, .slice A_1 (((2 * (d : Int)) + 1).toNat) c_2), (12, .int .i64 k), (13, .int .i64 x), (64, .bool true), (68, .int .i64 (rd a x)), (74, .int .i64 (rd b (x - k)))] [A' = some ad_29, (0 : Int) ≤ x - k, x - k < (b.length : Int), LoadsAs Tryd.prog 3 (ad_29.add ((x - k).toNat * 1)) (.int .i64 (rd b (x - k))) wd_21] (by kernel_rfl) (by kernel_rfl) ⟨ha_30, (by omega), (by omega), loads1 rfl (elem_cell hc_31 0 _ rfl), trivial⟩ ?_
                by_cases c_32 : rd a x = rd b (x - k)
                · refine XS_run 2 [(75, .eq (.bool true))] [.bool true, .bool true] [(0, .slice A a.length c), (1, .slice A' b.length c'), (5, .slice A1 ((pre a b d).length) c1), (6, .slice A2 ((lastOf a b d).length) c2), (7, .int .i64 (a.length : Int)), (8, .int .i64 (b.length : Int)), (9, .int .i64 (d : Int)), (10, .slice A_1 (((2 * (d : Int)) + 1).toNat) c_2), (12, .int .i64 k), (13, .int .i64 x), (76, .bool true)] [Value.bool (rd a x == rd b (x - k)) = Value.bool true] (by kernel_rfl) (by kernel_rfl) ⟨congrArg Value.bool (beq_iff_eq.2 (c_32)), trivial⟩ ?_
                  refine XS_nil ?_
                  refine X_cond true rfl ?_
                  refine X_skip ?_
                  refine X_block ?_
                  refine X_region ?_
                  refine XL_run 3 [(78, .eq (.int .i64 (x + 1)))] [(0, .slice A a.length c), (1, .slice A' b.length c'), (5, .slice A1 ((pre a b d).length) c1), (6, .slice A2 ((lastOf a b d).length) c2), (7, .int .i64 (a.length : Int)), (8, .int .i64 (b.length : Int)), (9, .int .i64 (d : Int)), (10, .slice A_1 (((2 * (d : Int)) + 1).toNat) c_2), (12, .int .i64 k), (13, .int .i64 (x + 1))] wd_21 [Value.int .i64 (IntKind.i64.wrap (x + 1)) = Value.int .i64 (x + 1)] (by kernel_rfl) ⟨wr_i64 (by omega) (by omega), trivial⟩ ?_
                  refine XL_nil ?_
                  refine ⟨(x + 1), by kernel_rfl, ?_, ?_⟩
                  · exact ⟨by omega, by omega, by omega, (snake_step a b k x ⟨by omega, by omega, c_32⟩).symm.trans hsx, (bt HBs hb_22)⟩
                  · (try dsimp only); omega
                · refine XS_run 2 [(75, .eq (.bool false))] [.bool false, .bool false] [(0, .slice A a.length c), (1, .slice A' b.length c'), (5, .slice A1 ((pre a b d).length) c1), (6, .slice A2 ((lastOf a b d).length) c2), (7, .int .i64 (a.length : Int)), (8, .int .i64 (b.length : Int)), (9, .int .i64 (d : Int)), (10, .slice A_1 (((2 * (d : Int)) + 1).toNat) c_2), (12, .int .i64 k), (13, .int .i64 x), (76, .bool false)] [Value.bool (rd a x == rd b (x - k)) = Value.bool false] (by kernel_rfl) (by kernel_rfl) ⟨congrArg Value.bool (beq_eq_false_iff_ne.2 (c_32)), trivial⟩ ?_
                  refine XS_nil ?_
                  refine X_cond false rfl ?_
                  refine X_exit ?_
                  have hst : snake a b k x = x := snake_stop a b k x (fun h => by have h1 := h.1; have h2 := h.2.1; have h3 := h.2.2; first | omega | exact absurd h3 (by assumption))
                  obtain rfl : z = x := by omega
                  exact ⟨(), by kernel_rfl, (bt HBs hb_22)⟩
              · refine XS_run 15 [(62, .eq (.bool false))] [.bool false, .bool false, .bool false, undef, undef, undef, undef, undef, undef, undef, undef, undef, undef, undef, .bool false] [(0, .slice A a.length c), (1, .slice A' b.length c'), (5, .slice A1 ((pre a b d).length) c1), (6, .slice A2 ((lastOf a b d).length) c2), (7, .int .i64 (a.length : Int)), (8, .int .i64 (b.length : Int)), (9, .int .i64 (d : Int)), (10, .slice A_1 (((2 * (d : Int)) + 1).toNat) c_2), (12, .int .i64 k), (13, .int .i64 x), (76, .bool false)] [Value.bool (decide (x - k < (b.length : Int))) = Value.bool false] (by kernel_rfl) (by kernel_rfl) ⟨congrArg Value.bool (decide_eq_false (c_25)), trivial⟩ ?_
                refine XS_nil ?_
                refine X_cond false rfl ?_
                refine X_exit ?_
                have hst : snake a b k x = x := snake_stop a b k x (fun h => by have h1 := h.1; have h2 := h.2.1; have h3 := h.2.2; first | omega | exact absurd h3 (by assumption))
                obtain rfl : z = x := by omega
                exact ⟨(), by kernel_rfl, (bt HBs hb_22)⟩
            · refine XS_run 21 [(56, .eq (.bool false))] [.bool false, .bool false, undef, undef, undef, undef, undef, .bool false, .bool false, undef, undef, undef, undef, undef, undef, undef, undef, undef, undef, undef, .bool false] [(0, .slice A a.length c), (1, .slice A' b.length c'), (5, .slice A1 ((pre a b d).length) c1), (6, .slice A2 ((lastOf a b d).length) c2), (7, .int .i64 (a.length : Int)), (8, .int .i64 (b.length : Int)), (9, .int .i64 (d : Int)), (10, .slice A_1 (((2 * (d : Int)) + 1).toNat) c_2), (12, .int .i64 k), (13, .int .i64 x), (76, .bool false)] [Value.bool (decide (x < (a.length : Int))) = Value.bool false] (by kernel_rfl) (by kernel_rfl) ⟨congrArg Value.bool (decide_eq_false (c_24)), trivial⟩ ?_
              refine XS_nil ?_
              refine X_cond false rfl ?_
              refine X_exit ?_
              have hst : snake a b k x = x := snake_stop a b k x (fun h => by have h1 := h.1; have h2 := h.2.1; have h3 := h.2.2; first | omega | exact absurd h3 (by assumption))
              obtain rfl : z = x := by omega
              exact ⟨(), by kernel_rfl, (bt HBs hb_22)⟩
          · rintro _ wz HBz
            refine X_seq ?_
            refine X_region ?_
            refine XL_run 5 [(82, .eq (.int .i64 (k + (d : Int))))] [(0, .slice A a.length c), (1, .slice A' b.length c'), (5, .slice A1 ((pre a b d).length) c1), (6, .slice A2 ((lastOf a b d).length) c2), (7, .int .i64 (a.length : Int)), (8, .int .i64 (b.length : Int)), (9, .int .i64 (d : Int)), (10, .slice A_1 (((2 * (d : Int)) + 1).toNat) c_2), (12, .int .i64 k), (13, .int .i64 z), (79, .slice A_1 (((2 * (d : Int)) + 1).toNat) c_2), (82, .int .i64 (k + (d : Int))), (83, .int .i64 z)] wz [Value.int .i64 (IntKind.i64.wrap (k + (d : Int))) = Value.int .i64 (k + (d : Int))] (by kernel_rfl) ⟨wr_i64 (by omega) (by omega), trivial⟩ ?_
            obtain ⟨ad_33, ha_34, hc_35⟩ := Kd.atI (Kd.R_C (Kd.R_below HK (bt hb_18 HBz))) (i := k + (d : Int)) (by omega) (by omega)
            refine XL_run 1 [(84, .idx ad_33)] [(0, .slice A a.length c), (1, .slice A' b.length c'), (5, .slice A1 ((pre a b d).length) c1), (6, .slice A2 ((lastOf a b d).length) c2), (7, .int .i64 (a.length : Int)), (8, .int .i64 (b.length : Int)), (9, .int .i64 (d : Int)), (10, .slice A_1 (((2 * (d : Int)) + 1).toNat) c_2), (12, .int .i64 k), (13, .int .i64 z), (83, .int .i64 z), (84, .pointer (some (ad_33.add ((k + (d : Int)).toNat * 1))))] wz [A_1 = some ad_33, (0 : Int) ≤ k + (d : Int), k + (d : Int) < (((2 * (d : Int)) + 1).toNat : Int)] (by kernel_rfl) ⟨ha_34, (by omega), (by omega), trivial⟩ ?_
            refine XL_rowset (Kd.int .i64) rfl rfl rfl wo.heap.size 3 (ad := ad_33) (i := k + (d : Int)) (v := .int .i64 z) (rowU a b (lastOf a b d) d jj) z (by kernel_rfl) ha_34 (Kd.R_below HK (bt hb_18 HBz)) (by omega) (by omega) [.int .i64 z] ⟨by kernel_rfl, by kernel_rfl⟩ (by kernel_rfl) rfl ?_
            intro w_36 hr_37 hg_38 hl_39
            have he_40 : ((rowU a b (lastOf a b d) d jj).set (k + (d : Int)).toNat z) = (rowU a b (lastOf a b d) d (jj + 1)) := by rw [show (k + (d : Int)).toNat = 2 * jj from by omega]; exact rowU_set _ _ _ _ _ hjd z (by rw [← hen, hk1])
            rw [he_40] at hr_37
            refine XL_nil ?_
            refine X_seq ?_
            refine X_region ?_
            refine XL_run 2 [] [(0, .slice A a.length c), (1, .slice A' b.length c'), (5, .slice A1 ((pre a b d).length) c1), (6, .slice A2 ((lastOf a b d).length) c2), (7, .int .i64 (a.length : Int)), (8, .int .i64 (b.length : Int)), (9, .int .i64 (d : Int)), (10, .slice A_1 (((2 * (d : Int)) + 1).toNat) c_2), (12, .int .i64 k), (13, .int .i64 z), (85, .int .i64 z), (86, .int .i64 (a.length : Int))] w_36 [] (by kernel_rfl) trivial ?_
            by_cases c_41 : z = (a.length : Int)
            · refine XL_run 6 [(87, .eq (.bool true)), (91, .eq (.int .i64 (z - k)))] [(0, .slice A a.length c), (1, .slice A' b.length c'), (5, .slice A1 ((pre a b d).length) c1), (6, .slice A2 ((lastOf a b d).length) c2), (7, .int .i64 (a.length : Int)), (8, .int .i64 (b.length : Int)), (9, .int .i64 (d : Int)), (10, .slice A_1 (((2 * (d : Int)) + 1).toNat) c_2), (12, .int .i64 k), (88, .bool true), (91, .int .i64 (z - k)), (92, .int .i64 (b.length : Int))] w_36 [Value.bool (z == (a.length : Int)) = Value.bool true, Value.int .i64 (IntKind.i64.wrap (z - k)) = Value.int .i64 (z - k)] (by kernel_rfl) ⟨congrArg Value.bool (beq_iff_eq.2 (c_41)), wr_i64 (by omega) (by omega), trivial⟩ ?_
              by_cases c_42 : z - k = (b.length : Int)
              · refine XL_run 2 [(93, .eq (.bool true))] [(0, .slice A a.length c), (1, .slice A' b.length c'), (5, .slice A1 ((pre a b d).length) c1), (6, .slice A2 ((lastOf a b d).length) c2), (7, .int .i64 (a.length : Int)), (8, .int .i64 (b.length : Int)), (9, .int .i64 (d : Int)), (10, .slice A_1 (((2 * (d : Int)) + 1).toNat) c_2), (12, .int .i64 k), (94, .bool true)] w_36 [Value.bool (z - k == (b.length : Int)) = Value.bool true] (by kernel_rfl) ⟨congrArg Value.bool (beq_iff_eq.2 (c_42)), trivial⟩ ?_
                refine XL_nil ?_
                refine X_cond true rfl ?_
                refine X_seq ?_
                refine X_region ?_
                refine XL_run 3 [] [(95, .slice A1 ((pre a b d).length) c1), (97, .slice (some ⟨w_36.heap.size, 0, none⟩) 1 1)] (w_36.alloc (.cells #[.slice A_1 (((2 * (d : Int)) + 1).toNat) c_2] 22)) [] (by kernel_rfl) trivial ?_
                obtain ⟨w_43, hw_47, hb_44, hk_45, hz_46⟩ := new_world w_36 #[.slice A_1 (((2 * (d : Int)) + 1).toNat) c_2] 22
                rw [hw_47]
                obtain ⟨okp_48, hM_49, hok_50⟩ := Kd.M_rowApart hr_37 (HB).size (Kd.R_below HR (bgo (bt (bt HB2 hb_18) HBz) hg_38 hl_39 (Nat.le_refl _))) (by decide)
                rw [← hw_47]
                refine XL_append (Kd.slice 3 (Kd.int .i64)) rfl rfl rfl w.heap.size 22 (.slice none 0 0) 24 Tryd.underlying42 info22 rfl (by decide) (by omega) (pre a b d) (rowU a b (lastOf a b d) d (jj + 1)) [.slice A_1 (((2 * (d : Int)) + 1).toNat) c_2] okp_48 (by kernel_rfl) hM_49 hok_50 (Kd.R_below HR (bgo (bt (bt HB2 hb_18) HBz) hg_38 hl_39 (Nat.le_refl _))) ((bgo (bt (bt (bt HB HB2) hb_18) HBz) hg_38 hl_39 (HB).size)).size (by rw [pre_length]; omega) ?_
                intro A_51 c_52 w_53 hr_54 hc_55 hg_56 hl_57 ha_58
                have hr_59 := Kd.R_apart hr_37 (Kd.R_below HR (bgo (bt (bt HB2 hb_18) HBz) hg_38 hl_39 (Nat.le_refl _))) (by decide) hg_56
                obtain ⟨rfl, rfl⟩ : d = D ∧ jj = j := by
                  have hfo : MM.Found a b d (2 * (jj : Int) - d) := by
                    have : e a b d (2 * (jj : Int) - d) = z := by rw [← hk1]; exact hen
                    exact ⟨by rw [this]; omega, by rw [this, ← hk1]; omega⟩
                  by_cases hdD : d = D
                  · refine ⟨hdD, ?_⟩
                    have h2 := hk2 hdD
                    by_cases hjj : jj = j
                    · exact hjj
                    · exact absurd (hdD ▸ hfo) (hnoj jj (by omega))
                  · exact absurd hfo (hno d (by omega) jj hjd)
                have he_60 : ((pre a b d) ++ [(rowU a b (lastOf a b d) d (jj + 1))]) = (fwd a b d jj) := rfl
                rw [he_60] at hr_54 ⊢
                refine XL_run 1 [] [(4, .slice A_51 ((fwd a b d jj).length) c_52)] w_53 [] (by kernel_rfl) trivial ?_
                refine XL_nil ?_
                refine X_ret ?_
                refine RX.ret_ok (P := Tryd.prog) (fn := Tryd.f20) (N := 104) (R := R_) [.slice A_51 ((fwd a b d jj).length) c_52] (by kernel_rfl) (hR_ _ _ ?_)
                exact ⟨_, _, rfl, hr_54, (bgo (bgo (bt (bt (bt HB HB2) hb_18) HBz) hg_38 hl_39 (HB).size) hg_56 hl_57 (Nat.le_refl _))⟩
              · refine XL_run 2 [(93, .eq (.bool false))] [(0, .slice A a.length c), (1, .slice A' b.length c'), (5, .slice A1 ((pre a b d).length) c1), (6, .slice A2 ((lastOf a b d).length) c2), (7, .int .i64 (a.length : Int)), (8, .int .i64 (b.length : Int)), (9, .int .i64 (d : Int)), (10, .slice A_1 (((2 * (d : Int)) + 1).toNat) c_2), (12, .int .i64 k), (94, .bool false)] w_36 [Value.bool (z - k == (b.length : Int)) = Value.bool false] (by kernel_rfl) ⟨congrArg Value.bool (beq_eq_false_iff_ne.2 (c_42)), trivial⟩ ?_
                refine XL_nil ?_
                refine X_cond false rfl ?_
                refine X_skip ?_
                refine X_region ?_
                refine XL_run 3 [(39, .eq (.int .i64 (k + 2)))] [(0, .slice A a.length c), (1, .slice A' b.length c'), (5, .slice A1 ((pre a b d).length) c1), (6, .slice A2 ((lastOf a b d).length) c2), (7, .int .i64 (a.length : Int)), (8, .int .i64 (b.length : Int)), (9, .int .i64 (d : Int)), (10, .slice A_1 (((2 * (d : Int)) + 1).toNat) c_2), (12, .int .i64 (k + 2))] w_36 [Value.int .i64 (IntKind.i64.wrap (k + 2)) = Value.int .i64 (k + 2)] (by kernel_rfl) ⟨wr_i64 (by omega) (by omega), trivial⟩ ?_
                refine XL_nil ?_
                refine ⟨⟨jj + 1, k + 2⟩, by kernel_rfl, ?_, ?_⟩
                · refine ⟨by omega, by omega, fun hdD => ?_, hr_37, (bgo (bt (bt HB2 hb_18) HBz) hg_38 hl_39 (Nat.le_refl _))⟩
                  have h2 := hk2 hdD
                  by_cases hjj : jj = j
                  · exfalso
                    have h3 : MM.Found a b D (2 * (j : Int) - D) := hyes
                    have h4 : e a b D (2 * (j : Int) - D) = z := by rw [← hdD, ← hjj, ← hk1]; exact hen
                    have h5 := h3.1
                    have h6 := h3.2
                    rw [h4] at h5 h6
                    omega
                  · omega
                · (try dsimp only); omega
            · refine XL_run 8 [(87, .eq (.bool false))] [(0, .slice A a.length c), (1, .slice A' b.length c'), (5, .slice A1 ((pre a b d).length) c1), (6, .slice A2 ((lastOf a b d).length) c2), (7, .int .i64 (a.length : Int)), (8, .int .i64 (b.length : Int)), (9, .int .i64 (d : Int)), (10, .slice A_1 (((2 * (d : Int)) + 1).toNat) c_2), (12, .int .i64 k), (94, .bool false)] w_36 [Value.bool (z == (a.length : Int)) = Value.bool false] (by kernel_rfl) ⟨congrArg Value.bool (beq_eq_false_iff_ne.2 (c_41)), trivial⟩ ?_
              refine XL_nil ?_
              refine X_cond false rfl ?_
              refine X_skip ?_
              refine X_region ?_
              refine XL_run 3 [(39, .eq (.int .i64 (k + 2)))] [(0, .slice A a.length c), (1, .slice A' b.length c'), (5, .slice A1 ((pre a b d).length) c1), (6, .slice A2 ((lastOf a b d).length) c2), (7, .int .i64 (a.length : Int)), (8, .int .i64 (b.length : Int)), (9, .int .i64 (d : Int)), (10, .slice A_1 (((2 * (d : Int)) + 1).toNat) c_2), (12, .int .i64 (k + 2))] w_36 [Value.int .i64 (IntKind.i64.wrap (k + 2)) = Value.int .i64 (k + 2)] (by kernel_rfl) ⟨wr_i64 (by omega) (by omega), trivial⟩ ?_
              refine XL_nil ?_
              refine ⟨⟨jj + 1, k + 2⟩, by kernel_rfl, ?_, ?_⟩
              · refine ⟨by omega, by omega, fun hdD => ?_, hr_37, (bgo (bt (bt HB2 hb_18) HBz) hg_38 hl_39 (Nat.le_refl _))⟩
                have h2 := hk2 hdD
                by_cases hjj : jj = j
                · exfalso
                  have h3 : MM.Found a b D (2 * (j : Int) - D) := hyes
                  have h4 : e a b D (2 * (j : Int) - D) = z := by rw [← hdD, ← hjj, ← hk1]; exact hen
                  have h5 := h3.1
                  have h6 := h3.2
                  rw [h4] at h5 h6
                  omega
                · omega
              · (try dsimp only); omega
    · refine XL_run 1 [(37, .eq (.bool false))] [(0, .slice A a.length c), (1, .slice A' b.length c'), (5, .slice A1 ((pre a b d).length) c1), (6, .slice A2 ((lastOf a b d).length) c2), (7, .int .i64 (a.length : Int)), (8, .int .i64 (b.length : Int)), (9, .int .i64 (d : Int)), (10, .slice A_1 (((2 * (d : Int)) + 1).toNat) c_2), (12, .int .i64 k), (37, .bool false)] wk [Value.bool (decide (k ≤ (d : Int))) = Value.bool false] (by kernel_rfl) ⟨congrArg Value.bool (decide_eq_false (c_16)), trivial⟩ ?_
      refine XL_nil ?_
      refine X_cond false rfl ?_
      refine X_exit ?_
      refine X_seq ?_
      refine X_region ?_
      refine XL_run 3 [] [(0, .slice A a.length c), (1, .slice A' b.length c'), (7, .int .i64 (a.length : Int)), (8, .int .i64 (b.length : Int)), (9, .int .i64 (d : Int)), (10, .slice A_1 (((2 * (d : Int)) + 1).toNat) c_2), (99, .slice A1 ((pre a b d).length) c1), (101, .slice (some ⟨wk.heap.size, 0, none⟩) 1 1)] (wk.alloc (.cells #[.slice A_1 (((2 * (d : Int)) + 1).toNat) c_2] 22)) [] (by kernel_rfl) trivial ?_
      obtain ⟨w_61, hw_65, hb_62, hk_63, hz_64⟩ := new_world wk #[.slice A_1 (((2 * (d : Int)) + 1).toNat) c_2] 22
      rw [hw_65]
      obtain ⟨okp_66, hM_67, hok_68⟩ := Kd.M_rowApart HK (HB).size (Kd.R_below HR HB2) (by decide)
      rw [← hw_65]
      refine XL_append (Kd.slice 3 (Kd.int .i64)) rfl rfl rfl w.heap.size 22 (.slice none 0 0) 24 Tryd.underlying42 info22 rfl (by decide) (by omega) (pre a b d) (rowU a b (lastOf a b d) d jj) [.slice A_1 (((2 * (d : Int)) + 1).toNat) c_2] okp_66 (by kernel_rfl) hM_67 hok_68 (Kd.R_below HR HB2) ((bt HB HB2)).size (by rw [pre_length]; omega) ?_
      intro A_69 c_70 w_71 hr_72 hc_73 hg_74 hl_75 ha_76
      have hr_77 := Kd.R_apart HK (Kd.R_below HR HB2) (by decide) hg_74
      have he_78 : ((pre a b d) ++ [(rowU a b (lastOf a b d) d jj)]) = (pre a b (d + 1)) := by rw [← pre_succ, rows_eq, show jj = d + 1 from by omega]
      rw [he_78] at hr_72 ⊢
      refine XL_run 1 [] [(0, .slice A a.length c), (1, .slice A' b.length c'), (5, .slice A_69 ((pre a b (d + 1)).length) c_70), (7, .int .i64 (a.length : Int)), (8, .int .i64 (b.length : Int)), (9, .int .i64 (d : Int)), (10, .slice A_1 (((2 * (d : Int)) + 1).toNat) c_2)] w_71 [] (by kernel_rfl) trivial ?_
      refine XL_nil ?_
      refine X_region ?_
      refine XL_run 2 [] [(0, .slice A a.length c), (1, .slice A' b.length c'), (5, .slice A_69 ((pre a b (d + 1)).length) c_70), (6, .slice A_1 (((2 * (d : Int)) + 1).toNat) c_2), (7, .int .i64 (a.length : Int)), (8, .int .i64 (b.length : Int)), (9, .int .i64 (d : Int))] w_71 [] (by kernel_rfl) trivial ?_
      refine XL_nil ?_
      refine X_region ?_
      refine XL_run 3 [(19, .eq (.int .i64 ((d : Int) + 1)))] [(0, .slice A a.length c), (1, .slice A' b.length c'), (5, .slice A_69 ((pre a b (d + 1)).length) c_70), (6, .slice A_1 (((2 * (d : Int)) + 1).toNat) c_2), (7, .int .i64 (a.length : Int)), (8, .int .i64 (b.length : Int)), (9, .int .i64 ((d : Int) + 1))] w_71 [Value.int .i64 (IntKind.i64.wrap ((d : Int) + 1)) = Value.int .i64 ((d : Int) + 1)] (by kernel_rfl) ⟨wr_i64 (by omega) (by omega), trivial⟩ ?_
      refine XL_nil ?_
      refine ⟨⟨d + 1, A_69, c_70, A_1, ((2 * (d : Int)) + 1).toNat, c_2⟩, by kernel_rfl, ?_, ?_⟩
      · refine ⟨by omega, hr_72, ?_, ?_, (bgo (bt HB HB2) hg_74 hl_75 (Nat.le_refl _))⟩
        · show _ = (rows a b d).length; rw [rows_length]; omega
        · have h := (Kd.R_C hr_77)
          rw [show jj = d + 1 from by omega, ← rows_eq] at h
          exact h
      · (try dsimp only); omega
end Go.Proofs.YtmhkeojbjliieaaDoor
