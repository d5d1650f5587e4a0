/- What vellumnum.list and Num answer. Condition: Errs. -/
import Derived.Test.YtkehomiogkoomaaDoorErr
import Derived.Test.YtkehomiogkoomaaDoorKd
set_option linter.unusedVariables false
set_option linter.unusedSimpArgs false
set_option maxRecDepth 100000
namespace Go.Proofs.YtkehomiogkoomaaDoor
open Go Go.RowKit RX
theorem ent89 : Ent Tryd.prog 89 := ent_of Tryd.func89 (by kernel_rfl) rfl
theorem ent18 : Ent Tryd.prog 18 := ent_of Tryd.func18 (by kernel_rfl) rfl
theorem list_any (es : List Addr) (w : World) (h : Errs w es) : Calls Tryd.prog 89 #[] w fun e w' => e = .returned (.agg (errAgg es)) ∧ Below w.heap.size w w' := by
  refine RX.enter Tryd.func89 rfl 21 rfl [] rfl (by kernel_rfl) (fun R_ hR_ => ?_)
  refine X_seq ?_
  refine X_region ?_
  refine XL_run 1 [] [(0, .pointer (some ⟨w.heap.size, 0, none⟩))] (w.alloc (.cells #[.nilIface, .nilIface, .nilIface, .nilIface, .nilIface, .nilIface, .nilIface, .nilIface, .nilIface, .nilIface, .nilIface, .nilIface, .nilIface, .nilIface, .nilIface, .nilIface, .nilIface, .nilIface, .nilIface] 149)) [] (by kernel_rfl) trivial ?_
  obtain ⟨w_1, hw_5, hb_2, hk_3, hz_4⟩ := new_world w #[.nilIface, .nilIface, .nilIface, .nilIface, .nilIface, .nilIface, .nilIface, .nilIface, .nilIface, .nilIface, .nilIface, .nilIface, .nilIface, .nilIface, .nilIface, .nilIface, .nilIface, .nilIface, .nilIface] 149
  rw [hw_5]
  refine XL_nil ?_
  refine X_seq ?_
  refine X_region ?_
  refine XL_run 20 [(1, .load (.iface 235 (.pointer (some (errAt es 1))))), (2, .load (.iface 235 (.pointer (some (errAt es 2))))), (3, .load (.iface 235 (.pointer (some (errAt es 3))))), (4, .load (.iface 235 (.pointer (some (errAt es 4))))), (5, .load (.iface 235 (.pointer (some (errAt es 5))))), (6, .load (.iface 235 (.pointer (some (errAt es 6))))), (7, .load (.iface 235 (.pointer (some (errAt es 7))))), (8, .load (.iface 235 (.pointer (some (errAt es 8))))), (9, .load (.iface 235 (.pointer (some (errAt es 9))))), (10, .load (.iface 235 (.pointer (some (errAt es 10))))), (11, .load (.iface 235 (.pointer (some (errAt es 11))))), (12, .load (.iface 235 (.pointer (some (errAt es 12))))), (13, .load (.iface 235 (.pointer (some (errAt es 13))))), (14, .load (.iface 235 (.pointer (some (errAt es 14))))), (15, .load (.iface 235 (.pointer (some (errAt es 15))))), (16, .load (.iface 235 (.pointer (some (errAt es 16))))), (17, .load (.iface 235 (.pointer (some (errAt es 17))))), (18, .load (.iface 235 (.pointer (some (errAt es 18))))), (19, .load (.iface 235 (.pointer (some (errAt es 19)))))] [(0, .pointer (some ⟨w.heap.size, 0, none⟩)), (20, .agg #[.iface 235 (.pointer (some (errAt es 1))), .iface 235 (.pointer (some (errAt es 2))), .iface 235 (.pointer (some (errAt es 3))), .iface 235 (.pointer (some (errAt es 4))), .iface 235 (.pointer (some (errAt es 5))), .iface 235 (.pointer (some (errAt es 6))), .iface 235 (.pointer (some (errAt es 7))), .iface 235 (.pointer (some (errAt es 8))), .iface 235 (.pointer (some (errAt es 9))), .iface 235 (.pointer (some (errAt es 10))), .iface 235 (.pointer (some (errAt es 11))), .iface 235 (.pointer (some (errAt es 12))), .iface 235 (.pointer (some (errAt es 13))), .iface 235 (.pointer (some (errAt es 14))), .iface 235 (.pointer (some (errAt es 15))), .iface 235 (.pointer (some (errAt es 16))), .iface 235 (.pointer (some (errAt es 17))), .iface 235 (.pointer (some (errAt es 18))), .iface 235 (.pointer (some (errAt es 19)))])] w_1 [LoadsAs Tryd.prog 24 (⟨0, 0, none⟩) (.iface 235 (.pointer (some (errAt es 1)))) w_1, LoadsAs Tryd.prog 24 (⟨6, 0, none⟩) (.iface 235 (.pointer (some (errAt es 2)))) w_1, LoadsAs Tryd.prog 24 (⟨7, 0, none⟩) (.iface 235 (.pointer (some (errAt es 3)))) w_1, LoadsAs Tryd.prog 24 (⟨8, 0, none⟩) (.iface 235 (.pointer (some (errAt es 4)))) w_1, LoadsAs Tryd.prog 24 (⟨5, 0, none⟩) (.iface 235 (.pointer (some (errAt es 5)))) w_1, LoadsAs Tryd.prog 24 (⟨4, 0, none⟩) (.iface 235 (.pointer (some (errAt es 6)))) w_1, LoadsAs Tryd.prog 24 (⟨1, 0, none⟩) (.iface 235 (.pointer (some (errAt es 7)))) w_1, LoadsAs Tryd.prog 24 (⟨2, 0, none⟩) (.iface 235 (.pointer (some (errAt es 8)))) w_1, LoadsAs Tryd.prog 24 (⟨9, 0, none⟩) (.iface 235 (.pointer (some (errAt es 9)))) w_1, LoadsAs Tryd.prog 24 (⟨10, 0, none⟩) (.iface 235 (.pointer (some (errAt es 10)))) w_1, LoadsAs Tryd.prog 24 (⟨11, 0, none⟩) (.iface 235 (.pointer (some (errAt es 11)))) w_1, LoadsAs Tryd.prog 24 (⟨12, 0, none⟩) (.iface 235 (.pointer (some (errAt es 12)))) w_1, LoadsAs Tryd.prog 24 (⟨13, 0, none⟩) (.iface 235 (.pointer (some (errAt es 13)))) w_1, LoadsAs Tryd.prog 24 (⟨14, 0, none⟩) (.iface 235 (.pointer (some (errAt es 14)))) w_1, LoadsAs Tryd.prog 24 (⟨15, 0, none⟩) (.iface 235 (.pointer (some (errAt es 15)))) w_1, LoadsAs Tryd.prog 24 (⟨16, 0, none⟩) (.iface 235 (.pointer (some (errAt es 16)))) w_1, LoadsAs Tryd.prog 24 (⟨17, 0, none⟩) (.iface 235 (.pointer (some (errAt es 17)))) w_1, LoadsAs Tryd.prog 24 (⟨3, 0, none⟩) (.iface 235 (.pointer (some (errAt es 18)))) w_1, LoadsAs Tryd.prog 24 (⟨18, 0, none⟩) (.iface 235 (.pointer (some (errAt es 19)))) w_1] (by kernel_rfl) ⟨loads1 rfl ((hb_2.cell (World.block_lt_of_cell? _ _ (h.load 1 0 (by decide) (by decide) rfl))).trans (h.load 1 0 (by decide) (by decide) rfl)), loads1 rfl ((hb_2.cell (World.block_lt_of_cell? _ _ (h.load 2 6 (by decide) (by decide) rfl))).trans (h.load 2 6 (by decide) (by decide) rfl)), loads1 rfl ((hb_2.cell (World.block_lt_of_cell? _ _ (h.load 3 7 (by decide) (by decide) rfl))).trans (h.load 3 7 (by decide) (by decide) rfl)), loads1 rfl ((hb_2.cell (World.block_lt_of_cell? _ _ (h.load 4 8 (by decide) (by decide) rfl))).trans (h.load 4 8 (by decide) (by decide) rfl)), loads1 rfl ((hb_2.cell (World.block_lt_of_cell? _ _ (h.load 5 5 (by decide) (by decide) rfl))).trans (h.load 5 5 (by decide) (by decide) rfl)), loads1 rfl ((hb_2.cell (World.block_lt_of_cell? _ _ (h.load 6 4 (by decide) (by decide) rfl))).trans (h.load 6 4 (by decide) (by decide) rfl)), loads1 rfl ((hb_2.cell (World.block_lt_of_cell? _ _ (h.load 7 1 (by decide) (by decide) rfl))).trans (h.load 7 1 (by decide) (by decide) rfl)), loads1 rfl ((hb_2.cell (World.block_lt_of_cell? _ _ (h.load 8 2 (by decide) (by decide) rfl))).trans (h.load 8 2 (by decide) (by decide) rfl)), loads1 rfl ((hb_2.cell (World.block_lt_of_cell? _ _ (h.load 9 9 (by decide) (by decide) rfl))).trans (h.load 9 9 (by decide) (by decide) rfl)), loads1 rfl ((hb_2.cell (World.block_lt_of_cell? _ _ (h.load 10 10 (by decide) (by decide) rfl))).trans (h.load 10 10 (by decide) (by decide) rfl)), loads1 rfl ((hb_2.cell (World.block_lt_of_cell? _ _ (h.load 11 11 (by decide) (by decide) rfl))).trans (h.load 11 11 (by decide) (by decide) rfl)), loads1 rfl ((hb_2.cell (World.block_lt_of_cell? _ _ (h.load 12 12 (by decide) (by decide) rfl))).trans (h.load 12 12 (by decide) (by decide) rfl)), loads1 rfl ((hb_2.cell (World.block_lt_of_cell? _ _ (h.load 13 13 (by decide) (by decide) rfl))).trans (h.load 13 13 (by decide) (by decide) rfl)), loads1 rfl ((hb_2.cell (World.block_lt_of_cell? _ _ (h.load 14 14 (by decide) (by decide) rfl))).trans (h.load 14 14 (by decide) (by decide) rfl)), loads1 rfl ((hb_2.cell (World.block_lt_of_cell? _ _ (h.load 15 15 (by decide) (by decide) rfl))).trans (h.load 15 15 (by decide) (by decide) rfl)), loads1 rfl ((hb_2.cell (World.block_lt_of_cell? _ _ (h.load 16 16 (by decide) (by decide) rfl))).trans (h.load 16 16 (by decide) (by decide) rfl)), loads1 rfl ((hb_2.cell (World.block_lt_of_cell? _ _ (h.load 17 17 (by decide) (by decide) rfl))).trans (h.load 17 17 (by decide) (by decide) rfl)), loads1 rfl ((hb_2.cell (World.block_lt_of_cell? _ _ (h.load 18 3 (by decide) (by decide) rfl))).trans (h.load 18 3 (by decide) (by decide) rfl)), loads1 rfl ((hb_2.cell (World.block_lt_of_cell? _ _ (h.load 19 18 (by decide) (by decide) rfl))).trans (h.load 19 18 (by decide) (by decide) rfl)), trivial⟩ ?_
  refine XL_store (v := .agg #[.iface 235 (.pointer (some (errAt es 1))), .iface 235 (.pointer (some (errAt es 2))), .iface 235 (.pointer (some (errAt es 3))), .iface 235 (.pointer (some (errAt es 4))), .iface 235 (.pointer (some (errAt es 5))), .iface 235 (.pointer (some (errAt es 6))), .iface 235 (.pointer (some (errAt es 7))), .iface 235 (.pointer (some (errAt es 8))), .iface 235 (.pointer (some (errAt es 9))), .iface 235 (.pointer (some (errAt es 10))), .iface 235 (.pointer (some (errAt es 11))), .iface 235 (.pointer (some (errAt es 12))), .iface 235 (.pointer (some (errAt es 13))), .iface 235 (.pointer (some (errAt es 14))), .iface 235 (.pointer (some (errAt es 15))), .iface 235 (.pointer (some (errAt es 16))), .iface 235 (.pointer (some (errAt es 17))), .iface 235 (.pointer (some (errAt es 18))), .iface 235 (.pointer (some (errAt es 19)))]) rfl rfl rfl (by kernel_rfl) hk_3 0 [.iface 235 (.pointer (some (errAt es 1))), .iface 235 (.pointer (some (errAt es 2))), .iface 235 (.pointer (some (errAt es 3))), .iface 235 (.pointer (some (errAt es 4))), .iface 235 (.pointer (some (errAt es 5))), .iface 235 (.pointer (some (errAt es 6))), .iface 235 (.pointer (some (errAt es 7))), .iface 235 (.pointer (some (errAt es 8))), .iface 235 (.pointer (some (errAt es 9))), .iface 235 (.pointer (some (errAt es 10))), .iface 235 (.pointer (some (errAt es 11))), .iface 235 (.pointer (some (errAt es 12))), .iface 235 (.pointer (some (errAt es 13))), .iface 235 (.pointer (some (errAt es 14))), .iface 235 (.pointer (some (errAt es 15))), .iface 235 (.pointer (some (errAt es 16))), .iface 235 (.pointer (some (errAt es 17))), .iface 235 (.pointer (some (errAt es 18))), .iface 235 (.pointer (some (errAt es 19)))] #[.iface 235 (.pointer (some (errAt es 1))), .iface 235 (.pointer (some (errAt es 2))), .iface 235 (.pointer (some (errAt es 3))), .iface 235 (.pointer (some (errAt es 4))), .iface 235 (.pointer (some (errAt es 5))), .iface 235 (.pointer (some (errAt es 6))), .iface 235 (.pointer (some (errAt es 7))), .iface 235 (.pointer (some (errAt es 8))), .iface 235 (.pointer (some (errAt es 9))), .iface 235 (.pointer (some (errAt es 10))), .iface 235 (.pointer (some (errAt es 11))), .iface 235 (.pointer (some (errAt es 12))), .iface 235 (.pointer (some (errAt es 13))), .iface 235 (.pointer (some (errAt es 14))), .iface 235 (.pointer (some (errAt es 15))), .iface 235 (.pointer (some (errAt es 16))), .iface 235 (.pointer (some (errAt es 17))), .iface 235 (.pointer (some (errAt es 18))), .iface 235 (.pointer (some (errAt es 19)))] ⟨by kernel_rfl, rfl, by kernel_rfl⟩ ⟨by kernel_rfl, by kernel_rfl⟩ (Nat.le_of_ble_eq_true (by kernel_rfl)) (fun w_6 hg_7 hk_8 hz_9 => ?_)
  refine XL_nil ?_
  refine X_ret ?_
  refine RX.ret_cell (P := Tryd.prog) (fn := Tryd.f89) (N := 21) (R := R_) (c := 0) (t := 149) (p := ⟨w.heap.size, 0, none⟩) (v := .agg #[.iface 235 (.pointer (some (errAt es 1))), .iface 235 (.pointer (some (errAt es 2))), .iface 235 (.pointer (some (errAt es 3))), .iface 235 (.pointer (some (errAt es 4))), .iface 235 (.pointer (some (errAt es 5))), .iface 235 (.pointer (some (errAt es 6))), .iface 235 (.pointer (some (errAt es 7))), .iface 235 (.pointer (some (errAt es 8))), .iface 235 (.pointer (some (errAt es 9))), .iface 235 (.pointer (some (errAt es 10))), .iface 235 (.pointer (some (errAt es 11))), .iface 235 (.pointer (some (errAt es 12))), .iface 235 (.pointer (some (errAt es 13))), .iface 235 (.pointer (some (errAt es 14))), .iface 235 (.pointer (some (errAt es 15))), .iface 235 (.pointer (some (errAt es 16))), .iface 235 (.pointer (some (errAt es 17))), .iface 235 (.pointer (some (errAt es 18))), .iface 235 (.pointer (some (errAt es 19)))]) rfl rfl (loadsB rfl rfl hk_8 0 ⟨by kernel_rfl, by kernel_rfl⟩) (hR_ _ _ ?_)
  exact ⟨rfl, (bg hb_2 hg_7 (Nat.le_refl _))⟩
theorem num_nil (w : World) : Calls Tryd.prog 18 #[.nilIface] w fun e w' => e = .returned (.int .i64 0) ∧ Below w.heap.size w w' := by
  refine RX.enter Tryd.func18 rfl 18 rfl [(0, .nilIface)] rfl (by kernel_rfl) (fun R_ hR_ => ?_)
  refine X_seq ?_
  refine X_region ?_
  refine XL_run 1 [] [(0, .nilIface)] w [] (by kernel_rfl) trivial ?_
  refine XL_nil ?_
  refine X_seq ?_
  refine X_seq ?_
  refine X_region ?_
  refine XL_run 2 [] [(0, .nilIface), (6, .bool true)] w [] (by kernel_rfl) trivial ?_
  refine XL_nil ?_
  refine X_cond true rfl ?_
  refine X_seq ?_
  refine X_region ?_
  refine XL_run 1 [] [(2, .int .i64 0)] w [] (by kernel_rfl) trivial ?_
  refine XL_nil ?_
  refine X_ret ?_
  refine RX.ret_ok (P := Tryd.prog) (fn := Tryd.f18) (N := 18) (R := R_) [.int .i64 0] (by kernel_rfl) (hR_ _ _ ?_)
  exact ⟨rfl, (Below.refl _ _)⟩
theorem num_err (es : List Addr) (n : Nat) (hn : 0 < n) (hn' : n ≤ 19) (w : World) (h : Errs w es) : Calls Tryd.prog 18 #[.iface 235 (.pointer (some (errAt es n)))] w fun e w' => e = .returned (.int .i64 (n : Int)) ∧ Below w.heap.size w w' := by
  refine RX.enter Tryd.func18 rfl 18 rfl [(0, .iface 235 (.pointer (some (errAt es n))))] rfl (by kernel_rfl) (fun R_ hR_ => ?_)
  refine X_seq ?_
  refine X_region ?_
  refine XL_run 1 [] [(0, .iface 235 (.pointer (some (errAt es n))))] w [] (by kernel_rfl) trivial ?_
  refine XL_nil ?_
  refine X_seq ?_
  refine X_seq ?_
  refine X_region ?_
  refine XL_run 2 [] [(0, .iface 235 (.pointer (some (errAt es n)))), (6, .bool false)] w [] (by kernel_rfl) trivial ?_
  refine XL_nil ?_
  refine X_cond false rfl ?_
  refine X_skip ?_
  refine X_seq ?_
  refine X_seq ?_
  refine X_region ?_
  refine XL_call 89 rfl rfl rfl ent89 [] (by kernel_rfl) (list_any es _ (h.below (Below.refl _ _))) ?_
  rintro e w_1 ⟨rfl, hb_2⟩; refine ⟨_, rfl, ?_⟩
  refine XL_run 1 [] [(0, .iface 235 (.pointer (some (errAt es n)))), (7, .agg (errAgg es)), (8, .int .i64 0)] w_1 [] (by kernel_rfl) trivial ?_
  refine XL_nil ?_
  refine X_block ?_
  refine X_loop (ι := Nat) (fun i => [(0, .iface 235 (.pointer (some (errAt es n)))), (7, .agg (errAgg es)), (8, .int .i64 (i : Int))]) (fun i wl => i < n ∧ Below w.heap.size w wl) (fun i => n - i) 0 ⟨by omega, hb_2⟩ (by kernel_rfl) ?_
  rintro i wl ⟨hi, HB⟩
  refine X_seq ?_
  refine X_region ?_
  by_cases c_3 : (i : Int) < 19
  · refine XL_run 1 [(9, .eq (.bool true))] [(0, .iface 235 (.pointer (some (errAt es n)))), (7, .agg (errAgg es)), (8, .int .i64 (i : Int)), (9, .bool true)] wl [Value.bool (decide ((i : Int) < 19)) = Value.bool true] (by kernel_rfl) ⟨congrArg Value.bool (decide_eq_true (c_3)), trivial⟩ ?_
    refine XL_nil ?_
    refine X_seq ?_
    refine X_cond true rfl ?_
    refine X_skip ?_
    refine X_seq ?_
    refine X_block ?_
    refine X_seq ?_
    refine X_region ?_
    refine XL_run 4 [(11, .as (.iface 235 (.pointer (some (errAt es (i + 1))))))] [(0, .iface 235 (.pointer (some (errAt es n)))), (3, .int .i64 (i : Int)), (4, .iface 235 (.pointer (some (errAt es (i + 1))))), (7, .agg (errAgg es)), (8, .int .i64 (i : Int))] wl [RunsAs Tryd.prog [(7, .agg (errAgg es)), (8, .int .i64 (i : Int))] (Go.Op.index 149 (Go.Operand.tmp 7) (Go.Operand.tmp 8)) 24 (.iface 235 (.pointer (some (errAt es (i + 1))))) wl] (by kernel_rfl) ⟨runs_index rfl rfl (err_index es i (by omega) _), trivial⟩ ?_
    refine XL_nil ?_
    refine X_seq ?_
    refine X_region ?_
    refine XL_run 2 [] [(0, .iface 235 (.pointer (some (errAt es n)))), (3, .int .i64 (i : Int)), (7, .agg (errAgg es)), (8, .int .i64 (i : Int)), (12, .iface 235 (.pointer (some (errAt es n)))), (13, .iface 235 (.pointer (some (errAt es (i + 1)))))] wl [] (by kernel_rfl) trivial ?_
    by_cases c_4 : n = i + 1
    · refine XL_run 1 [(14, .as (.bool true))] [(0, .iface 235 (.pointer (some (errAt es n)))), (3, .int .i64 (i : Int)), (7, .agg (errAgg es)), (8, .int .i64 (i : Int)), (14, .bool true)] wl [RunsAs Tryd.prog [(12, .iface 235 (.pointer (some (errAt es n)))), (13, .iface 235 (.pointer (some (errAt es (i + 1)))))] (Go.Op.binOp Go.BinOp.eql 24 (Go.Operand.tmp 12) (Go.Operand.tmp 13) 24) 4 (.bool true) wl] (by kernel_rfl) ⟨runs_bin rfl rfl rfl (by have h := (h.below HB).eql (n := n) (m := i + 1) (by omega) (by omega) (by omega) (by omega); rw [decide_eq_true c_4] at h; exact h), trivial⟩ ?_
      refine XL_nil ?_
      refine X_cond true rfl ?_
      refine X_seq ?_
      refine X_region ?_
      refine XL_run 3 [(16, .eq (.int .i64 ((i : Int) + 1)))] [(2, .int .i64 ((i : Int) + 1))] wl [Value.int .i64 (IntKind.i64.wrap ((i : Int) + 1)) = Value.int .i64 ((i : Int) + 1)] (by kernel_rfl) ⟨wr_i64 (by omega) (by omega), trivial⟩ ?_
      refine XL_nil ?_
      refine X_ret ?_
      refine RX.ret_ok (P := Tryd.prog) (fn := Tryd.f18) (N := 18) (R := R_) [.int .i64 ((i : Int) + 1)] (by kernel_rfl) (hR_ _ _ ?_)
      exact ⟨ret_int (by omega), HB⟩
    · refine XL_run 1 [(14, .as (.bool false))] [(0, .iface 235 (.pointer (some (errAt es n)))), (3, .int .i64 (i : Int)), (7, .agg (errAgg es)), (8, .int .i64 (i : Int)), (14, .bool false)] wl [RunsAs Tryd.prog [(12, .iface 235 (.pointer (some (errAt es n)))), (13, .iface 235 (.pointer (some (errAt es (i + 1)))))] (Go.Op.binOp Go.BinOp.eql 24 (Go.Operand.tmp 12) (Go.Operand.tmp 13) 24) 4 (.bool false) wl] (by kernel_rfl) ⟨runs_bin rfl rfl rfl (by have h := (h.below HB).eql (n := n) (m := i + 1) (by omega) (by omega) (by omega) (by omega); rw [decide_eq_false c_4] at h; exact h), trivial⟩ ?_
      refine XL_nil ?_
      refine X_cond false rfl ?_
      refine X_skip ?_
      refine X_region ?_
      refine XL_run 2 [(17, .eq (.int .i64 ((i : Int) + 1)))] [(0, .iface 235 (.pointer (some (errAt es n)))), (7, .agg (errAgg es)), (8, .int .i64 ((i : Int) + 1))] wl [Value.int .i64 (IntKind.i64.wrap ((i : Int) + 1)) = Value.int .i64 ((i : Int) + 1)] (by kernel_rfl) ⟨wr_i64 (by omega) (by omega), trivial⟩ ?_
      refine XL_nil ?_
      refine ⟨(i + 1), by kernel_rfl, ?_, ?_⟩
      · exact ⟨by omega, HB⟩
      · (try dsimp only); omega
  · exfalso; omega
theorem num_any (es : List Addr) (n : Nat) (hn : n ≤ 19) (w : World) (h : Errs w es) : Calls Tryd.prog 18 #[errV es n] w fun e w' => e = .returned (.int .i64 (n : Int)) ∧ Below w.heap.size w w' := by
  by_cases h0 : n = 0
  · subst h0
    exact num_nil w
  · rw [errV_pos _ _ (by omega)]
    exact num_err es n (by omega) hn w h
end Go.Proofs.YtkehomiogkoomaaDoor
