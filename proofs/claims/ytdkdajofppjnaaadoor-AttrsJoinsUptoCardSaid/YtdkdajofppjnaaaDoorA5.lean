/- What attrs.composed, between and Transform's last part answer: lists of steps' answers. Conditions: lengths. -/
import Derived.Test.YtdkdajofppjnaaaDoorA4
import Derived.Test.YtdkdajofppjnaaaDoorA3
import Derived.Test.YtdkdajofppjnaaaDoorPatch
import Derived.Test.YtdkdajofppjnaaaDoorCap
import Derived.Test.YtdkdajofppjnaaaDoorAn2
set_option linter.unusedVariables false
set_option linter.unusedSimpArgs false
set_option maxRecDepth 100000
namespace Go.Proofs.YtdkdajofppjnaaaDoor
open Go Go.RowKit Go.Proofs.YtdkdajofppjnaaaDoorW.PrintWords RX
theorem ent64 : Ent Tryd.prog 64 := ent_of Tryd.func64 (by kernel_rfl) rfl
theorem ent40 : Ent Tryd.prog 40 := ent_of Tryd.func40 (by kernel_rfl) rfl
theorem ent62 : Ent Tryd.prog 62 := ent_of Tryd.func62 (by kernel_rfl) rfl
theorem ent44 : Ent Tryd.prog 44 := ent_of Tryd.func44 (by kernel_rfl) rfl
theorem ent63 : Ent Tryd.prog 63 := ent_of Tryd.func63 (by kernel_rfl) rfl
theorem ent43 : Ent Tryd.prog 43 := ent_of Tryd.func43 (by kernel_rfl) rfl
/-- what has been put out so far: a cell of the caller's holds the row -/
def OutSt (Wb : World) (g : Nat) (xs : List At) (w : World) : Prop := ∃ A c, Blk w g 22 #[.slice A xs.length c] ∧ kAttr.R 55 w Wb.heap.size (OkFrom Wb.heap.size) (.slice A xs.length c) xs ∧ Wb.heap.size ≤ w.heap.size
theorem OutSt.below {Wb : World} {g : Nat} {xs : List At} {w w1 : World} (h : OutSt Wb g xs w) (hb : Below w.heap.size w w1) : OutSt Wb g xs w1 := by
  obtain ⟨A, c, h1, h2, h3⟩ := h
  exact ⟨A, c, h1.below hb, Kd.R_below h2 hb, Nat.le_trans h3 hb.size⟩
theorem plain_iff (x y : At) : ((x.2.1 == y.2.1) && ((x.2.2.1 == y.2.2.1) && (x.2.2.2.toList == y.2.2.2.toList))) = decide (x.2 = y.2) := by
  obtain ⟨a, b, c, d⟩ := x
  obtain ⟨a', b', c', d'⟩ := y
  rw [Bool.eq_iff_iff]
  simp only [Bool.and_eq_true, beq_iff_eq, Prod.mk.injEq, decide_eq_true_eq]
  exact ⟨fun ⟨h2, h3, h4⟩ => ⟨h2, h3, bytes_ext h4⟩, fun ⟨h2, h3, h4⟩ => ⟨h2, h3, by rw [h4]⟩⟩
theorem plain_eql10 (a b : Int) (s : ByteArray) (c d : Int) (t : ByteArray) (w : World) : (Op.equalIn 10000 43 (.agg #[.int .i64 a, .int .i64 b, .string s]) (.agg #[.int .i64 c, .int .i64 d, .string t])).run Tryd.prog w = .ok ((a == c) && ((b == d) && (s.toList == t.toList))) w := by
  refine eqA_of (d := 9999) Tryd.underlying43 (by kernel_rfl) ?_
  exact eqf_cons (a := .int .i64 a) (b := .int .i64 c) rfl (by kernel_rfl) (by kernel_rfl) (run_equalIn_int _ _ _ _ _ _ _ Tryd.underlying3) (eqf_cons (a := .int .i64 b) (b := .int .i64 d) rfl (by kernel_rfl) (by kernel_rfl) (run_equalIn_int _ _ _ _ _ _ _ Tryd.underlying2) (eqf_last (a := .string s) (b := .string t) rfl (by kernel_rfl) (by kernel_rfl) (run_equalIn_string _ _ _ _ _ Tryd.underlying9)))
theorem plain_eqB (x y : At) (w : World) : (binOp .eql 43 (.agg #[.int .i64 x.2.1, .int .i64 x.2.2.1, .string x.2.2.2]) (.agg #[.int .i64 y.2.1, .int .i64 y.2.2.1, .string y.2.2.2])).run Tryd.prog w = .ok (.bool (decide (x.2 = y.2))) w := by
  have h := plain_eql10 x.2.1 x.2.2.1 x.2.2.2 y.2.1 y.2.2.1 y.2.2.2 w
  rw [plain_iff] at h
  rw [run_eql_struct]
  show ((Op.equalIn 10000 43 (.agg #[.int .i64 x.2.1, .int .i64 x.2.2.1, .string x.2.2.2]) (.agg #[.int .i64 y.2.1, .int .i64 y.2.2.1, .string y.2.2.2])).run Tryd.prog w).andThen _ = _
  rw [h]; rfl
theorem vsame_any (x y : At) (w : World) : Calls Tryd.prog 64 #[.agg #[.int .i64 x.2.1, .int .i64 x.2.2.1, .string x.2.2.2], .agg #[.int .i64 y.2.1, .int .i64 y.2.2.1, .string y.2.2.2]] w fun e w' => e = .returned (.bool (decide (x.2 = y.2))) ∧ Below w.heap.size w w' := by
  refine RX.enter Tryd.func64 rfl 8 rfl [(0, .agg #[.int .i64 x.2.1, .int .i64 x.2.2.1, .string x.2.2.2]), (1, .agg #[.int .i64 y.2.1, .int .i64 y.2.2.1, .string y.2.2.2])] rfl (by kernel_rfl) (fun R_ hR_ => ?_)
  refine X_seq ?_
  refine X_region ?_
  refine XL_run 1 [] [(1, .agg #[.int .i64 y.2.1, .int .i64 y.2.2.1, .string y.2.2.2]), (2, .pointer (some ⟨w.heap.size, 0, none⟩))] (w.alloc (.cells #[.int .i64 x.2.1, .int .i64 x.2.2.1, .string x.2.2.2] 43)) [] (by kernel_rfl) trivial ?_
  obtain ⟨w_1, hw_5, hb_2, hk_3, hz_4⟩ := new_world w #[.int .i64 x.2.1, .int .i64 x.2.2.1, .string x.2.2.2] 43
  rw [hw_5]
  refine XL_run 1 [] [(2, .pointer (some ⟨w.heap.size, 0, none⟩)), (3, .pointer (some ⟨w_1.heap.size, 0, none⟩))] (w_1.alloc (.cells #[.int .i64 y.2.1, .int .i64 y.2.2.1, .string y.2.2.2] 43)) [] (by kernel_rfl) trivial ?_
  obtain ⟨w_6, hw_10, hb_7, hk_8, hz_9⟩ := new_world w_1 #[.int .i64 y.2.1, .int .i64 y.2.2.1, .string y.2.2.2] 43
  rw [hw_10]
  refine XL_run 1 [] [(2, .pointer (some ⟨w.heap.size, 0, none⟩)), (3, .pointer (some ⟨w_1.heap.size, 0, none⟩))] w_6 [] (by kernel_rfl) trivial ?_
  refine XL_nil ?_
  refine X_seq ?_
  refine X_region ?_
  refine XL_run 4 [(5, .load (.agg #[.int .i64 x.2.1, .int .i64 x.2.2.1, .string x.2.2.2])), (6, .load (.agg #[.int .i64 y.2.1, .int .i64 y.2.2.1, .string y.2.2.2])), (7, .as (.bool (decide (x.2 = y.2))))] [(4, .bool (decide (x.2 = y.2)))] w_6 [LoadsAs Tryd.prog 43 (⟨w.heap.size, 0, none⟩) (.agg #[.int .i64 x.2.1, .int .i64 x.2.2.1, .string x.2.2.2]) w_6, LoadsAs Tryd.prog 43 (⟨w_1.heap.size, 0, none⟩) (.agg #[.int .i64 y.2.1, .int .i64 y.2.2.1, .string y.2.2.2]) w_6, RunsAs Tryd.prog [(5, .agg #[.int .i64 x.2.1, .int .i64 x.2.2.1, .string x.2.2.2]), (6, .agg #[.int .i64 y.2.1, .int .i64 y.2.2.1, .string y.2.2.2])] (Go.Op.binOp Go.BinOp.eql 43 (Go.Operand.tmp 5) (Go.Operand.tmp 6) 43) 4 (.bool (decide (x.2 = y.2))) w_6] (by kernel_rfl) ⟨loadsB rfl rfl (Blk.below hk_3 hb_7) 0 ⟨by kernel_rfl, by kernel_rfl⟩, loadsB rfl rfl hk_8 0 ⟨by kernel_rfl, by kernel_rfl⟩, runs_bin rfl rfl (run_eqGuard_agg _ _ _ _ _ _ _ (by kernel_rfl)) (plain_eqB x y _), trivial⟩ ?_
  refine XL_nil ?_
  refine X_ret ?_
  refine RX.ret_ok (P := Tryd.prog) (fn := Tryd.f64) (N := 8) (R := R_) [.bool (decide (x.2 = y.2))] (by kernel_rfl) (hR_ _ _ ?_)
  exact ⟨rfl, (bt hb_2 hb_7)⟩
set_option maxHeartbeats 1000000 in
theorem cmp1_x (w Wb W00 : World) (g2 : Nat) (h2 : g2 < Wb.heap.size) (hW : W00.heap.size ≤ g2) (hWb : W00.heap.size ≤ Wb.heap.size) (hB : Below W00.heap.size W00 w) (nulls : Bool) (g1 : Nat) (hne : g1 ≠ g2) (h1 : g1 < Wb.heap.size) (hb1 : Blk w g1 4 #[.bool nulls]) (x : At) (ax : Addr) (hax : CellsAt w ax (atV x)) (A : Option Addr) (c : Nat) (xs : List At) (hb2 : Blk w g2 22 #[.slice A xs.length c])
    (hr : kAttr.R 55 w Wb.heap.size (OkFrom Wb.heap.size) (.slice A xs.length c) xs) (hle : Wb.heap.size ≤ w.heap.size) (hl : xs.length ≤ 1000000000) :
    Calls Tryd.prog 62 #[.string x.1, .pointer (some ax), .pointer none, .pointer (some ⟨g1, 0, none⟩), .pointer (some ⟨g2, 0, none⟩)] w fun e w' => e = .returned (.tuple #[]) ∧ Blk w' g1 4 #[.bool nulls] ∧ OutSt Wb g2 (xs ++ (cmpF nulls (some x, none)).toList) w' ∧ Below W00.heap.size W00 w' := by
  refine RX.enter Tryd.func62 rfl 25 rfl [(0, .string x.1), (1, .pointer (some ax)), (2, .pointer none), (3, .pointer (some ⟨g1, 0, none⟩)), (4, .pointer (some ⟨g2, 0, none⟩))] rfl (by kernel_rfl) (fun R_ hR_ => ?_)
  refine X_seq ?_
  refine X_seq ?_
  refine X_region ?_
  refine XL_run 2 [] [(1, .pointer (some ax)), (2, .pointer none), (3, .pointer (some ⟨g1, 0, none⟩)), (4, .pointer (some ⟨g2, 0, none⟩)), (9, .bool true)] w [] (by kernel_rfl) trivial ?_
  refine XL_nil ?_
  refine X_cond true rfl ?_
  refine X_region ?_
  refine XL_run 2 [] [(2, .pointer (some ax)), (3, .pointer (some ⟨g1, 0, none⟩)), (4, .pointer (some ⟨g2, 0, none⟩))] w [] (by kernel_rfl) trivial ?_
  refine XL_nil ?_
  refine X_seq ?_
  refine X_region ?_
  refine XL_run 2 [(11, .load (.bool nulls))] [(2, .pointer (some ax)), (4, .pointer (some ⟨g2, 0, none⟩)), (12, .bool nulls)] w [LoadsAs Tryd.prog 4 (⟨g1, 0, none⟩) (.bool nulls) w] (by kernel_rfl) ⟨loads1 rfl (Blk.cell hb1 0 _ rfl), trivial⟩ ?_
  by_cases c_1 : nulls = true
  · rw [show (nulls : Bool) = true from by simpa using c_1]
    refine XL_run 6 [] [(2, .pointer (some ax)), (4, .pointer (some ⟨g2, 0, none⟩)), (18, .bool true)] w [] (by kernel_rfl) trivial ?_
    refine XL_nil ?_
    refine X_cond true rfl ?_
    refine X_grow [5, 6] 7 #[false, false, false, false, false, false, false] (by kernel_rfl) (by kernel_rfl) (by kernel_rfl) (fun wd_2 hb_3 hh_4 => ?_)
    refine XB_run (fuel' := 3) (Below.refl _ _) [0, 1, 2, 3] [(19, .load (.slice A xs.length c)), (22, .load (.agg #[.string x.1, .int .i64 x.2.1, .int .i64 x.2.2.1, .string x.2.2.2]))] [.slice A xs.length c, .pointer (some ax), .pointer (some ax), .agg #[.string x.1, .int .i64 x.2.1, .int .i64 x.2.2.1, .string x.2.2.2]] #[true, true, true, true, false, false, false] [(4, .pointer (some ⟨g2, 0, none⟩)), (19, .slice A xs.length c), (22, .agg #[.string x.1, .int .i64 x.2.1, .int .i64 x.2.2.1, .string x.2.2.2])] (fun w_ => [LoadsAs Tryd.prog 22 (⟨g2, 0, none⟩) (.slice A xs.length c) w_, LoadsAs Tryd.prog 55 ax (.agg #[.string x.1, .int .i64 x.2.1, .int .i64 x.2.2.1, .string x.2.2.2]) w_]) (fun _ _ _ _ h => h) (fun w_ => by kernel_rfl) rfl (fun w_ hC_ => ⟨loads1 rfl (Blk.cell (Blk.below hb2 (bt hb_3 hC_)) 0 _ rfl), loadsE rfl rfl (cells_below hax (bt hb_3 hC_)) 0 ⟨by kernel_rfl, by kernel_rfl⟩, trivial⟩) ?_
    refine XB_mid (fuel' := 2) 4 #[true, true, true, true, true, false, false] _ rfl (by kernel_rfl) (by kernel_rfl) rfl ?_
    refine XL_run 1 [] [(4, .pointer (some ⟨g2, 0, none⟩)), (19, .slice A xs.length c), (23, .slice (some ⟨wd_2.heap.size, 0, none⟩) 1 1)] (wd_2.alloc (.cells #[.string x.1, .int .i64 x.2.1, .int .i64 x.2.2.1, .string x.2.2.2] 55)) [] (by kernel_rfl) trivial ?_
    obtain ⟨w_5, hw_9, hb_6, hk_7, hz_8⟩ := new_world wd_2 #[.string x.1, .int .i64 x.2.1, .int .i64 x.2.2.1, .string x.2.2.2] 55
    rw [hw_9]
    refine XL_nil ?_
    refine ⟨hb_6, ?_⟩
    refine XB_act (fuel' := 1) 5 #[true, true, true, true, true, true, false] _ rfl (by kernel_rfl) rfl (by kernel_rfl) rfl ?_
    rw [← hw_9]
    refine XL_append kAttr rfl rfl rfl Wb.heap.size 55 (.agg #[.string ByteArray.empty, .int .i64 0, .int .i64 0, .string ByteArray.empty]) 48 Tryd.underlying22 info55 rfl (by decide) (by omega) xs (x.1, x.2.1, x.2.2.1, x.2.2.2) [.string x.1, .int .i64 x.2.1, .int .i64 x.2.2.1, .string x.2.2.2] (fun _ => False) (by kernel_rfl) (kAttr_M _ _ _ _) (fun _ h => h.elim) (Kd.R_below hr hb_3) (Nat.le_trans hle hb_3.size) (by first | omega | (simp; omega)) ?_
    intro A_10 c_11 w_12 hr_13 hc_14 hg_15 hl_16 ha_17
    have hk_18 := Blk.own (Blk.below hb1 hb_3) hg_15 hl_16 h1
    have hk_19 := Blk.own (Blk.below hb2 hb_3) hg_15 hl_16 h2
    refine XL_nil ?_
    refine XB_act (fuel' := 0) 6 #[true, true, true, true, true, true, true] _ rfl (by kernel_rfl) rfl (by kernel_rfl) rfl ?_
    refine XL_store (v := .slice A_10 ((xs ++ [(x.1, x.2.1, x.2.2.1, x.2.2.2)]).length) c_11) rfl rfl rfl (by kernel_rfl) hk_19 0 [.slice A_10 ((xs ++ [(x.1, x.2.1, x.2.2.1, x.2.2.2)]).length) c_11] #[.slice A_10 ((xs ++ [(x.1, x.2.1, x.2.2.1, x.2.2.2)]).length) c_11] ⟨by kernel_rfl, rfl, by kernel_rfl⟩ ⟨by kernel_rfl, by kernel_rfl⟩ (Nat.le_of_ble_eq_true (by kernel_rfl)) (fun w_20 hg_21 hk_22 hz_23 => ?_)
    have hk_24 := Blk.other hk_18 hg_21 hne
    have hr_25 := RX.Kd.R_past hr_13 hg_21 h2
    refine XL_nil ?_
    refine XB_done (by kernel_rfl) ?_
    refine RX.end_ok (P := Tryd.prog) (fn := Tryd.f62) (N := 25) (R := R_) [] (by kernel_rfl) (hR_ _ _ ?_)
    have hB_26 : Below W00.heap.size W00 w_20 := (bg (bgo (bt hB hb_3) hg_15 hl_16 hWb) hg_21 hW)
    have hF : cmpF nulls (some x, none) = some ((x.1, x.2.1, x.2.2.1, x.2.2.2)) := by first | (simp_all [cmpF, btwF, trnF, isNull]; done) | (simp_all [cmpF, btwF, trnF, isNull]; rfl)
    rw [hF]; (try simp only [Option.toList_none, Option.toList_some, List.append_nil])
    exact ⟨rfl, hk_24, ⟨_, _, hk_22, hr_25, (Nat.le_trans hle (Nat.le_trans (Nat.le_trans hb_3.size hg_15.size) hg_21.size))⟩, hB_26⟩
  · rw [show (nulls : Bool) = false from by simpa using c_1]
    refine XL_run 3 [(15, .load (.agg #[.string x.1, .int .i64 x.2.1, .int .i64 x.2.2.1, .string x.2.2.2]))] [(2, .pointer (some ax)), (4, .pointer (some ⟨g2, 0, none⟩)), (12, .bool false), (15, .agg #[.string x.1, .int .i64 x.2.1, .int .i64 x.2.2.1, .string x.2.2.2])] w [LoadsAs Tryd.prog 55 ax (.agg #[.string x.1, .int .i64 x.2.1, .int .i64 x.2.2.1, .string x.2.2.2]) w] (by kernel_rfl) ⟨loadsE rfl rfl hax 0 ⟨by kernel_rfl, by kernel_rfl⟩, trivial⟩ ?_
    refine XL_call 38 rfl rfl rfl ent38 [.agg #[.string x.1, .int .i64 x.2.1, .int .i64 x.2.2.1, .string x.2.2.2]] (by kernel_rfl) (null_any x _) ?_
    rintro e w_27 ⟨rfl, hb_28⟩; refine ⟨_, rfl, ?_⟩
    refine XL_run 2 [] [(2, .pointer (some ax)), (4, .pointer (some ⟨g2, 0, none⟩)), (18, .bool (!(decide (x.2.1 = 0))))] w_27 [] (by kernel_rfl) trivial ?_
    refine XL_nil ?_
    by_cases c_29 : !(decide (x.2.1 = 0)) = true
    · rw [show (!(decide (x.2.1 = 0)) : Bool) = true from by simpa using c_29]
      refine X_cond true rfl ?_
      refine X_grow [5, 6] 7 #[false, false, false, false, false, false, false] (by kernel_rfl) (by kernel_rfl) (by kernel_rfl) (fun wd_30 hb_31 hh_32 => ?_)
      refine XB_run (fuel' := 3) (Below.refl _ _) [0, 1, 2, 3] [(19, .load (.slice A xs.length c)), (22, .load (.agg #[.string x.1, .int .i64 x.2.1, .int .i64 x.2.2.1, .string x.2.2.2]))] [.slice A xs.length c, .pointer (some ax), .pointer (some ax), .agg #[.string x.1, .int .i64 x.2.1, .int .i64 x.2.2.1, .string x.2.2.2]] #[true, true, true, true, false, false, false] [(4, .pointer (some ⟨g2, 0, none⟩)), (19, .slice A xs.length c), (22, .agg #[.string x.1, .int .i64 x.2.1, .int .i64 x.2.2.1, .string x.2.2.2])] (fun w_ => [LoadsAs Tryd.prog 22 (⟨g2, 0, none⟩) (.slice A xs.length c) w_, LoadsAs Tryd.prog 55 ax (.agg #[.string x.1, .int .i64 x.2.1, .int .i64 x.2.2.1, .string x.2.2.2]) w_]) (fun _ _ _ _ h => h) (fun w_ => by kernel_rfl) rfl (fun w_ hC_ => ⟨loads1 rfl (Blk.cell (Blk.below hb2 (bt (bt hb_28 hb_31) hC_)) 0 _ rfl), loadsE rfl rfl (cells_below hax (bt (bt hb_28 hb_31) hC_)) 0 ⟨by kernel_rfl, by kernel_rfl⟩, trivial⟩) ?_
      refine XB_mid (fuel' := 2) 4 #[true, true, true, true, true, false, false] _ rfl (by kernel_rfl) (by kernel_rfl) rfl ?_
      refine XL_run 1 [] [(4, .pointer (some ⟨g2, 0, none⟩)), (19, .slice A xs.length c), (23, .slice (some ⟨wd_30.heap.size, 0, none⟩) 1 1)] (wd_30.alloc (.cells #[.string x.1, .int .i64 x.2.1, .int .i64 x.2.2.1, .string x.2.2.2] 55)) [] (by kernel_rfl) trivial ?_
      obtain ⟨w_33, hw_37, hb_34, hk_35, hz_36⟩ := new_world wd_30 #[.string x.1, .int .i64 x.2.1, .int .i64 x.2.2.1, .string x.2.2.2] 55
      rw [hw_37]
      refine XL_nil ?_
      refine ⟨hb_34, ?_⟩
      refine XB_act (fuel' := 1) 5 #[true, true, true, true, true, true, false] _ rfl (by kernel_rfl) rfl (by kernel_rfl) rfl ?_
      rw [← hw_37]
      refine XL_append kAttr rfl rfl rfl Wb.heap.size 55 (.agg #[.string ByteArray.empty, .int .i64 0, .int .i64 0, .string ByteArray.empty]) 48 Tryd.underlying22 info55 rfl (by decide) (by omega) xs (x.1, x.2.1, x.2.2.1, x.2.2.2) [.string x.1, .int .i64 x.2.1, .int .i64 x.2.2.1, .string x.2.2.2] (fun _ => False) (by kernel_rfl) (kAttr_M _ _ _ _) (fun _ h => h.elim) (Kd.R_below hr (bt hb_28 hb_31)) (Nat.le_trans hle (Nat.le_trans hb_28.size hb_31.size)) (by first | omega | (simp; omega)) ?_
      intro A_38 c_39 w_40 hr_41 hc_42 hg_43 hl_44 ha_45
      have hk_46 := Blk.own (Blk.below hb1 (bt hb_28 hb_31)) hg_43 hl_44 h1
      have hk_47 := Blk.own (Blk.below hb2 (bt hb_28 hb_31)) hg_43 hl_44 h2
      refine XL_nil ?_
      refine XB_act (fuel' := 0) 6 #[true, true, true, true, true, true, true] _ rfl (by kernel_rfl) rfl (by kernel_rfl) rfl ?_
      refine XL_store (v := .slice A_38 ((xs ++ [(x.1, x.2.1, x.2.2.1, x.2.2.2)]).length) c_39) rfl rfl rfl (by kernel_rfl) hk_47 0 [.slice A_38 ((xs ++ [(x.1, x.2.1, x.2.2.1, x.2.2.2)]).length) c_39] #[.slice A_38 ((xs ++ [(x.1, x.2.1, x.2.2.1, x.2.2.2)]).length) c_39] ⟨by kernel_rfl, rfl, by kernel_rfl⟩ ⟨by kernel_rfl, by kernel_rfl⟩ (Nat.le_of_ble_eq_true (by kernel_rfl)) (fun w_48 hg_49 hk_50 hz_51 => ?_)
      have hk_52 := Blk.other hk_46 hg_49 hne
      have hr_53 := RX.Kd.R_past hr_41 hg_49 h2
      refine XL_nil ?_
      refine XB_done (by kernel_rfl) ?_
      refine RX.end_ok (P := Tryd.prog) (fn := Tryd.f62) (N := 25) (R := R_) [] (by kernel_rfl) (hR_ _ _ ?_)
      have hB_54 : Below W00.heap.size W00 w_48 := (bg (bgo (bt (bt hB hb_28) hb_31) hg_43 hl_44 hWb) hg_49 hW)
      have hF : cmpF nulls (some x, none) = some ((x.1, x.2.1, x.2.2.1, x.2.2.2)) := by first | (simp_all [cmpF, btwF, trnF, isNull]; done) | (simp_all [cmpF, btwF, trnF, isNull]; rfl)
      rw [hF]; (try simp only [Option.toList_none, Option.toList_some, List.append_nil])
      exact ⟨rfl, hk_52, ⟨_, _, hk_50, hr_53, (Nat.le_trans hle (Nat.le_trans (Nat.le_trans (Nat.le_trans hb_28.size hb_31.size) hg_43.size) hg_49.size))⟩, hB_54⟩
    · rw [show (!(decide (x.2.1 = 0)) : Bool) = false from by simpa using c_29]
      refine X_cond false rfl ?_
      refine X_skip ?_
      refine RX.end_ok (P := Tryd.prog) (fn := Tryd.f62) (N := 25) (R := R_) [] (by kernel_rfl) (hR_ _ _ ?_)
      have hF : cmpF nulls (some x, none) = none := by first | (simp_all [cmpF, btwF, trnF, isNull]; done) | (simp_all [cmpF, btwF, trnF, isNull]; rfl)
      rw [hF]; (try simp only [Option.toList_none, Option.toList_some, List.append_nil])
      exact ⟨rfl, (Blk.below hb1 hb_28), ⟨_, _, (Blk.below hb2 hb_28), (Kd.R_below hr hb_28), (Nat.le_trans hle hb_28.size)⟩, (bt hB hb_28)⟩
set_option maxHeartbeats 1000000 in
theorem cmp1_y (w Wb W00 : World) (g2 : Nat) (h2 : g2 < Wb.heap.size) (hW : W00.heap.size ≤ g2) (hWb : W00.heap.size ≤ Wb.heap.size) (hB : Below W00.heap.size W00 w) (nulls : Bool) (g1 : Nat) (hne : g1 ≠ g2) (h1 : g1 < Wb.heap.size) (hb1 : Blk w g1 4 #[.bool nulls]) (y : At) (ay : Addr) (hay : CellsAt w ay (atV y)) (A : Option Addr) (c : Nat) (xs : List At) (hb2 : Blk w g2 22 #[.slice A xs.length c])
    (hr : kAttr.R 55 w Wb.heap.size (OkFrom Wb.heap.size) (.slice A xs.length c) xs) (hle : Wb.heap.size ≤ w.heap.size) (hl : xs.length ≤ 1000000000) :
    Calls Tryd.prog 62 #[.string y.1, .pointer none, .pointer (some ay), .pointer (some ⟨g1, 0, none⟩), .pointer (some ⟨g2, 0, none⟩)] w fun e w' => e = .returned (.tuple #[]) ∧ Blk w' g1 4 #[.bool nulls] ∧ OutSt Wb g2 (xs ++ (cmpF nulls (none, some y)).toList) w' ∧ Below W00.heap.size W00 w' := by
  refine RX.enter Tryd.func62 rfl 25 rfl [(0, .string y.1), (1, .pointer none), (2, .pointer (some ay)), (3, .pointer (some ⟨g1, 0, none⟩)), (4, .pointer (some ⟨g2, 0, none⟩))] rfl (by kernel_rfl) (fun R_ hR_ => ?_)
  refine X_seq ?_
  refine X_seq ?_
  refine X_region ?_
  refine XL_run 2 [] [(1, .pointer none), (2, .pointer (some ay)), (3, .pointer (some ⟨g1, 0, none⟩)), (4, .pointer (some ⟨g2, 0, none⟩)), (9, .bool false)] w [] (by kernel_rfl) trivial ?_
  refine XL_nil ?_
  refine X_cond false rfl ?_
  refine X_skip ?_
  refine X_seq ?_
  refine X_region ?_
  refine XL_run 2 [(11, .load (.bool nulls))] [(2, .pointer (some ay)), (4, .pointer (some ⟨g2, 0, none⟩)), (12, .bool nulls)] w [LoadsAs Tryd.prog 4 (⟨g1, 0, none⟩) (.bool nulls) w] (by kernel_rfl) ⟨loads1 rfl (Blk.cell hb1 0 _ rfl), trivial⟩ ?_
  by_cases c_1 : nulls = true
  · rw [show (nulls : Bool) = true from by simpa using c_1]
    refine XL_run 6 [] [(2, .pointer (some ay)), (4, .pointer (some ⟨g2, 0, none⟩)), (18, .bool true)] w [] (by kernel_rfl) trivial ?_
    refine XL_nil ?_
    refine X_cond true rfl ?_
    refine X_grow [5, 6] 7 #[false, false, false, false, false, false, false] (by kernel_rfl) (by kernel_rfl) (by kernel_rfl) (fun wd_2 hb_3 hh_4 => ?_)
    refine XB_run (fuel' := 3) (Below.refl _ _) [0, 1, 2, 3] [(19, .load (.slice A xs.length c)), (22, .load (.agg #[.string y.1, .int .i64 y.2.1, .int .i64 y.2.2.1, .string y.2.2.2]))] [.slice A xs.length c, .pointer (some ay), .pointer (some ay), .agg #[.string y.1, .int .i64 y.2.1, .int .i64 y.2.2.1, .string y.2.2.2]] #[true, true, true, true, false, false, false] [(4, .pointer (some ⟨g2, 0, none⟩)), (19, .slice A xs.length c), (22, .agg #[.string y.1, .int .i64 y.2.1, .int .i64 y.2.2.1, .string y.2.2.2])] (fun w_ => [LoadsAs Tryd.prog 22 (⟨g2, 0, none⟩) (.slice A xs.length c) w_, LoadsAs Tryd.prog 55 ay (.agg #[.string y.1, .int .i64 y.2.1, .int .i64 y.2.2.1, .string y.2.2.2]) w_]) (fun _ _ _ _ h => h) (fun w_ => by kernel_rfl) rfl (fun w_ hC_ => ⟨loads1 rfl (Blk.cell (Blk.below hb2 (bt hb_3 hC_)) 0 _ rfl), loadsE rfl rfl (cells_below hay (bt hb_3 hC_)) 0 ⟨by kernel_rfl, by kernel_rfl⟩, trivial⟩) ?_
    refine XB_mid (fuel' := 2) 4 #[true, true, true, true, true, false, false] _ rfl (by kernel_rfl) (by kernel_rfl) rfl ?_
    refine XL_run 1 [] [(4, .pointer (some ⟨g2, 0, none⟩)), (19, .slice A xs.length c), (23, .slice (some ⟨wd_2.heap.size, 0, none⟩) 1 1)] (wd_2.alloc (.cells #[.string y.1, .int .i64 y.2.1, .int .i64 y.2.2.1, .string y.2.2.2] 55)) [] (by kernel_rfl) trivial ?_
    obtain ⟨w_5, hw_9, hb_6, hk_7, hz_8⟩ := new_world wd_2 #[.string y.1, .int .i64 y.2.1, .int .i64 y.2.2.1, .string y.2.2.2] 55
    rw [hw_9]
    refine XL_nil ?_
    refine ⟨hb_6, ?_⟩
    refine XB_act (fuel' := 1) 5 #[true, true, true, true, true, true, false] _ rfl (by kernel_rfl) rfl (by kernel_rfl) rfl ?_
    rw [← hw_9]
    refine XL_append kAttr rfl rfl rfl Wb.heap.size 55 (.agg #[.string ByteArray.empty, .int .i64 0, .int .i64 0, .string ByteArray.empty]) 48 Tryd.underlying22 info55 rfl (by decide) (by omega) xs (y.1, y.2.1, y.2.2.1, y.2.2.2) [.string y.1, .int .i64 y.2.1, .int .i64 y.2.2.1, .string y.2.2.2] (fun _ => False) (by kernel_rfl) (kAttr_M _ _ _ _) (fun _ h => h.elim) (Kd.R_below hr hb_3) (Nat.le_trans hle hb_3.size) (by first | omega | (simp; omega)) ?_
    intro A_10 c_11 w_12 hr_13 hc_14 hg_15 hl_16 ha_17
    have hk_18 := Blk.own (Blk.below hb1 hb_3) hg_15 hl_16 h1
    have hk_19 := Blk.own (Blk.below hb2 hb_3) hg_15 hl_16 h2
    refine XL_nil ?_
    refine XB_act (fuel' := 0) 6 #[true, true, true, true, true, true, true] _ rfl (by kernel_rfl) rfl (by kernel_rfl) rfl ?_
    refine XL_store (v := .slice A_10 ((xs ++ [(y.1, y.2.1, y.2.2.1, y.2.2.2)]).length) c_11) rfl rfl rfl (by kernel_rfl) hk_19 0 [.slice A_10 ((xs ++ [(y.1, y.2.1, y.2.2.1, y.2.2.2)]).length) c_11] #[.slice A_10 ((xs ++ [(y.1, y.2.1, y.2.2.1, y.2.2.2)]).length) c_11] ⟨by kernel_rfl, rfl, by kernel_rfl⟩ ⟨by kernel_rfl, by kernel_rfl⟩ (Nat.le_of_ble_eq_true (by kernel_rfl)) (fun w_20 hg_21 hk_22 hz_23 => ?_)
    have hk_24 := Blk.other hk_18 hg_21 hne
    have hr_25 := RX.Kd.R_past hr_13 hg_21 h2
    refine XL_nil ?_
    refine XB_done (by kernel_rfl) ?_
    refine RX.end_ok (P := Tryd.prog) (fn := Tryd.f62) (N := 25) (R := R_) [] (by kernel_rfl) (hR_ _ _ ?_)
    have hB_26 : Below W00.heap.size W00 w_20 := (bg (bgo (bt hB hb_3) hg_15 hl_16 hWb) hg_21 hW)
    have hF : cmpF nulls (none, some y) = some ((y.1, y.2.1, y.2.2.1, y.2.2.2)) := by first | (simp_all [cmpF, btwF, trnF, isNull]; done) | (simp_all [cmpF, btwF, trnF, isNull]; rfl)
    rw [hF]; (try simp only [Option.toList_none, Option.toList_some, List.append_nil])
    exact ⟨rfl, hk_24, ⟨_, _, hk_22, hr_25, (Nat.le_trans hle (Nat.le_trans (Nat.le_trans hb_3.size hg_15.size) hg_21.size))⟩, hB_26⟩
  · rw [show (nulls : Bool) = false from by simpa using c_1]
    refine XL_run 3 [(15, .load (.agg #[.string y.1, .int .i64 y.2.1, .int .i64 y.2.2.1, .string y.2.2.2]))] [(2, .pointer (some ay)), (4, .pointer (some ⟨g2, 0, none⟩)), (12, .bool false), (15, .agg #[.string y.1, .int .i64 y.2.1, .int .i64 y.2.2.1, .string y.2.2.2])] w [LoadsAs Tryd.prog 55 ay (.agg #[.string y.1, .int .i64 y.2.1, .int .i64 y.2.2.1, .string y.2.2.2]) w] (by kernel_rfl) ⟨loadsE rfl rfl hay 0 ⟨by kernel_rfl, by kernel_rfl⟩, trivial⟩ ?_
    refine XL_call 38 rfl rfl rfl ent38 [.agg #[.string y.1, .int .i64 y.2.1, .int .i64 y.2.2.1, .string y.2.2.2]] (by kernel_rfl) (null_any y _) ?_
    rintro e w_27 ⟨rfl, hb_28⟩; refine ⟨_, rfl, ?_⟩
    refine XL_run 2 [] [(2, .pointer (some ay)), (4, .pointer (some ⟨g2, 0, none⟩)), (18, .bool (!(decide (y.2.1 = 0))))] w_27 [] (by kernel_rfl) trivial ?_
    refine XL_nil ?_
    by_cases c_29 : !(decide (y.2.1 = 0)) = true
    · rw [show (!(decide (y.2.1 = 0)) : Bool) = true from by simpa using c_29]
      refine X_cond true rfl ?_
      refine X_grow [5, 6] 7 #[false, false, false, false, false, false, false] (by kernel_rfl) (by kernel_rfl) (by kernel_rfl) (fun wd_30 hb_31 hh_32 => ?_)
      refine XB_run (fuel' := 3) (Below.refl _ _) [0, 1, 2, 3] [(19, .load (.slice A xs.length c)), (22, .load (.agg #[.string y.1, .int .i64 y.2.1, .int .i64 y.2.2.1, .string y.2.2.2]))] [.slice A xs.length c, .pointer (some ay), .pointer (some ay), .agg #[.string y.1, .int .i64 y.2.1, .int .i64 y.2.2.1, .string y.2.2.2]] #[true, true, true, true, false, false, false] [(4, .pointer (some ⟨g2, 0, none⟩)), (19, .slice A xs.length c), (22, .agg #[.string y.1, .int .i64 y.2.1, .int .i64 y.2.2.1, .string y.2.2.2])] (fun w_ => [LoadsAs Tryd.prog 22 (⟨g2, 0, none⟩) (.slice A xs.length c) w_, LoadsAs Tryd.prog 55 ay (.agg #[.string y.1, .int .i64 y.2.1, .int .i64 y.2.2.1, .string y.2.2.2]) w_]) (fun _ _ _ _ h => h) (fun w_ => by kernel_rfl) rfl (fun w_ hC_ => ⟨loads1 rfl (Blk.cell (Blk.below hb2 (bt (bt hb_28 hb_31) hC_)) 0 _ rfl), loadsE rfl rfl (cells_below hay (bt (bt hb_28 hb_31) hC_)) 0 ⟨by kernel_rfl, by kernel_rfl⟩, trivial⟩) ?_
      refine XB_mid (fuel' := 2) 4 #[true, true, true, true, true, false, false] _ rfl (by kernel_rfl) (by kernel_rfl) rfl ?_
      refine XL_run 1 [] [(4, .pointer (some ⟨g2, 0, none⟩)), (19, .slice A xs.length c), (23, .slice (some ⟨wd_30.heap.size, 0, none⟩) 1 1)] (wd_30.alloc (.cells #[.string y.1, .int .i64 y.2.1, .int .i64 y.2.2.1, .string y.2.2.2] 55)) [] (by kernel_rfl) trivial ?_
      obtain ⟨w_33, hw_37, hb_34, hk_35, hz_36⟩ := new_world wd_30 #[.string y.1, .int .i64 y.2.1, .int .i64 y.2.2.1, .string y.2.2.2] 55
      rw [hw_37]
      refine XL_nil ?_
      refine ⟨hb_34, ?_⟩
      refine XB_act (fuel' := 1) 5 #[true, true, true, true, true, true, false] _ rfl (by kernel_rfl) rfl (by kernel_rfl) rfl ?_
      rw [← hw_37]
      refine XL_append kAttr rfl rfl rfl Wb.heap.size 55 (.agg #[.string ByteArray.empty, .int .i64 0, .int .i64 0, .string ByteArray.empty]) 48 Tryd.underlying22 info55 rfl (by decide) (by omega) xs (y.1, y.2.1, y.2.2.1, y.2.2.2) [.string y.1, .int .i64 y.2.1, .int .i64 y.2.2.1, .string y.2.2.2] (fun _ => False) (by kernel_rfl) (kAttr_M _ _ _ _) (fun _ h => h.elim) (Kd.R_below hr (bt hb_28 hb_31)) (Nat.le_trans hle (Nat.le_trans hb_28.size hb_31.size)) (by first | omega | (simp; omega)) ?_
      intro A_38 c_39 w_40 hr_41 hc_42 hg_43 hl_44 ha_45
      have hk_46 := Blk.own (Blk.below hb1 (bt hb_28 hb_31)) hg_43 hl_44 h1
      have hk_47 := Blk.own (Blk.below hb2 (bt hb_28 hb_31)) hg_43 hl_44 h2
      refine XL_nil ?_
      refine XB_act (fuel' := 0) 6 #[true, true, true, true, true, true, true] _ rfl (by kernel_rfl) rfl (by kernel_rfl) rfl ?_
      refine XL_store (v := .slice A_38 ((xs ++ [(y.1, y.2.1, y.2.2.1, y.2.2.2)]).length) c_39) rfl rfl rfl (by kernel_rfl) hk_47 0 [.slice A_38 ((xs ++ [(y.1, y.2.1, y.2.2.1, y.2.2.2)]).length) c_39] #[.slice A_38 ((xs ++ [(y.1, y.2.1, y.2.2.1, y.2.2.2)]).length) c_39] ⟨by kernel_rfl, rfl, by kernel_rfl⟩ ⟨by kernel_rfl, by kernel_rfl⟩ (Nat.le_of_ble_eq_true (by kernel_rfl)) (fun w_48 hg_49 hk_50 hz_51 => ?_)
      have hk_52 := Blk.other hk_46 hg_49 hne
      have hr_53 := RX.Kd.R_past hr_41 hg_49 h2
      refine XL_nil ?_
      refine XB_done (by kernel_rfl) ?_
      refine RX.end_ok (P := Tryd.prog) (fn := Tryd.f62) (N := 25) (R := R_) [] (by kernel_rfl) (hR_ _ _ ?_)
      have hB_54 : Below W00.heap.size W00 w_48 := (bg (bgo (bt (bt hB hb_28) hb_31) hg_43 hl_44 hWb) hg_49 hW)
      have hF : cmpF nulls (none, some y) = some ((y.1, y.2.1, y.2.2.1, y.2.2.2)) := by first | (simp_all [cmpF, btwF, trnF, isNull]; done) | (simp_all [cmpF, btwF, trnF, isNull]; rfl)
      rw [hF]; (try simp only [Option.toList_none, Option.toList_some, List.append_nil])
      exact ⟨rfl, hk_52, ⟨_, _, hk_50, hr_53, (Nat.le_trans hle (Nat.le_trans (Nat.le_trans (Nat.le_trans hb_28.size hb_31.size) hg_43.size) hg_49.size))⟩, hB_54⟩
    · rw [show (!(decide (y.2.1 = 0)) : Bool) = false from by simpa using c_29]
      refine X_cond false rfl ?_
      refine X_skip ?_
      refine RX.end_ok (P := Tryd.prog) (fn := Tryd.f62) (N := 25) (R := R_) [] (by kernel_rfl) (hR_ _ _ ?_)
      have hF : cmpF nulls (none, some y) = none := by first | (simp_all [cmpF, btwF, trnF, isNull]; done) | (simp_all [cmpF, btwF, trnF, isNull]; rfl)
      rw [hF]; (try simp only [Option.toList_none, Option.toList_some, List.append_nil])
      exact ⟨rfl, (Blk.below hb1 hb_28), ⟨_, _, (Blk.below hb2 hb_28), (Kd.R_below hr hb_28), (Nat.le_trans hle hb_28.size)⟩, (bt hB hb_28)⟩
set_option maxHeartbeats 1000000 in
theorem cmp1_xy (w Wb W00 : World) (g2 : Nat) (h2 : g2 < Wb.heap.size) (hW : W00.heap.size ≤ g2) (hWb : W00.heap.size ≤ Wb.heap.size) (hB : Below W00.heap.size W00 w) (nulls : Bool) (g1 : Nat) (hne : g1 ≠ g2) (h1 : g1 < Wb.heap.size) (hb1 : Blk w g1 4 #[.bool nulls]) (x : At) (ax : Addr) (hax : CellsAt w ax (atV x)) (y : At) (ay : Addr) (hay : CellsAt w ay (atV y)) (A : Option Addr) (c : Nat) (xs : List At) (hb2 : Blk w g2 22 #[.slice A xs.length c])
    (hr : kAttr.R 55 w Wb.heap.size (OkFrom Wb.heap.size) (.slice A xs.length c) xs) (hle : Wb.heap.size ≤ w.heap.size) (hl : xs.length ≤ 1000000000) :
    Calls Tryd.prog 62 #[.string x.1, .pointer (some ax), .pointer (some ay), .pointer (some ⟨g1, 0, none⟩), .pointer (some ⟨g2, 0, none⟩)] w fun e w' => e = .returned (.tuple #[]) ∧ Blk w' g1 4 #[.bool nulls] ∧ OutSt Wb g2 (xs ++ (cmpF nulls (some x, some y)).toList) w' ∧ Below W00.heap.size W00 w' := by
  refine RX.enter Tryd.func62 rfl 25 rfl [(0, .string x.1), (1, .pointer (some ax)), (2, .pointer (some ay)), (3, .pointer (some ⟨g1, 0, none⟩)), (4, .pointer (some ⟨g2, 0, none⟩))] rfl (by kernel_rfl) (fun R_ hR_ => ?_)
  refine X_seq ?_
  refine X_seq ?_
  refine X_region ?_
  refine XL_run 2 [] [(1, .pointer (some ax)), (2, .pointer (some ay)), (3, .pointer (some ⟨g1, 0, none⟩)), (4, .pointer (some ⟨g2, 0, none⟩)), (9, .bool false)] w [] (by kernel_rfl) trivial ?_
  refine XL_nil ?_
  refine X_cond false rfl ?_
  refine X_skip ?_
  refine X_seq ?_
  refine X_region ?_
  refine XL_run 2 [(11, .load (.bool nulls))] [(2, .pointer (some ay)), (4, .pointer (some ⟨g2, 0, none⟩)), (12, .bool nulls)] w [LoadsAs Tryd.prog 4 (⟨g1, 0, none⟩) (.bool nulls) w] (by kernel_rfl) ⟨loads1 rfl (Blk.cell hb1 0 _ rfl), trivial⟩ ?_
  by_cases c_1 : nulls = true
  · rw [show (nulls : Bool) = true from by simpa using c_1]
    refine XL_run 6 [] [(2, .pointer (some ay)), (4, .pointer (some ⟨g2, 0, none⟩)), (18, .bool true)] w [] (by kernel_rfl) trivial ?_
    refine XL_nil ?_
    refine X_cond true rfl ?_
    refine X_grow [5, 6] 7 #[false, false, false, false, false, false, false] (by kernel_rfl) (by kernel_rfl) (by kernel_rfl) (fun wd_2 hb_3 hh_4 => ?_)
    refine XB_run (fuel' := 3) (Below.refl _ _) [0, 1, 2, 3] [(19, .load (.slice A xs.length c)), (22, .load (.agg #[.string y.1, .int .i64 y.2.1, .int .i64 y.2.2.1, .string y.2.2.2]))] [.slice A xs.length c, .pointer (some ay), .pointer (some ay), .agg #[.string y.1, .int .i64 y.2.1, .int .i64 y.2.2.1, .string y.2.2.2]] #[true, true, true, true, false, false, false] [(4, .pointer (some ⟨g2, 0, none⟩)), (19, .slice A xs.length c), (22, .agg #[.string y.1, .int .i64 y.2.1, .int .i64 y.2.2.1, .string y.2.2.2])] (fun w_ => [LoadsAs Tryd.prog 22 (⟨g2, 0, none⟩) (.slice A xs.length c) w_, LoadsAs Tryd.prog 55 ay (.agg #[.string y.1, .int .i64 y.2.1, .int .i64 y.2.2.1, .string y.2.2.2]) w_]) (fun _ _ _ _ h => h) (fun w_ => by kernel_rfl) rfl (fun w_ hC_ => ⟨loads1 rfl (Blk.cell (Blk.below hb2 (bt hb_3 hC_)) 0 _ rfl), loadsE rfl rfl (cells_below hay (bt hb_3 hC_)) 0 ⟨by kernel_rfl, by kernel_rfl⟩, trivial⟩) ?_
    refine XB_mid (fuel' := 2) 4 #[true, true, true, true, true, false, false] _ rfl (by kernel_rfl) (by kernel_rfl) rfl ?_
    refine XL_run 1 [] [(4, .pointer (some ⟨g2, 0, none⟩)), (19, .slice A xs.length c), (23, .slice (some ⟨wd_2.heap.size, 0, none⟩) 1 1)] (wd_2.alloc (.cells #[.string y.1, .int .i64 y.2.1, .int .i64 y.2.2.1, .string y.2.2.2] 55)) [] (by kernel_rfl) trivial ?_
    obtain ⟨w_5, hw_9, hb_6, hk_7, hz_8⟩ := new_world wd_2 #[.string y.1, .int .i64 y.2.1, .int .i64 y.2.2.1, .string y.2.2.2] 55
    rw [hw_9]
    refine XL_nil ?_
    refine ⟨hb_6, ?_⟩
    refine XB_act (fuel' := 1) 5 #[true, true, true, true, true, true, false] _ rfl (by kernel_rfl) rfl (by kernel_rfl) rfl ?_
    rw [← hw_9]
    refine XL_append kAttr rfl rfl rfl Wb.heap.size 55 (.agg #[.string ByteArray.empty, .int .i64 0, .int .i64 0, .string ByteArray.empty]) 48 Tryd.underlying22 info55 rfl (by decide) (by omega) xs (y.1, y.2.1, y.2.2.1, y.2.2.2) [.string y.1, .int .i64 y.2.1, .int .i64 y.2.2.1, .string y.2.2.2] (fun _ => False) (by kernel_rfl) (kAttr_M _ _ _ _) (fun _ h => h.elim) (Kd.R_below hr hb_3) (Nat.le_trans hle hb_3.size) (by first | omega | (simp; omega)) ?_
    intro A_10 c_11 w_12 hr_13 hc_14 hg_15 hl_16 ha_17
    have hk_18 := Blk.own (Blk.below hb1 hb_3) hg_15 hl_16 h1
    have hk_19 := Blk.own (Blk.below hb2 hb_3) hg_15 hl_16 h2
    refine XL_nil ?_
    refine XB_act (fuel' := 0) 6 #[true, true, true, true, true, true, true] _ rfl (by kernel_rfl) rfl (by kernel_rfl) rfl ?_
    refine XL_store (v := .slice A_10 ((xs ++ [(y.1, y.2.1, y.2.2.1, y.2.2.2)]).length) c_11) rfl rfl rfl (by kernel_rfl) hk_19 0 [.slice A_10 ((xs ++ [(y.1, y.2.1, y.2.2.1, y.2.2.2)]).length) c_11] #[.slice A_10 ((xs ++ [(y.1, y.2.1, y.2.2.1, y.2.2.2)]).length) c_11] ⟨by kernel_rfl, rfl, by kernel_rfl⟩ ⟨by kernel_rfl, by kernel_rfl⟩ (Nat.le_of_ble_eq_true (by kernel_rfl)) (fun w_20 hg_21 hk_22 hz_23 => ?_)
    have hk_24 := Blk.other hk_18 hg_21 hne
    have hr_25 := RX.Kd.R_past hr_13 hg_21 h2
    refine XL_nil ?_
    refine XB_done (by kernel_rfl) ?_
    refine RX.end_ok (P := Tryd.prog) (fn := Tryd.f62) (N := 25) (R := R_) [] (by kernel_rfl) (hR_ _ _ ?_)
    have hB_26 : Below W00.heap.size W00 w_20 := (bg (bgo (bt hB hb_3) hg_15 hl_16 hWb) hg_21 hW)
    have hF : cmpF nulls (some x, some y) = some ((y.1, y.2.1, y.2.2.1, y.2.2.2)) := by first | (simp_all [cmpF, btwF, trnF, isNull]; done) | (simp_all [cmpF, btwF, trnF, isNull]; rfl)
    rw [hF]; (try simp only [Option.toList_none, Option.toList_some, List.append_nil])
    exact ⟨rfl, hk_24, ⟨_, _, hk_22, hr_25, (Nat.le_trans hle (Nat.le_trans (Nat.le_trans hb_3.size hg_15.size) hg_21.size))⟩, hB_26⟩
  · rw [show (nulls : Bool) = false from by simpa using c_1]
    refine XL_run 3 [(15, .load (.agg #[.string y.1, .int .i64 y.2.1, .int .i64 y.2.2.1, .string y.2.2.2]))] [(2, .pointer (some ay)), (4, .pointer (some ⟨g2, 0, none⟩)), (12, .bool false), (15, .agg #[.string y.1, .int .i64 y.2.1, .int .i64 y.2.2.1, .string y.2.2.2])] w [LoadsAs Tryd.prog 55 ay (.agg #[.string y.1, .int .i64 y.2.1, .int .i64 y.2.2.1, .string y.2.2.2]) w] (by kernel_rfl) ⟨loadsE rfl rfl hay 0 ⟨by kernel_rfl, by kernel_rfl⟩, trivial⟩ ?_
    refine XL_call 38 rfl rfl rfl ent38 [.agg #[.string y.1, .int .i64 y.2.1, .int .i64 y.2.2.1, .string y.2.2.2]] (by kernel_rfl) (null_any y _) ?_
    rintro e w_27 ⟨rfl, hb_28⟩; refine ⟨_, rfl, ?_⟩
    refine XL_run 2 [] [(2, .pointer (some ay)), (4, .pointer (some ⟨g2, 0, none⟩)), (18, .bool (!(decide (y.2.1 = 0))))] w_27 [] (by kernel_rfl) trivial ?_
    refine XL_nil ?_
    by_cases c_29 : !(decide (y.2.1 = 0)) = true
    · rw [show (!(decide (y.2.1 = 0)) : Bool) = true from by simpa using c_29]
      refine X_cond true rfl ?_
      refine X_grow [5, 6] 7 #[false, false, false, false, false, false, false] (by kernel_rfl) (by kernel_rfl) (by kernel_rfl) (fun wd_30 hb_31 hh_32 => ?_)
      refine XB_run (fuel' := 3) (Below.refl _ _) [0, 1, 2, 3] [(19, .load (.slice A xs.length c)), (22, .load (.agg #[.string y.1, .int .i64 y.2.1, .int .i64 y.2.2.1, .string y.2.2.2]))] [.slice A xs.length c, .pointer (some ay), .pointer (some ay), .agg #[.string y.1, .int .i64 y.2.1, .int .i64 y.2.2.1, .string y.2.2.2]] #[true, true, true, true, false, false, false] [(4, .pointer (some ⟨g2, 0, none⟩)), (19, .slice A xs.length c), (22, .agg #[.string y.1, .int .i64 y.2.1, .int .i64 y.2.2.1, .string y.2.2.2])] (fun w_ => [LoadsAs Tryd.prog 22 (⟨g2, 0, none⟩) (.slice A xs.length c) w_, LoadsAs Tryd.prog 55 ay (.agg #[.string y.1, .int .i64 y.2.1, .int .i64 y.2.2.1, .string y.2.2.2]) w_]) (fun _ _ _ _ h => h) (fun w_ => by kernel_rfl) rfl (fun w_ hC_ => ⟨loads1 rfl (Blk.cell (Blk.below hb2 (bt (bt hb_28 hb_31) hC_)) 0 _ rfl), loadsE rfl rfl (cells_below hay (bt (bt hb_28 hb_31) hC_)) 0 ⟨by kernel_rfl, by kernel_rfl⟩, trivial⟩) ?_
      refine XB_mid (fuel' := 2) 4 #[true, true, true, true, true, false, false] _ rfl (by kernel_rfl) (by kernel_rfl) rfl ?_
      refine XL_run 1 [] [(4, .pointer (some ⟨g2, 0, none⟩)), (19, .slice A xs.length c), (23, .slice (some ⟨wd_30.heap.size, 0, none⟩) 1 1)] (wd_30.alloc (.cells #[.string y.1, .int .i64 y.2.1, .int .i64 y.2.2.1, .string y.2.2.2] 55)) [] (by kernel_rfl) trivial ?_
      obtain ⟨w_33, hw_37, hb_34, hk_35, hz_36⟩ := new_world wd_30 #[.string y.1, .int .i64 y.2.1, .int .i64 y.2.2.1, .string y.2.2.2] 55
      rw [hw_37]
      refine XL_nil ?_
      refine ⟨hb_34, ?_⟩
      refine XB_act (fuel' := 1) 5 #[true, true, true, true, true, true, false] _ rfl (by kernel_rfl) rfl (by kernel_rfl) rfl ?_
      rw [← hw_37]
      refine XL_append kAttr rfl rfl rfl Wb.heap.size 55 (.agg #[.string ByteArray.empty, .int .i64 0, .int .i64 0, .string ByteArray.empty]) 48 Tryd.underlying22 info55 rfl (by decide) (by omega) xs (y.1, y.2.1, y.2.2.1, y.2.2.2) [.string y.1, .int .i64 y.2.1, .int .i64 y.2.2.1, .string y.2.2.2] (fun _ => False) (by kernel_rfl) (kAttr_M _ _ _ _) (fun _ h => h.elim) (Kd.R_below hr (bt hb_28 hb_31)) (Nat.le_trans hle (Nat.le_trans hb_28.size hb_31.size)) (by first | omega | (simp; omega)) ?_
      intro A_38 c_39 w_40 hr_41 hc_42 hg_43 hl_44 ha_45
      have hk_46 := Blk.own (Blk.below hb1 (bt hb_28 hb_31)) hg_43 hl_44 h1
      have hk_47 := Blk.own (Blk.below hb2 (bt hb_28 hb_31)) hg_43 hl_44 h2
      refine XL_nil ?_
      refine XB_act (fuel' := 0) 6 #[true, true, true, true, true, true, true] _ rfl (by kernel_rfl) rfl (by kernel_rfl) rfl ?_
      refine XL_store (v := .slice A_38 ((xs ++ [(y.1, y.2.1, y.2.2.1, y.2.2.2)]).length) c_39) rfl rfl rfl (by kernel_rfl) hk_47 0 [.slice A_38 ((xs ++ [(y.1, y.2.1, y.2.2.1, y.2.2.2)]).length) c_39] #[.slice A_38 ((xs ++ [(y.1, y.2.1, y.2.2.1, y.2.2.2)]).length) c_39] ⟨by kernel_rfl, rfl, by kernel_rfl⟩ ⟨by kernel_rfl, by kernel_rfl⟩ (Nat.le_of_ble_eq_true (by kernel_rfl)) (fun w_48 hg_49 hk_50 hz_51 => ?_)
      have hk_52 := Blk.other hk_46 hg_49 hne
      have hr_53 := RX.Kd.R_past hr_41 hg_49 h2
      refine XL_nil ?_
      refine XB_done (by kernel_rfl) ?_
      refine RX.end_ok (P := Tryd.prog) (fn := Tryd.f62) (N := 25) (R := R_) [] (by kernel_rfl) (hR_ _ _ ?_)
      have hB_54 : Below W00.heap.size W00 w_48 := (bg (bgo (bt (bt hB hb_28) hb_31) hg_43 hl_44 hWb) hg_49 hW)
      have hF : cmpF nulls (some x, some y) = some ((y.1, y.2.1, y.2.2.1, y.2.2.2)) := by first | (simp_all [cmpF, btwF, trnF, isNull]; done) | (simp_all [cmpF, btwF, trnF, isNull]; rfl)
      rw [hF]; (try simp only [Option.toList_none, Option.toList_some, List.append_nil])
      exact ⟨rfl, hk_52, ⟨_, _, hk_50, hr_53, (Nat.le_trans hle (Nat.le_trans (Nat.le_trans (Nat.le_trans hb_28.size hb_31.size) hg_43.size) hg_49.size))⟩, hB_54⟩
    · rw [show (!(decide (y.2.1 = 0)) : Bool) = false from by simpa using c_29]
      refine X_cond false rfl ?_
      refine X_skip ?_
      refine RX.end_ok (P := Tryd.prog) (fn := Tryd.f62) (N := 25) (R := R_) [] (by kernel_rfl) (hR_ _ _ ?_)
      have hF : cmpF nulls (some x, some y) = none := by first | (simp_all [cmpF, btwF, trnF, isNull]; done) | (simp_all [cmpF, btwF, trnF, isNull]; rfl)
      rw [hF]; (try simp only [Option.toList_none, Option.toList_some, List.append_nil])
      exact ⟨rfl, (Blk.below hb1 hb_28), ⟨_, _, (Blk.below hb2 hb_28), (Kd.R_below hr hb_28), (Nat.le_trans hle hb_28.size)⟩, (bt hB hb_28)⟩
set_option maxHeartbeats 1000000 in
theorem btw1_x (w Wb W00 : World) (g2 : Nat) (h2 : g2 < Wb.heap.size) (hW : W00.heap.size ≤ g2) (hWb : W00.heap.size ≤ Wb.heap.size) (hB : Below W00.heap.size W00 w) (x : At) (ax : Addr) (hax : CellsAt w ax (atV x)) (A : Option Addr) (c : Nat) (xs : List At) (hb2 : Blk w g2 22 #[.slice A xs.length c])
    (hr : kAttr.R 55 w Wb.heap.size (OkFrom Wb.heap.size) (.slice A xs.length c) xs) (hle : Wb.heap.size ≤ w.heap.size) (hl : xs.length ≤ 1000000000) :
    Calls Tryd.prog 63 #[.string x.1, .pointer (some ax), .pointer none, .pointer (some ⟨g2, 0, none⟩)] w fun e w' => e = .returned (.tuple #[]) ∧ OutSt Wb g2 (xs ++ (btwF (some x, none)).toList) w' ∧ Below W00.heap.size W00 w' := by
  refine RX.enter Tryd.func63 rfl 36 rfl [(0, .string x.1), (1, .pointer (some ax)), (2, .pointer none), (3, .pointer (some ⟨g2, 0, none⟩))] rfl (by kernel_rfl) (fun R_ hR_ => ?_)
  refine X_block ?_
  refine X_seq ?_
  refine X_region ?_
  refine XL_run 3 [] [(0, .string x.1), (1, .pointer (some ax)), (2, .pointer none), (3, .pointer (some ⟨g2, 0, none⟩)), (7, .bool true)] w [] (by kernel_rfl) trivial ?_
  refine XL_nil ?_
  refine X_cond true rfl ?_
  refine X_region ?_
  refine XL_run 4 [(10, .load (.slice A xs.length c))] [(3, .pointer (some ⟨g2, 0, none⟩)), (10, .slice A xs.length c), (13, .slice (some ⟨w.heap.size, 0, none⟩) 1 1)] (w.alloc (.cells #[.string x.1, .int .i64 0, .int .i64 0, .string ByteArray.empty] 55)) [LoadsAs Tryd.prog 22 (⟨g2, 0, none⟩) (.slice A xs.length c) w] (by kernel_rfl) ⟨loads1 rfl (Blk.cell hb2 0 _ rfl), trivial⟩ ?_
  obtain ⟨w_1, hw_5, hb_2, hk_3, hz_4⟩ := new_world w #[.string x.1, .int .i64 0, .int .i64 0, .string ByteArray.empty] 55
  rw [hw_5]
  rw [← hw_5]
  refine XL_append kAttr rfl rfl rfl Wb.heap.size 55 (.agg #[.string ByteArray.empty, .int .i64 0, .int .i64 0, .string ByteArray.empty]) 48 Tryd.underlying22 info55 rfl (by decide) (by omega) xs (x.1, 0, 0, ByteArray.empty) [.string x.1, .int .i64 0, .int .i64 0, .string ByteArray.empty] (fun _ => False) (by kernel_rfl) (kAttr_M _ _ _ _) (fun _ h => h.elim) hr hle (by first | omega | (simp; omega)) ?_
  intro A_6 c_7 w_8 hr_9 hc_10 hg_11 hl_12 ha_13
  have hk_14 := Blk.own hb2 hg_11 hl_12 h2
  refine XL_store (v := .slice A_6 ((xs ++ [(x.1, 0, 0, ByteArray.empty)]).length) c_7) rfl rfl rfl (by kernel_rfl) hk_14 0 [.slice A_6 ((xs ++ [(x.1, 0, 0, ByteArray.empty)]).length) c_7] #[.slice A_6 ((xs ++ [(x.1, 0, 0, ByteArray.empty)]).length) c_7] ⟨by kernel_rfl, rfl, by kernel_rfl⟩ ⟨by kernel_rfl, by kernel_rfl⟩ (Nat.le_of_ble_eq_true (by kernel_rfl)) (fun w_15 hg_16 hk_17 hz_18 => ?_)
  have hr_19 := RX.Kd.R_past hr_9 hg_16 h2
  refine XL_nil ?_
  refine RX.end_ok (P := Tryd.prog) (fn := Tryd.f63) (N := 36) (R := R_) [] (by kernel_rfl) (hR_ _ _ ?_)
  have hF : btwF (some x, none) = some ((x.1, 0, 0, ByteArray.empty)) := by first | (simp_all [cmpF, btwF, trnF, isNull]; done) | (simp_all [cmpF, btwF, trnF, isNull]; rfl)
  rw [hF]; (try simp only [Option.toList_none, Option.toList_some, List.append_nil])
  exact ⟨rfl, ⟨_, _, hk_17, hr_19, (Nat.le_trans hle (Nat.le_trans hg_11.size hg_16.size))⟩, (bg (bgo hB hg_11 hl_12 hWb) hg_16 hW)⟩
set_option maxHeartbeats 1000000 in
theorem btw1_y (w Wb W00 : World) (g2 : Nat) (h2 : g2 < Wb.heap.size) (hW : W00.heap.size ≤ g2) (hWb : W00.heap.size ≤ Wb.heap.size) (hB : Below W00.heap.size W00 w) (y : At) (ay : Addr) (hay : CellsAt w ay (atV y)) (A : Option Addr) (c : Nat) (xs : List At) (hb2 : Blk w g2 22 #[.slice A xs.length c])
    (hr : kAttr.R 55 w Wb.heap.size (OkFrom Wb.heap.size) (.slice A xs.length c) xs) (hle : Wb.heap.size ≤ w.heap.size) (hl : xs.length ≤ 1000000000) :
    Calls Tryd.prog 63 #[.string y.1, .pointer none, .pointer (some ay), .pointer (some ⟨g2, 0, none⟩)] w fun e w' => e = .returned (.tuple #[]) ∧ OutSt Wb g2 (xs ++ (btwF (none, some y)).toList) w' ∧ Below W00.heap.size W00 w' := by
  refine RX.enter Tryd.func63 rfl 36 rfl [(0, .string y.1), (1, .pointer none), (2, .pointer (some ay)), (3, .pointer (some ⟨g2, 0, none⟩))] rfl (by kernel_rfl) (fun R_ hR_ => ?_)
  refine X_block ?_
  refine X_seq ?_
  refine X_region ?_
  refine XL_run 3 [] [(0, .string y.1), (1, .pointer none), (2, .pointer (some ay)), (3, .pointer (some ⟨g2, 0, none⟩)), (7, .bool false)] w [] (by kernel_rfl) trivial ?_
  refine XL_nil ?_
  refine X_cond false rfl ?_
  refine X_seq ?_
  refine X_any [11] 15 #[false, false, false, false, false, false, false, false, false, false, false, false, false, false, false] (by kernel_rfl) (by kernel_rfl) (by kernel_rfl) (fun wd_1 hb_2 hh_3 => ?_)
  refine XA_run (fuel' := 4) [0, 1, 2, 3, 4, 5, 6, 7, 8, 9, 10] [] [.pointer none, .bool true, .bool true, undef, undef, undef, undef, undef, undef, undef, undef] #[true, true, true, true, true, true, true, true, true, true, true, false, false, false, false] [(2, .pointer (some ay)), (3, .pointer (some ⟨g2, 0, none⟩)), (18, .bool true), (22, undef), (26, undef)] [] (fun _ _ _ _ h => h) (by kernel_rfl) rfl trivial ?_
  refine XA_pure (fuel' := 3) [11] [] [undef] #[true, true, true, true, true, true, true, true, true, true, true, true, false, false, false] [(2, .pointer (some ay)), (3, .pointer (some ⟨g2, 0, none⟩)), (18, .bool true), (27, undef)] (fun w_ => []) (fun _ _ _ _ h => h) (fun w_ => by kernel_rfl) rfl (fun w_ => trivial) ?_
  refine XA_pure (fuel' := 0) [12, 13, 14] [] [undef, .bool true, .bool true] #[true, true, true, true, true, true, true, true, true, true, true, true, true, true, true] [(2, .pointer (some ay)), (3, .pointer (some ⟨g2, 0, none⟩)), (15, .bool true)] (fun w_ => []) (fun _ _ _ _ h => h) (fun w_ => by kernel_rfl) rfl (fun w_ => trivial) ?_
  refine XA_done (by kernel_rfl) ?_
  refine X_cond true rfl ?_
  refine X_grow [5, 6] 7 #[false, false, false, false, false, false, false] (by kernel_rfl) (by kernel_rfl) (by kernel_rfl) (fun wd_4 hb_5 hh_6 => ?_)
  refine XB_run (fuel' := 3) (Below.refl _ _) [0, 1, 2, 3] [(30, .load (.slice A xs.length c)), (33, .load (.agg #[.string y.1, .int .i64 y.2.1, .int .i64 y.2.2.1, .string y.2.2.2]))] [.slice A xs.length c, .pointer (some ay), .pointer (some ay), .agg #[.string y.1, .int .i64 y.2.1, .int .i64 y.2.2.1, .string y.2.2.2]] #[true, true, true, true, false, false, false] [(3, .pointer (some ⟨g2, 0, none⟩)), (30, .slice A xs.length c), (33, .agg #[.string y.1, .int .i64 y.2.1, .int .i64 y.2.2.1, .string y.2.2.2])] (fun w_ => [LoadsAs Tryd.prog 22 (⟨g2, 0, none⟩) (.slice A xs.length c) w_, LoadsAs Tryd.prog 55 ay (.agg #[.string y.1, .int .i64 y.2.1, .int .i64 y.2.2.1, .string y.2.2.2]) w_]) (fun _ _ _ _ h => h) (fun w_ => by kernel_rfl) rfl (fun w_ hC_ => ⟨loads1 rfl (Blk.cell (Blk.below hb2 (bt (bt hb_2 hb_5) hC_)) 0 _ rfl), loadsE rfl rfl (cells_below hay (bt (bt hb_2 hb_5) hC_)) 0 ⟨by kernel_rfl, by kernel_rfl⟩, trivial⟩) ?_
  refine XB_mid (fuel' := 2) 4 #[true, true, true, true, true, false, false] _ rfl (by kernel_rfl) (by kernel_rfl) rfl ?_
  refine XL_run 1 [] [(3, .pointer (some ⟨g2, 0, none⟩)), (30, .slice A xs.length c), (34, .slice (some ⟨wd_4.heap.size, 0, none⟩) 1 1)] (wd_4.alloc (.cells #[.string y.1, .int .i64 y.2.1, .int .i64 y.2.2.1, .string y.2.2.2] 55)) [] (by kernel_rfl) trivial ?_
  obtain ⟨w_7, hw_11, hb_8, hk_9, hz_10⟩ := new_world wd_4 #[.string y.1, .int .i64 y.2.1, .int .i64 y.2.2.1, .string y.2.2.2] 55
  rw [hw_11]
  refine XL_nil ?_
  refine ⟨hb_8, ?_⟩
  refine XB_act (fuel' := 1) 5 #[true, true, true, true, true, true, false] _ rfl (by kernel_rfl) rfl (by kernel_rfl) rfl ?_
  rw [← hw_11]
  refine XL_append kAttr rfl rfl rfl Wb.heap.size 55 (.agg #[.string ByteArray.empty, .int .i64 0, .int .i64 0, .string ByteArray.empty]) 48 Tryd.underlying22 info55 rfl (by decide) (by omega) xs (y.1, y.2.1, y.2.2.1, y.2.2.2) [.string y.1, .int .i64 y.2.1, .int .i64 y.2.2.1, .string y.2.2.2] (fun _ => False) (by kernel_rfl) (kAttr_M _ _ _ _) (fun _ h => h.elim) (Kd.R_below hr (bt hb_2 hb_5)) (Nat.le_trans hle (Nat.le_trans hb_2.size hb_5.size)) (by first | omega | (simp; omega)) ?_
  intro A_12 c_13 w_14 hr_15 hc_16 hg_17 hl_18 ha_19
  have hk_20 := Blk.own (Blk.below hb2 (bt hb_2 hb_5)) hg_17 hl_18 h2
  refine XL_nil ?_
  refine XB_act (fuel' := 0) 6 #[true, true, true, true, true, true, true] _ rfl (by kernel_rfl) rfl (by kernel_rfl) rfl ?_
  refine XL_store (v := .slice A_12 ((xs ++ [(y.1, y.2.1, y.2.2.1, y.2.2.2)]).length) c_13) rfl rfl rfl (by kernel_rfl) hk_20 0 [.slice A_12 ((xs ++ [(y.1, y.2.1, y.2.2.1, y.2.2.2)]).length) c_13] #[.slice A_12 ((xs ++ [(y.1, y.2.1, y.2.2.1, y.2.2.2)]).length) c_13] ⟨by kernel_rfl, rfl, by kernel_rfl⟩ ⟨by kernel_rfl, by kernel_rfl⟩ (Nat.le_of_ble_eq_true (by kernel_rfl)) (fun w_21 hg_22 hk_23 hz_24 => ?_)
  have hr_25 := RX.Kd.R_past hr_15 hg_22 h2
  refine XL_nil ?_
  refine XB_done (by kernel_rfl) ?_
  refine RX.end_ok (P := Tryd.prog) (fn := Tryd.f63) (N := 36) (R := R_) [] (by kernel_rfl) (hR_ _ _ ?_)
  have hB_26 : Below W00.heap.size W00 w_21 := (bg (bgo (bt (bt hB hb_2) hb_5) hg_17 hl_18 hWb) hg_22 hW)
  have hF : btwF (none, some y) = some ((y.1, y.2.1, y.2.2.1, y.2.2.2)) := by first | (simp_all [cmpF, btwF, trnF, isNull]; done) | (simp_all [cmpF, btwF, trnF, isNull]; rfl)
  rw [hF]; (try simp only [Option.toList_none, Option.toList_some, List.append_nil])
  exact ⟨rfl, ⟨_, _, hk_23, hr_25, (Nat.le_trans hle (Nat.le_trans (Nat.le_trans (Nat.le_trans hb_2.size hb_5.size) hg_17.size) hg_22.size))⟩, hB_26⟩
set_option maxHeartbeats 1000000 in
theorem btw1_xy (w Wb W00 : World) (g2 : Nat) (h2 : g2 < Wb.heap.size) (hW : W00.heap.size ≤ g2) (hWb : W00.heap.size ≤ Wb.heap.size) (hB : Below W00.heap.size W00 w) (x : At) (ax : Addr) (hax : CellsAt w ax (atV x)) (y : At) (ay : Addr) (hay : CellsAt w ay (atV y)) (A : Option Addr) (c : Nat) (xs : List At) (hb2 : Blk w g2 22 #[.slice A xs.length c])
    (hr : kAttr.R 55 w Wb.heap.size (OkFrom Wb.heap.size) (.slice A xs.length c) xs) (hle : Wb.heap.size ≤ w.heap.size) (hl : xs.length ≤ 1000000000) :
    Calls Tryd.prog 63 #[.string x.1, .pointer (some ax), .pointer (some ay), .pointer (some ⟨g2, 0, none⟩)] w fun e w' => e = .returned (.tuple #[]) ∧ OutSt Wb g2 (xs ++ (btwF (some x, some y)).toList) w' ∧ Below W00.heap.size W00 w' := by
  refine RX.enter Tryd.func63 rfl 36 rfl [(0, .string x.1), (1, .pointer (some ax)), (2, .pointer (some ay)), (3, .pointer (some ⟨g2, 0, none⟩))] rfl (by kernel_rfl) (fun R_ hR_ => ?_)
  refine X_block ?_
  refine X_seq ?_
  refine X_region ?_
  refine XL_run 3 [] [(0, .string x.1), (1, .pointer (some ax)), (2, .pointer (some ay)), (3, .pointer (some ⟨g2, 0, none⟩)), (7, .bool false)] w [] (by kernel_rfl) trivial ?_
  refine XL_nil ?_
  refine X_cond false rfl ?_
  refine X_seq ?_
  refine X_any [11] 15 #[false, false, false, false, false, false, false, false, false, false, false, false, false, false, false] (by kernel_rfl) (by kernel_rfl) (by kernel_rfl) (fun wd_1 hb_2 hh_3 => ?_)
  refine XA_run (fuel' := 4) [0, 1, 2, 3, 4, 5, 6, 7, 8, 9, 10] [(22, .load (.agg #[.int .i64 x.2.1, .int .i64 x.2.2.1, .string x.2.2.2])), (26, .load (.agg #[.int .i64 y.2.1, .int .i64 y.2.2.1, .string y.2.2.2]))] [.pointer (some ax), .bool false, .bool false, .pointer (some ax), .pointer (some ax), .pointer (some (ax.add 1)), .agg #[.int .i64 x.2.1, .int .i64 x.2.2.1, .string x.2.2.2], .pointer (some ay), .pointer (some ay), .pointer (some (ay.add 1)), .agg #[.int .i64 y.2.1, .int .i64 y.2.2.1, .string y.2.2.2]] #[true, true, true, true, true, true, true, true, true, true, true, false, false, false, false] [(2, .pointer (some ay)), (3, .pointer (some ⟨g2, 0, none⟩)), (18, .bool false), (22, .agg #[.int .i64 x.2.1, .int .i64 x.2.2.1, .string x.2.2.2]), (26, .agg #[.int .i64 y.2.1, .int .i64 y.2.2.1, .string y.2.2.2])] [LoadsAs Tryd.prog 43 (ax.add 1) (.agg #[.int .i64 x.2.1, .int .i64 x.2.2.1, .string x.2.2.2]) wd_1, LoadsAs Tryd.prog 43 (ay.add 1) (.agg #[.int .i64 y.2.1, .int .i64 y.2.2.1, .string y.2.2.2]) wd_1] (fun _ _ _ _ h => h) (by kernel_rfl) rfl ⟨loadsE rfl rfl (cells_below hax hb_2) 1 ⟨by kernel_rfl, by kernel_rfl⟩, loadsE rfl rfl (cells_below hay hb_2) 1 ⟨by kernel_rfl, by kernel_rfl⟩, trivial⟩ ?_
  refine XA_act (fuel' := 3) 11 #[true, true, true, true, true, true, true, true, true, true, true, true, false, false, false] _ rfl (by kernel_rfl) rfl (by kernel_rfl) rfl ?_
  refine XL_call 64 rfl rfl rfl ent64 [.agg #[.int .i64 x.2.1, .int .i64 x.2.2.1, .string x.2.2.2], .agg #[.int .i64 y.2.1, .int .i64 y.2.2.1, .string y.2.2.2]] (by kernel_rfl) (vsame_any x y _) ?_
  rintro e w_4 ⟨rfl, hb_5⟩; refine ⟨_, rfl, ?_⟩
  refine XL_nil ?_
  refine XA_pure (fuel' := 0) [12, 13, 14] [] [.bool (!(decide (x.2 = y.2))), .bool (!(decide (x.2 = y.2))), .bool (!(decide (x.2 = y.2)))] #[true, true, true, true, true, true, true, true, true, true, true, true, true, true, true] [(2, .pointer (some ay)), (3, .pointer (some ⟨g2, 0, none⟩)), (15, .bool (!(decide (x.2 = y.2))))] (fun w_ => []) (fun _ _ _ _ h => h) (fun w_ => by kernel_rfl) rfl (fun w_ => trivial) ?_
  refine XA_done (by kernel_rfl) ?_
  by_cases c_6 : !(decide (x.2 = y.2)) = true
  · rw [show (!(decide (x.2 = y.2)) : Bool) = true from by simpa using c_6]
    refine X_cond true rfl ?_
    refine X_grow [5, 6] 7 #[false, false, false, false, false, false, false] (by kernel_rfl) (by kernel_rfl) (by kernel_rfl) (fun wd_7 hb_8 hh_9 => ?_)
    refine XB_run (fuel' := 3) (Below.refl _ _) [0, 1, 2, 3] [(30, .load (.slice A xs.length c)), (33, .load (.agg #[.string y.1, .int .i64 y.2.1, .int .i64 y.2.2.1, .string y.2.2.2]))] [.slice A xs.length c, .pointer (some ay), .pointer (some ay), .agg #[.string y.1, .int .i64 y.2.1, .int .i64 y.2.2.1, .string y.2.2.2]] #[true, true, true, true, false, false, false] [(3, .pointer (some ⟨g2, 0, none⟩)), (30, .slice A xs.length c), (33, .agg #[.string y.1, .int .i64 y.2.1, .int .i64 y.2.2.1, .string y.2.2.2])] (fun w_ => [LoadsAs Tryd.prog 22 (⟨g2, 0, none⟩) (.slice A xs.length c) w_, LoadsAs Tryd.prog 55 ay (.agg #[.string y.1, .int .i64 y.2.1, .int .i64 y.2.2.1, .string y.2.2.2]) w_]) (fun _ _ _ _ h => h) (fun w_ => by kernel_rfl) rfl (fun w_ hC_ => ⟨loads1 rfl (Blk.cell (Blk.below hb2 (bt (bt (bt hb_2 hb_5) hb_8) hC_)) 0 _ rfl), loadsE rfl rfl (cells_below hay (bt (bt (bt hb_2 hb_5) hb_8) hC_)) 0 ⟨by kernel_rfl, by kernel_rfl⟩, trivial⟩) ?_
    refine XB_mid (fuel' := 2) 4 #[true, true, true, true, true, false, false] _ rfl (by kernel_rfl) (by kernel_rfl) rfl ?_
    refine XL_run 1 [] [(3, .pointer (some ⟨g2, 0, none⟩)), (30, .slice A xs.length c), (34, .slice (some ⟨wd_7.heap.size, 0, none⟩) 1 1)] (wd_7.alloc (.cells #[.string y.1, .int .i64 y.2.1, .int .i64 y.2.2.1, .string y.2.2.2] 55)) [] (by kernel_rfl) trivial ?_
    obtain ⟨w_10, hw_14, hb_11, hk_12, hz_13⟩ := new_world wd_7 #[.string y.1, .int .i64 y.2.1, .int .i64 y.2.2.1, .string y.2.2.2] 55
    rw [hw_14]
    refine XL_nil ?_
    refine ⟨hb_11, ?_⟩
    refine XB_act (fuel' := 1) 5 #[true, true, true, true, true, true, false] _ rfl (by kernel_rfl) rfl (by kernel_rfl) rfl ?_
    rw [← hw_14]
    refine XL_append kAttr rfl rfl rfl Wb.heap.size 55 (.agg #[.string ByteArray.empty, .int .i64 0, .int .i64 0, .string ByteArray.empty]) 48 Tryd.underlying22 info55 rfl (by decide) (by omega) xs (y.1, y.2.1, y.2.2.1, y.2.2.2) [.string y.1, .int .i64 y.2.1, .int .i64 y.2.2.1, .string y.2.2.2] (fun _ => False) (by kernel_rfl) (kAttr_M _ _ _ _) (fun _ h => h.elim) (Kd.R_below hr (bt (bt hb_2 hb_5) hb_8)) (Nat.le_trans hle (Nat.le_trans (Nat.le_trans hb_2.size hb_5.size) hb_8.size)) (by first | omega | (simp; omega)) ?_
    intro A_15 c_16 w_17 hr_18 hc_19 hg_20 hl_21 ha_22
    have hk_23 := Blk.own (Blk.below hb2 (bt (bt hb_2 hb_5) hb_8)) hg_20 hl_21 h2
    refine XL_nil ?_
    refine XB_act (fuel' := 0) 6 #[true, true, true, true, true, true, true] _ rfl (by kernel_rfl) rfl (by kernel_rfl) rfl ?_
    refine XL_store (v := .slice A_15 ((xs ++ [(y.1, y.2.1, y.2.2.1, y.2.2.2)]).length) c_16) rfl rfl rfl (by kernel_rfl) hk_23 0 [.slice A_15 ((xs ++ [(y.1, y.2.1, y.2.2.1, y.2.2.2)]).length) c_16] #[.slice A_15 ((xs ++ [(y.1, y.2.1, y.2.2.1, y.2.2.2)]).length) c_16] ⟨by kernel_rfl, rfl, by kernel_rfl⟩ ⟨by kernel_rfl, by kernel_rfl⟩ (Nat.le_of_ble_eq_true (by kernel_rfl)) (fun w_24 hg_25 hk_26 hz_27 => ?_)
    have hr_28 := RX.Kd.R_past hr_18 hg_25 h2
    refine XL_nil ?_
    refine XB_done (by kernel_rfl) ?_
    refine RX.end_ok (P := Tryd.prog) (fn := Tryd.f63) (N := 36) (R := R_) [] (by kernel_rfl) (hR_ _ _ ?_)
    have hB_29 : Below W00.heap.size W00 w_24 := (bg (bgo (bt (bt (bt hB hb_2) hb_5) hb_8) hg_20 hl_21 hWb) hg_25 hW)
    have hF : btwF (some x, some y) = some ((y.1, y.2.1, y.2.2.1, y.2.2.2)) := by first | (simp_all [cmpF, btwF, trnF, isNull]; done) | (simp_all [cmpF, btwF, trnF, isNull]; rfl)
    rw [hF]; (try simp only [Option.toList_none, Option.toList_some, List.append_nil])
    exact ⟨rfl, ⟨_, _, hk_26, hr_28, (Nat.le_trans hle (Nat.le_trans (Nat.le_trans (Nat.le_trans (Nat.le_trans hb_2.size hb_5.size) hb_8.size) hg_20.size) hg_25.size))⟩, hB_29⟩
  · rw [show (!(decide (x.2 = y.2)) : Bool) = false from by simpa using c_6]
    refine X_cond false rfl ?_
    refine X_skip ?_
    refine RX.end_ok (P := Tryd.prog) (fn := Tryd.f63) (N := 36) (R := R_) [] (by kernel_rfl) (hR_ _ _ ?_)
    have hF : btwF (some x, some y) = none := by first | (simp_all [cmpF, btwF, trnF, isNull]; done) | (simp_all [cmpF, btwF, trnF, isNull]; rfl)
    rw [hF]; (try simp only [Option.toList_none, Option.toList_some, List.append_nil])
    exact ⟨rfl, ⟨_, _, (Blk.below hb2 (bt hb_2 hb_5)), (Kd.R_below hr (bt hb_2 hb_5)), (Nat.le_trans hle (Nat.le_trans hb_2.size hb_5.size))⟩, (bt (bt hB hb_2) hb_5)⟩
set_option maxHeartbeats 1000000 in
theorem trn1_x (w Wb W00 : World) (g2 : Nat) (h2 : g2 < Wb.heap.size) (hW : W00.heap.size ≤ g2) (hWb : W00.heap.size ≤ Wb.heap.size) (hB : Below W00.heap.size W00 w) (first : Bool) (g1 : Nat) (hne : g1 ≠ g2) (h1 : g1 < Wb.heap.size) (hb1 : Blk w g1 4 #[.bool first]) (x : At) (ax : Addr) (hax : CellsAt w ax (atV x)) (A : Option Addr) (c : Nat) (xs : List At) (hb2 : Blk w g2 22 #[.slice A xs.length c])
    (hr : kAttr.R 55 w Wb.heap.size (OkFrom Wb.heap.size) (.slice A xs.length c) xs) (hle : Wb.heap.size ≤ w.heap.size) (hl : xs.length ≤ 1000000000) :
    Calls Tryd.prog 43 #[.string x.1, .pointer (some ax), .pointer none, .pointer (some ⟨g1, 0, none⟩), .pointer (some ⟨g2, 0, none⟩)] w fun e w' => e = .returned (.tuple #[]) ∧ Blk w' g1 4 #[.bool first] ∧ OutSt Wb g2 (xs ++ (trnF first (some x, none)).toList) w' ∧ Below W00.heap.size W00 w' := by
  refine RX.enter Tryd.func43 rfl 24 rfl [(0, .string x.1), (1, .pointer (some ax)), (2, .pointer none), (3, .pointer (some ⟨g1, 0, none⟩)), (4, .pointer (some ⟨g2, 0, none⟩))] rfl (by kernel_rfl) (fun R_ hR_ => ?_)
  refine X_seq ?_
  refine X_region ?_
  refine XL_run 10 [] [(2, .pointer none), (4, .pointer (some ⟨g2, 0, none⟩)), (17, .bool false)] w [] (by kernel_rfl) trivial ?_
  refine XL_nil ?_
  refine X_cond false rfl ?_
  refine X_skip ?_
  refine RX.end_ok (P := Tryd.prog) (fn := Tryd.f43) (N := 24) (R := R_) [] (by kernel_rfl) (hR_ _ _ ?_)
  have hF : trnF first (some x, none) = none := by first | (simp_all [cmpF, btwF, trnF, isNull]; done) | (simp_all [cmpF, btwF, trnF, isNull]; rfl)
  rw [hF]; (try simp only [Option.toList_none, Option.toList_some, List.append_nil])
  exact ⟨rfl, hb1, ⟨_, _, hb2, hr, hle⟩, hB⟩
set_option maxHeartbeats 1000000 in
theorem trn1_y (w Wb W00 : World) (g2 : Nat) (h2 : g2 < Wb.heap.size) (hW : W00.heap.size ≤ g2) (hWb : W00.heap.size ≤ Wb.heap.size) (hB : Below W00.heap.size W00 w) (first : Bool) (g1 : Nat) (hne : g1 ≠ g2) (h1 : g1 < Wb.heap.size) (hb1 : Blk w g1 4 #[.bool first]) (y : At) (ay : Addr) (hay : CellsAt w ay (atV y)) (A : Option Addr) (c : Nat) (xs : List At) (hb2 : Blk w g2 22 #[.slice A xs.length c])
    (hr : kAttr.R 55 w Wb.heap.size (OkFrom Wb.heap.size) (.slice A xs.length c) xs) (hle : Wb.heap.size ≤ w.heap.size) (hl : xs.length ≤ 1000000000) :
    Calls Tryd.prog 43 #[.string y.1, .pointer none, .pointer (some ay), .pointer (some ⟨g1, 0, none⟩), .pointer (some ⟨g2, 0, none⟩)] w fun e w' => e = .returned (.tuple #[]) ∧ Blk w' g1 4 #[.bool first] ∧ OutSt Wb g2 (xs ++ (trnF first (none, some y)).toList) w' ∧ Below W00.heap.size W00 w' := by
  refine RX.enter Tryd.func43 rfl 24 rfl [(0, .string y.1), (1, .pointer none), (2, .pointer (some ay)), (3, .pointer (some ⟨g1, 0, none⟩)), (4, .pointer (some ⟨g2, 0, none⟩))] rfl (by kernel_rfl) (fun R_ hR_ => ?_)
  refine X_seq ?_
  refine X_region ?_
  refine XL_run 10 [] [(2, .pointer (some ay)), (4, .pointer (some ⟨g2, 0, none⟩)), (17, .bool true)] w [] (by kernel_rfl) trivial ?_
  refine XL_nil ?_
  refine X_cond true rfl ?_
  refine X_grow [5, 6] 7 #[false, false, false, false, false, false, false] (by kernel_rfl) (by kernel_rfl) (by kernel_rfl) (fun wd_1 hb_2 hh_3 => ?_)
  refine XB_run (fuel' := 3) (Below.refl _ _) [0, 1, 2, 3] [(18, .load (.slice A xs.length c)), (21, .load (.agg #[.string y.1, .int .i64 y.2.1, .int .i64 y.2.2.1, .string y.2.2.2]))] [.slice A xs.length c, .pointer (some ay), .pointer (some ay), .agg #[.string y.1, .int .i64 y.2.1, .int .i64 y.2.2.1, .string y.2.2.2]] #[true, true, true, true, false, false, false] [(4, .pointer (some ⟨g2, 0, none⟩)), (18, .slice A xs.length c), (21, .agg #[.string y.1, .int .i64 y.2.1, .int .i64 y.2.2.1, .string y.2.2.2])] (fun w_ => [LoadsAs Tryd.prog 22 (⟨g2, 0, none⟩) (.slice A xs.length c) w_, LoadsAs Tryd.prog 55 ay (.agg #[.string y.1, .int .i64 y.2.1, .int .i64 y.2.2.1, .string y.2.2.2]) w_]) (fun _ _ _ _ h => h) (fun w_ => by kernel_rfl) rfl (fun w_ hC_ => ⟨loads1 rfl (Blk.cell (Blk.below hb2 (bt hb_2 hC_)) 0 _ rfl), loadsE rfl rfl (cells_below hay (bt hb_2 hC_)) 0 ⟨by kernel_rfl, by kernel_rfl⟩, trivial⟩) ?_
  refine XB_mid (fuel' := 2) 4 #[true, true, true, true, true, false, false] _ rfl (by kernel_rfl) (by kernel_rfl) rfl ?_
  refine XL_run 1 [] [(4, .pointer (some ⟨g2, 0, none⟩)), (18, .slice A xs.length c), (22, .slice (some ⟨wd_1.heap.size, 0, none⟩) 1 1)] (wd_1.alloc (.cells #[.string y.1, .int .i64 y.2.1, .int .i64 y.2.2.1, .string y.2.2.2] 55)) [] (by kernel_rfl) trivial ?_
  obtain ⟨w_4, hw_8, hb_5, hk_6, hz_7⟩ := new_world wd_1 #[.string y.1, .int .i64 y.2.1, .int .i64 y.2.2.1, .string y.2.2.2] 55
  rw [hw_8]
  refine XL_nil ?_
  refine ⟨hb_5, ?_⟩
  refine XB_act (fuel' := 1) 5 #[true, true, true, true, true, true, false] _ rfl (by kernel_rfl) rfl (by kernel_rfl) rfl ?_
  rw [← hw_8]
  refine XL_append kAttr rfl rfl rfl Wb.heap.size 55 (.agg #[.string ByteArray.empty, .int .i64 0, .int .i64 0, .string ByteArray.empty]) 48 Tryd.underlying22 info55 rfl (by decide) (by omega) xs (y.1, y.2.1, y.2.2.1, y.2.2.2) [.string y.1, .int .i64 y.2.1, .int .i64 y.2.2.1, .string y.2.2.2] (fun _ => False) (by kernel_rfl) (kAttr_M _ _ _ _) (fun _ h => h.elim) (Kd.R_below hr hb_2) (Nat.le_trans hle hb_2.size) (by first | omega | (simp; omega)) ?_
  intro A_9 c_10 w_11 hr_12 hc_13 hg_14 hl_15 ha_16
  have hk_17 := Blk.own (Blk.below hb1 hb_2) hg_14 hl_15 h1
  have hk_18 := Blk.own (Blk.below hb2 hb_2) hg_14 hl_15 h2
  refine XL_nil ?_
  refine XB_act (fuel' := 0) 6 #[true, true, true, true, true, true, true] _ rfl (by kernel_rfl) rfl (by kernel_rfl) rfl ?_
  refine XL_store (v := .slice A_9 ((xs ++ [(y.1, y.2.1, y.2.2.1, y.2.2.2)]).length) c_10) rfl rfl rfl (by kernel_rfl) hk_18 0 [.slice A_9 ((xs ++ [(y.1, y.2.1, y.2.2.1, y.2.2.2)]).length) c_10] #[.slice A_9 ((xs ++ [(y.1, y.2.1, y.2.2.1, y.2.2.2)]).length) c_10] ⟨by kernel_rfl, rfl, by kernel_rfl⟩ ⟨by kernel_rfl, by kernel_rfl⟩ (Nat.le_of_ble_eq_true (by kernel_rfl)) (fun w_19 hg_20 hk_21 hz_22 => ?_)
  have hk_23 := Blk.other hk_17 hg_20 hne
  have hr_24 := RX.Kd.R_past hr_12 hg_20 h2
  refine XL_nil ?_
  refine XB_done (by kernel_rfl) ?_
  refine RX.end_ok (P := Tryd.prog) (fn := Tryd.f43) (N := 24) (R := R_) [] (by kernel_rfl) (hR_ _ _ ?_)
  have hB_25 : Below W00.heap.size W00 w_19 := (bg (bgo (bt hB hb_2) hg_14 hl_15 hWb) hg_20 hW)
  have hF : trnF first (none, some y) = some ((y.1, y.2.1, y.2.2.1, y.2.2.2)) := by first | (simp_all [cmpF, btwF, trnF, isNull]; done) | (simp_all [cmpF, btwF, trnF, isNull]; rfl)
  rw [hF]; (try simp only [Option.toList_none, Option.toList_some, List.append_nil])
  exact ⟨rfl, hk_23, ⟨_, _, hk_21, hr_24, (Nat.le_trans hle (Nat.le_trans (Nat.le_trans hb_2.size hg_14.size) hg_20.size))⟩, hB_25⟩
set_option maxHeartbeats 1000000 in
theorem trn1_xy (w Wb W00 : World) (g2 : Nat) (h2 : g2 < Wb.heap.size) (hW : W00.heap.size ≤ g2) (hWb : W00.heap.size ≤ Wb.heap.size) (hB : Below W00.heap.size W00 w) (first : Bool) (g1 : Nat) (hne : g1 ≠ g2) (h1 : g1 < Wb.heap.size) (hb1 : Blk w g1 4 #[.bool first]) (x : At) (ax : Addr) (hax : CellsAt w ax (atV x)) (y : At) (ay : Addr) (hay : CellsAt w ay (atV y)) (A : Option Addr) (c : Nat) (xs : List At) (hb2 : Blk w g2 22 #[.slice A xs.length c])
    (hr : kAttr.R 55 w Wb.heap.size (OkFrom Wb.heap.size) (.slice A xs.length c) xs) (hle : Wb.heap.size ≤ w.heap.size) (hl : xs.length ≤ 1000000000) :
    Calls Tryd.prog 43 #[.string x.1, .pointer (some ax), .pointer (some ay), .pointer (some ⟨g1, 0, none⟩), .pointer (some ⟨g2, 0, none⟩)] w fun e w' => e = .returned (.tuple #[]) ∧ Blk w' g1 4 #[.bool first] ∧ OutSt Wb g2 (xs ++ (trnF first (some x, some y)).toList) w' ∧ Below W00.heap.size W00 w' := by
  refine RX.enter Tryd.func43 rfl 24 rfl [(0, .string x.1), (1, .pointer (some ax)), (2, .pointer (some ay)), (3, .pointer (some ⟨g1, 0, none⟩)), (4, .pointer (some ⟨g2, 0, none⟩))] rfl (by kernel_rfl) (fun R_ hR_ => ?_)
  refine X_seq ?_
  refine X_region ?_
  refine XL_run 10 [(14, .load (.bool first))] [(2, .pointer (some ay)), (4, .pointer (some ⟨g2, 0, none⟩)), (17, .bool (!first))] w [LoadsAs Tryd.prog 4 (⟨g1, 0, none⟩) (.bool first) w] (by kernel_rfl) ⟨loads1 rfl (Blk.cell hb1 0 _ rfl), trivial⟩ ?_
  refine XL_nil ?_
  by_cases c_1 : !first = true
  · rw [show (!first : Bool) = true from by simpa using c_1]
    refine X_cond true rfl ?_
    refine X_grow [5, 6] 7 #[false, false, false, false, false, false, false] (by kernel_rfl) (by kernel_rfl) (by kernel_rfl) (fun wd_2 hb_3 hh_4 => ?_)
    refine XB_run (fuel' := 3) (Below.refl _ _) [0, 1, 2, 3] [(18, .load (.slice A xs.length c)), (21, .load (.agg #[.string y.1, .int .i64 y.2.1, .int .i64 y.2.2.1, .string y.2.2.2]))] [.slice A xs.length c, .pointer (some ay), .pointer (some ay), .agg #[.string y.1, .int .i64 y.2.1, .int .i64 y.2.2.1, .string y.2.2.2]] #[true, true, true, true, false, false, false] [(4, .pointer (some ⟨g2, 0, none⟩)), (18, .slice A xs.length c), (21, .agg #[.string y.1, .int .i64 y.2.1, .int .i64 y.2.2.1, .string y.2.2.2])] (fun w_ => [LoadsAs Tryd.prog 22 (⟨g2, 0, none⟩) (.slice A xs.length c) w_, LoadsAs Tryd.prog 55 ay (.agg #[.string y.1, .int .i64 y.2.1, .int .i64 y.2.2.1, .string y.2.2.2]) w_]) (fun _ _ _ _ h => h) (fun w_ => by kernel_rfl) rfl (fun w_ hC_ => ⟨loads1 rfl (Blk.cell (Blk.below hb2 (bt hb_3 hC_)) 0 _ rfl), loadsE rfl rfl (cells_below hay (bt hb_3 hC_)) 0 ⟨by kernel_rfl, by kernel_rfl⟩, trivial⟩) ?_
    refine XB_mid (fuel' := 2) 4 #[true, true, true, true, true, false, false] _ rfl (by kernel_rfl) (by kernel_rfl) rfl ?_
    refine XL_run 1 [] [(4, .pointer (some ⟨g2, 0, none⟩)), (18, .slice A xs.length c), (22, .slice (some ⟨wd_2.heap.size, 0, none⟩) 1 1)] (wd_2.alloc (.cells #[.string y.1, .int .i64 y.2.1, .int .i64 y.2.2.1, .string y.2.2.2] 55)) [] (by kernel_rfl) trivial ?_
    obtain ⟨w_5, hw_9, hb_6, hk_7, hz_8⟩ := new_world wd_2 #[.string y.1, .int .i64 y.2.1, .int .i64 y.2.2.1, .string y.2.2.2] 55
    rw [hw_9]
    refine XL_nil ?_
    refine ⟨hb_6, ?_⟩
    refine XB_act (fuel' := 1) 5 #[true, true, true, true, true, true, false] _ rfl (by kernel_rfl) rfl (by kernel_rfl) rfl ?_
    rw [← hw_9]
    refine XL_append kAttr rfl rfl rfl Wb.heap.size 55 (.agg #[.string ByteArray.empty, .int .i64 0, .int .i64 0, .string ByteArray.empty]) 48 Tryd.underlying22 info55 rfl (by decide) (by omega) xs (y.1, y.2.1, y.2.2.1, y.2.2.2) [.string y.1, .int .i64 y.2.1, .int .i64 y.2.2.1, .string y.2.2.2] (fun _ => False) (by kernel_rfl) (kAttr_M _ _ _ _) (fun _ h => h.elim) (Kd.R_below hr hb_3) (Nat.le_trans hle hb_3.size) (by first | omega | (simp; omega)) ?_
    intro A_10 c_11 w_12 hr_13 hc_14 hg_15 hl_16 ha_17
    have hk_18 := Blk.own (Blk.below hb1 hb_3) hg_15 hl_16 h1
    have hk_19 := Blk.own (Blk.below hb2 hb_3) hg_15 hl_16 h2
    refine XL_nil ?_
    refine XB_act (fuel' := 0) 6 #[true, true, true, true, true, true, true] _ rfl (by kernel_rfl) rfl (by kernel_rfl) rfl ?_
    refine XL_store (v := .slice A_10 ((xs ++ [(y.1, y.2.1, y.2.2.1, y.2.2.2)]).length) c_11) rfl rfl rfl (by kernel_rfl) hk_19 0 [.slice A_10 ((xs ++ [(y.1, y.2.1, y.2.2.1, y.2.2.2)]).length) c_11] #[.slice A_10 ((xs ++ [(y.1, y.2.1, y.2.2.1, y.2.2.2)]).length) c_11] ⟨by kernel_rfl, rfl, by kernel_rfl⟩ ⟨by kernel_rfl, by kernel_rfl⟩ (Nat.le_of_ble_eq_true (by kernel_rfl)) (fun w_20 hg_21 hk_22 hz_23 => ?_)
    have hk_24 := Blk.other hk_18 hg_21 hne
    have hr_25 := RX.Kd.R_past hr_13 hg_21 h2
    refine XL_nil ?_
    refine XB_done (by kernel_rfl) ?_
    refine RX.end_ok (P := Tryd.prog) (fn := Tryd.f43) (N := 24) (R := R_) [] (by kernel_rfl) (hR_ _ _ ?_)
    have hB_26 : Below W00.heap.size W00 w_20 := (bg (bgo (bt hB hb_3) hg_15 hl_16 hWb) hg_21 hW)
    have hF : trnF first (some x, some y) = some ((y.1, y.2.1, y.2.2.1, y.2.2.2)) := by first | (simp_all [cmpF, btwF, trnF, isNull]; done) | (simp_all [cmpF, btwF, trnF, isNull]; rfl)
    rw [hF]; (try simp only [Option.toList_none, Option.toList_some, List.append_nil])
    exact ⟨rfl, hk_24, ⟨_, _, hk_22, hr_25, (Nat.le_trans hle (Nat.le_trans (Nat.le_trans hb_3.size hg_15.size) hg_21.size))⟩, hB_26⟩
  · rw [show (!first : Bool) = false from by simpa using c_1]
    refine X_cond false rfl ?_
    refine X_skip ?_
    refine RX.end_ok (P := Tryd.prog) (fn := Tryd.f43) (N := 24) (R := R_) [] (by kernel_rfl) (hR_ _ _ ?_)
    have hF : trnF first (some x, some y) = none := by first | (simp_all [cmpF, btwF, trnF, isNull]; done) | (simp_all [cmpF, btwF, trnF, isNull]; rfl)
    rw [hF]; (try simp only [Option.toList_none, Option.toList_some, List.append_nil])
    exact ⟨rfl, hb1, ⟨_, _, hb2, hr, hle⟩, hB⟩
end Go.Proofs.YtdkdajofppjnaaaDoor
