/- What Match, Length, Edits answer. Conditions: the lists' lengths. -/
import Derived.Test.YtmhkeojbjliieaaDoorV2
import Derived.Test.YtmhkeojbjliieaaDoorErr
import Derived.Test.YtmhkeojbjliieaaDoorAn
set_option linter.unusedVariables false
set_option linter.unusedSimpArgs false
set_option maxRecDepth 100000
namespace Go.Proofs.YtmhkeojbjliieaaDoor
open Go.RowKit Go.Proofs.YtmhkeojbjliieaaDoorW.PrintWords MM RX
theorem ent10 : Ent Tryd.prog 10 := ent_of Tryd.func10 (by kernel_rfl) rfl
theorem ent12 : Ent Tryd.prog 12 := ent_of Tryd.func12 (by kernel_rfl) rfl
theorem ent11 : Ent Tryd.prog 11 := ent_of Tryd.func11 (by kernel_rfl) rfl
theorem ent23 : Ent Tryd.prog 23 := ent_of Tryd.func23 (by kernel_rfl) rfl
theorem info35 : (Tryd.prog.info? 35).map (fun i => (i.zero, i.size, i.bytes)) = some (some (.agg #[.int .i64 0, .int .i64 0]), 2, 16) := by kernel_rfl
theorem fwd_length (a b : List Int) (D j : Nat) : (fwd a b D j).length = D + 1 := by simp [fwd, pre_length]
theorem fwd_get (a b : List Int) (D j i : Nat) (h : i < D) : (fwd a b D j).getD i [] = rows a b i := by
  unfold fwd
  rw [List.getD_eq_getElem?_getD, List.getElem?_append_left (by rw [pre_length]; exact h)]
  simp [pre, h]
theorem rows_bd (a b : List Int) (d : Nat) : ∀ j, j < (rows a b d).length → -1 ≤ (rows a b d).getD j 0 ∧ (rows a b d).getD j 0 ≤ a.length := lastOf_bd a b (d + 1)

theorem fwd_any (A A' : Option Addr) (c c' : Nat) (a b : List Int) (w : World) (ha : (Kd.int .i64).C w A a.length a) (hb : (Kd.int .i64).C w A' b.length b) (hla : a.length ≤ 1024) (hlb : b.length ≤ 1024) :
    Calls Tryd.prog 20 #[.slice A a.length c, .slice A' b.length c'] w fun e w' =>
      ∃ j A1 c1, e = .returned (.slice A1 (fwd a b (dist a b) j).length c1) ∧ (Kd.slice 3 (Kd.int .i64)).R 22 w' w.heap.size (OkFrom w.heap.size) (.slice A1 (fwd a b (dist a b) j).length c1) (fwd a b (dist a b) j) ∧ Below w.heap.size w w' := by
  obtain ⟨h1, j, h2, h3, h4, h5⟩ := first_found a b
  exact (forward_any A A' c c' a b (dist a b) j w ha hb hla hlb h1 h2 h3 h4 h5).mono fun e w' h => ⟨j, h⟩
theorem reverse_any (A : Option Addr) (c : Nat) (ps : List (Int × Int)) (W0 w : World) (HB : Below W0.heap.size W0 w) (H : kPair.R 35 w W0.heap.size (OkFrom W0.heap.size) (.slice A ps.length c) ps) (hl : ps.length ≤ 1000000) (HLE : ∀ k, A.map (·.block) = some k → W0.heap.size ≤ k) :
    Calls Tryd.prog 23 #[.slice A ps.length c] w fun e w' => e = .returned (.tuple #[]) ∧ kPair.R 35 w' W0.heap.size (OkFrom W0.heap.size) (.slice A ps.length c) ps.reverse ∧ w.grownBy w' (A.map (·.block)) := by
  refine RX.enter Tryd.func23 rfl 28 rfl [(0, .slice A ps.length c)] rfl (by kernel_rfl) (fun R_ hR_ => ?_)
  refine X_seq ?_
  refine X_region ?_
  refine XL_run 5 [(6, .eq (.int .i64 ((ps.length : Int) - 1)))] [(0, .slice A ps.length c), (2, .int .i64 0), (3, .int .i64 ((ps.length : Int) - 1))] w [Value.int .i64 (IntKind.i64.wrap ((ps.length : Int) - 1)) = Value.int .i64 ((ps.length : Int) - 1)] (by kernel_rfl) ⟨wr_i64 (by omega) (by omega), trivial⟩ ?_
  refine XL_nil ?_
  refine X_block ?_
  refine X_loop (ι := Nat × Int) (fun ⟨i, j⟩ => [(0, .slice A ps.length c), (2, .int .i64 (i : Int)), (3, .int .i64 j)]) (fun ⟨i, j⟩ wl => 2 * i ≤ ps.length ∧ j = (ps.length : Int) - 1 - i ∧ kPair.R 35 wl W0.heap.size (OkFrom W0.heap.size) (.slice A ps.length c) (revU (0, 0) ps i) ∧ w.grownBy wl (A.map (·.block))) (fun ⟨i, j⟩ => ps.length - 2 * i) ⟨0, (ps.length : Int) - 1⟩ ⟨by omega, by omega, H, World.grownBy.refl _ _⟩ (by kernel_rfl) ?_
  rintro ⟨i, j⟩ wl ⟨hi, hj, HR, HG⟩
  refine X_seq ?_
  refine X_seq ?_
  refine X_region ?_
  refine XL_run 2 [] [(0, .slice A ps.length c), (2, .int .i64 (i : Int)), (3, .int .i64 j), (7, .int .i64 (i : Int)), (8, .int .i64 j)] wl [] (by kernel_rfl) trivial ?_
  by_cases c_1 : (i : Int) < j
  · refine XL_run 1 [(9, .eq (.bool true))] [(0, .slice A ps.length c), (2, .int .i64 (i : Int)), (3, .int .i64 j), (9, .bool true)] wl [Value.bool (decide ((i : Int) < j)) = Value.bool true] (by kernel_rfl) ⟨congrArg Value.bool (decide_eq_true (c_1)), trivial⟩ ?_
    refine XL_nil ?_
    refine X_cond true rfl ?_
    refine X_skip ?_
    refine X_seq ?_
    refine X_block ?_
    refine X_any [13, 15] 16 #[false, false, false, false, false, false, false, false, false, false, false, false, false, false, false, false] (by kernel_rfl) (by kernel_rfl) (by kernel_rfl) (fun wd_2 hb_3 hh_4 => ?_)
    refine XA_run (fuel' := 12) [0, 1, 4, 5] [] [.slice A ps.length c, .int .i64 (i : Int), .slice A ps.length c, .int .i64 j] #[true, true, false, false, true, true, false, false, false, false, false, false, false, false, false, false] [(0, .slice A ps.length c), (2, .int .i64 (i : Int)), (3, .int .i64 j), (14, .slice A ps.length c), (15, .int .i64 (i : Int)), (18, .slice A ps.length c), (19, .int .i64 j)] [] (fun _ _ _ _ h => h) (by kernel_rfl) rfl trivial ?_
    obtain ⟨ad_5, ha_6, hc_7⟩ := Kd.atPair (Kd.R_C (Kd.R_below HR hb_3)) (i := j) (by omega) (by omega)
    replace hc_7 : CellsAt wd_2 (ad_5.add (j.toNat * 2)) [.int .i64 ((revU (0, 0) ps i).getD j.toNat (0, 0)).1, .int .i64 ((revU (0, 0) ps i).getD j.toNat (0, 0)).2] := hc_7
    refine XA_run (fuel' := 8) [6, 7, 8, 9] [(20, .idx ad_5), (21, .load (.agg #[.int .i64 (((revU (0, 0) ps i).getD j.toNat (0, 0)).1), .int .i64 (((revU (0, 0) ps i).getD j.toNat (0, 0)).2)]))] [.pointer (some (ad_5.add (j.toNat * 2))), .agg #[.int .i64 (((revU (0, 0) ps i).getD j.toNat (0, 0)).1), .int .i64 (((revU (0, 0) ps i).getD j.toNat (0, 0)).2)], .slice A ps.length c, .int .i64 (i : Int)] #[true, true, false, false, true, true, true, true, true, true, false, false, false, false, false, false] [(0, .slice A ps.length c), (2, .int .i64 (i : Int)), (3, .int .i64 j), (14, .slice A ps.length c), (15, .int .i64 (i : Int)), (21, .agg #[.int .i64 (((revU (0, 0) ps i).getD j.toNat (0, 0)).1), .int .i64 (((revU (0, 0) ps i).getD j.toNat (0, 0)).2)]), (22, .slice A ps.length c), (23, .int .i64 (i : Int))] [A = some ad_5, (0 : Int) ≤ j, j < (ps.length : Int), LoadsAs Tryd.prog 35 (ad_5.add (j.toNat * 2)) (.agg #[.int .i64 (((revU (0, 0) ps i).getD j.toNat (0, 0)).1), .int .i64 (((revU (0, 0) ps i).getD j.toNat (0, 0)).2)]) wd_2] (fun _ _ _ _ h => h) (by kernel_rfl) rfl ⟨ha_6, (by omega), (by omega), loadsE rfl rfl hc_7 0 ⟨by kernel_rfl, by kernel_rfl⟩, trivial⟩ ?_
    obtain ⟨ad_8, ha_9, hc_10⟩ := Kd.atPair (Kd.R_C (Kd.R_below HR hb_3)) (i := (i : Int)) (by omega) (by omega)
    replace hc_10 : CellsAt wd_2 (ad_8.add ((i : Int).toNat * 2)) [.int .i64 ((revU (0, 0) ps i).getD i (0, 0)).1, .int .i64 ((revU (0, 0) ps i).getD i (0, 0)).2] := hc_10
    refine XA_run (fuel' := 6) [10, 11] [(24, .idx ad_8), (25, .load (.agg #[.int .i64 (((revU (0, 0) ps i).getD i (0, 0)).1), .int .i64 (((revU (0, 0) ps i).getD i (0, 0)).2)]))] [.pointer (some (ad_8.add ((i : Int).toNat * 2))), .agg #[.int .i64 (((revU (0, 0) ps i).getD i (0, 0)).1), .int .i64 (((revU (0, 0) ps i).getD i (0, 0)).2)]] #[true, true, false, false, true, true, true, true, true, true, true, true, false, false, false, false] [(0, .slice A ps.length c), (2, .int .i64 (i : Int)), (3, .int .i64 j), (14, .slice A ps.length c), (15, .int .i64 (i : Int)), (21, .agg #[.int .i64 (((revU (0, 0) ps i).getD j.toNat (0, 0)).1), .int .i64 (((revU (0, 0) ps i).getD j.toNat (0, 0)).2)]), (25, .agg #[.int .i64 (((revU (0, 0) ps i).getD i (0, 0)).1), .int .i64 (((revU (0, 0) ps i).getD i (0, 0)).2)])] [A = some ad_8, (0 : Int) ≤ (i : Int), (i : Int) < (ps.length : Int), LoadsAs Tryd.prog 35 (ad_8.add ((i : Int).toNat * 2)) (.agg #[.int .i64 (((revU (0, 0) ps i).getD i (0, 0)).1), .int .i64 (((revU (0, 0) ps i).getD i (0, 0)).2)]) wd_2] (fun _ _ _ _ h => h) (by kernel_rfl) rfl ⟨ha_9, (by omega), (by omega), loadsE rfl rfl hc_10 0 ⟨by kernel_rfl, by kernel_rfl⟩, trivial⟩ ?_
    obtain ⟨ad_11, ha_12, hc_13⟩ := Kd.atPair (Kd.R_C (Kd.R_below HR hb_3)) (i := (i : Int)) (by omega) (by omega)
    replace hc_13 : CellsAt wd_2 (ad_11.add ((i : Int).toNat * 2)) [.int .i64 ((revU (0, 0) ps i).getD i (0, 0)).1, .int .i64 ((revU (0, 0) ps i).getD i (0, 0)).2] := hc_13
    refine XA_run (fuel' := 5) [12] [(26, .idx ad_11)] [.pointer (some (ad_11.add ((i : Int).toNat * 2)))] #[true, true, false, false, true, true, true, true, true, true, true, true, true, false, false, false] [(0, .slice A ps.length c), (2, .int .i64 (i : Int)), (3, .int .i64 j), (21, .agg #[.int .i64 (((revU (0, 0) ps i).getD j.toNat (0, 0)).1), .int .i64 (((revU (0, 0) ps i).getD j.toNat (0, 0)).2)]), (25, .agg #[.int .i64 (((revU (0, 0) ps i).getD i (0, 0)).1), .int .i64 (((revU (0, 0) ps i).getD i (0, 0)).2)]), (26, .pointer (some (ad_11.add ((i : Int).toNat * 2))))] [A = some ad_11, (0 : Int) ≤ (i : Int), (i : Int) < (ps.length : Int)] (fun _ _ _ _ h => h) (by kernel_rfl) rfl ⟨ha_12, (by omega), (by omega), trivial⟩ ?_
    refine XA_pure (fuel' := 3) [2, 3] [] [.slice A ps.length c, .int .i64 j] #[true, true, true, true, true, true, true, true, true, true, true, true, true, false, false, false] [(0, .slice A ps.length c), (2, .int .i64 (i : Int)), (3, .int .i64 j), (16, .slice A ps.length c), (17, .int .i64 j), (21, .agg #[.int .i64 (((revU (0, 0) ps i).getD j.toNat (0, 0)).1), .int .i64 (((revU (0, 0) ps i).getD j.toNat (0, 0)).2)]), (25, .agg #[.int .i64 (((revU (0, 0) ps i).getD i (0, 0)).1), .int .i64 (((revU (0, 0) ps i).getD i (0, 0)).2)]), (26, .pointer (some (ad_11.add ((i : Int).toNat * 2))))] (fun w_ => []) (fun _ _ _ _ h => h) (fun w_ => by kernel_rfl) rfl (fun w_ => trivial) ?_
    refine XA_act (fuel' := 2) 13 #[true, true, true, true, true, true, true, true, true, true, true, true, true, true, false, false] _ rfl (by kernel_rfl) rfl (by kernel_rfl) rfl ?_
    refine XL_rowset kPair rfl rfl rfl W0.heap.size 35 (ad := ad_11) (i := (i : Int)) (v := .agg #[.int .i64 (((revU (0, 0) ps i).getD j.toNat (0, 0)).1), .int .i64 (((revU (0, 0) ps i).getD j.toNat (0, 0)).2)]) (revU (0, 0) ps i) (((revU (0, 0) ps i).getD j.toNat (0, 0)).1, ((revU (0, 0) ps i).getD j.toNat (0, 0)).2) (by kernel_rfl) ha_12 (Kd.R_below HR hb_3) (by omega) (by omega) [.int .i64 (((revU (0, 0) ps i).getD j.toNat (0, 0)).1), .int .i64 (((revU (0, 0) ps i).getD j.toNat (0, 0)).2)] ⟨by kernel_rfl, by kernel_rfl⟩ (by kernel_rfl) (kPair_M _ _ _ _) ?_
    intro w_14 hr_15 hg_16 hl_17
    refine XL_nil ?_
    obtain ⟨ad_18, ha_19, hc_20⟩ := Kd.atPair (Kd.R_C hr_15) (i := j) (by omega) (by omega)
    replace hc_20 : CellsAt w_14 (ad_18.add (j.toNat * 2)) [.int .i64 (((revU (0, 0) ps i).set (i : Int).toNat (((revU (0, 0) ps i).getD j.toNat (0, 0)).1, ((revU (0, 0) ps i).getD j.toNat (0, 0)).2)).getD j.toNat (0, 0)).1, .int .i64 (((revU (0, 0) ps i).set (i : Int).toNat (((revU (0, 0) ps i).getD j.toNat (0, 0)).1, ((revU (0, 0) ps i).getD j.toNat (0, 0)).2)).getD j.toNat (0, 0)).2] := hc_20
    refine XA_pure (fuel' := 1) [14] [(27, .idx ad_18)] [.pointer (some (ad_18.add (j.toNat * 2)))] #[true, true, true, true, true, true, true, true, true, true, true, true, true, true, true, false] [(0, .slice A ps.length c), (2, .int .i64 (i : Int)), (3, .int .i64 j), (25, .agg #[.int .i64 (((revU (0, 0) ps i).getD i (0, 0)).1), .int .i64 (((revU (0, 0) ps i).getD i (0, 0)).2)]), (27, .pointer (some (ad_18.add (j.toNat * 2))))] (fun w_ => [A = some ad_18, (0 : Int) ≤ j, j < (ps.length : Int)]) (fun _ _ _ _ h => h) (fun w_ => by kernel_rfl) rfl (fun w_ => ⟨ha_19, (by omega), (by omega), trivial⟩) ?_
    refine XA_act (fuel' := 0) 15 #[true, true, true, true, true, true, true, true, true, true, true, true, true, true, true, true] _ rfl (by kernel_rfl) rfl (by kernel_rfl) rfl ?_
    refine XL_rowset kPair rfl rfl rfl W0.heap.size 35 (ad := ad_18) (i := j) (v := .agg #[.int .i64 (((revU (0, 0) ps i).getD i (0, 0)).1), .int .i64 (((revU (0, 0) ps i).getD i (0, 0)).2)]) ((revU (0, 0) ps i).set (i : Int).toNat (((revU (0, 0) ps i).getD j.toNat (0, 0)).1, ((revU (0, 0) ps i).getD j.toNat (0, 0)).2)) (((revU (0, 0) ps i).getD i (0, 0)).1, ((revU (0, 0) ps i).getD i (0, 0)).2) (by kernel_rfl) ha_19 hr_15 (by omega) (by omega) [.int .i64 (((revU (0, 0) ps i).getD i (0, 0)).1), .int .i64 (((revU (0, 0) ps i).getD i (0, 0)).2)] ⟨by kernel_rfl, by kernel_rfl⟩ (by kernel_rfl) (kPair_M _ _ _ _) ?_
    intro w_21 hr_22 hg_23 hl_24
    have he_25 : (((revU (0, 0) ps i).set (i : Int).toNat (((revU (0, 0) ps i).getD j.toNat (0, 0)).1, ((revU (0, 0) ps i).getD j.toNat (0, 0)).2)).set j.toNat (((revU (0, 0) ps i).getD i (0, 0)).1, ((revU (0, 0) ps i).getD i (0, 0)).2)) = (revU (0, 0) ps (i + 1)) := by rw [show ((i : Int)).toNat = i from rfl, show j.toNat = ps.length - 1 - i from by omega]; rfl
    rw [he_25] at hr_22
    refine XL_nil ?_
    refine XA_done (by kernel_rfl) ?_
    refine X_region ?_
    refine XL_run 6 [(11, .eq (.int .i64 ((i : Int) + 1))), (13, .eq (.int .i64 (j - 1)))] [(0, .slice A ps.length c), (2, .int .i64 ((i : Int) + 1)), (3, .int .i64 (j - 1))] w_21 [Value.int .i64 (IntKind.i64.wrap ((i : Int) + 1)) = Value.int .i64 ((i : Int) + 1), Value.int .i64 (IntKind.i64.wrap (j - 1)) = Value.int .i64 (j - 1)] (by kernel_rfl) ⟨wr_i64 (by omega) (by omega), wr_i64 (by omega) (by omega), trivial⟩ ?_
    refine XL_nil ?_
    refine ⟨⟨i + 1, j - 1⟩, by kernel_rfl, ?_, ?_⟩
    · exact ⟨by omega, by omega, hr_22, (World.grownBy.trans (World.grownBy.trans (World.grownBy.trans HG (grown_of_below hb_3 (A.map (·.block)))) hg_16) hg_23)⟩
    · (try dsimp only); omega
  · refine XL_run 1 [(9, .eq (.bool false))] [(0, .slice A ps.length c), (2, .int .i64 (i : Int)), (3, .int .i64 j), (9, .bool false)] wl [Value.bool (decide ((i : Int) < j)) = Value.bool false] (by kernel_rfl) ⟨congrArg Value.bool (decide_eq_false (c_1)), trivial⟩ ?_
    refine XL_nil ?_
    refine X_cond false rfl ?_
    refine X_exit ?_
    refine RX.end_ok (P := Tryd.prog) (fn := Tryd.f23) (N := 28) (R := R_) [] (by kernel_rfl) (hR_ _ _ ?_)
    have hd : revU (0, 0) ps i = ps.reverse := revU_done _ _ _ (by omega) (by omega)
    rw [← hd]
    exact ⟨rfl, HR, HG⟩
theorem edits_ok (A A' : Option Addr) (c c' : Nat) (a b : List Int) (w : World) (ha : (Kd.int .i64).C w A a.length a) (hb : (Kd.int .i64).C w A' b.length b) (hla : a.length ≤ 1024) (hlb : b.length ≤ 1024) :
    Calls Tryd.prog 12 #[.slice A a.length c, .slice A' b.length c'] w fun e w' => e = .returned (.tuple #[.int .i64 (dist a b : Int), .nilIface]) ∧ Below w.heap.size w w' := by
  have hD : dist a b ≤ a.length + b.length := (first_found a b).1
  refine RX.enter Tryd.func12 rfl 15 rfl [(0, .slice A a.length c), (1, .slice A' b.length c')] rfl (by kernel_rfl) (fun R_ hR_ => ?_)
  refine X_seq ?_
  refine X_region ?_
  refine XL_run 2 [] [(0, .slice A a.length c), (1, .slice A' b.length c')] w [] (by kernel_rfl) trivial ?_
  refine XL_nil ?_
  refine X_seq ?_
  refine X_seq ?_
  refine X_region ?_
  refine XL_run 2 [] [(0, .slice A a.length c), (1, .slice A' b.length c'), (6, .slice A a.length c), (7, .slice A' b.length c')] w [] (by kernel_rfl) trivial ?_
  refine XL_call 19 rfl rfl rfl ent19 [.slice A a.length c, .slice A' b.length c'] (by kernel_rfl) (long_any _ _ _ _ a.length b.length _) ?_
  rintro e w_ ⟨rfl, rfl⟩; refine ⟨_, rfl, ?_⟩
  rw [show (decide (1024 < a.length ∨ 1024 < b.length)) = false from decide_eq_false (by omega)]
  refine XL_nil ?_
  refine X_cond false rfl ?_
  refine X_skip ?_
  refine X_seq ?_
  refine X_region ?_
  refine XL_run 2 [] [(10, .slice A a.length c), (11, .slice A' b.length c')] w [] (by kernel_rfl) trivial ?_
  refine XL_call 20 rfl rfl rfl ent20 [.slice A a.length c, .slice A' b.length c'] (by kernel_rfl) (fwd_any _ _ _ _ a b _ ha hb (by omega) (by omega)) ?_
  rintro e w_1 ⟨j, A1, c1, rfl, HF, hb_2⟩; refine ⟨_, rfl, ?_⟩
  refine XL_run 4 [(14, .eq (.int .i64 (((fwd a b (dist a b) j).length : Int) - 1)))] [(4, .int .i64 (((fwd a b (dist a b) j).length : Int) - 1)), (5, .nilIface)] w_1 [Value.int .i64 (IntKind.i64.wrap (((fwd a b (dist a b) j).length : Int) - 1)) = Value.int .i64 (((fwd a b (dist a b) j).length : Int) - 1)] (by kernel_rfl) ⟨wr_i64 (by rw [fwd_length]; omega) (by rw [fwd_length]; omega), trivial⟩ ?_
  refine XL_nil ?_
  refine X_ret ?_
  refine RX.ret_ok (P := Tryd.prog) (fn := Tryd.f12) (N := 15) (R := R_) [.int .i64 (((fwd a b (dist a b) j).length : Int) - 1), .nilIface] (by kernel_rfl) (hR_ _ _ ?_)
  rw [show (((fwd a b (dist a b) j).length : Int) - 1) = (dist a b : Int) from by rw [fwd_length]; omega]
  exact ⟨rfl, hb_2⟩
theorem edits_err (A A' : Option Addr) (c c' : Nat) (n m : Nat) (w : World) (es : List Addr) (hE : Errs w es) (hl : 1024 < n ∨ 1024 < m) :
    Calls Tryd.prog 12 #[.slice A n c, .slice A' m c'] w fun e w' => e = .returned (.tuple #[.int .i64 0, .iface 51 (.pointer (some (errAt es 10)))]) ∧ Below w.heap.size w w' := by
  refine RX.enter Tryd.func12 rfl 15 rfl [(0, .slice A n c), (1, .slice A' m c')] rfl (by kernel_rfl) (fun R_ hR_ => ?_)
  refine X_seq ?_
  refine X_region ?_
  refine XL_run 2 [] [(0, .slice A n c), (1, .slice A' m c')] w [] (by kernel_rfl) trivial ?_
  refine XL_nil ?_
  refine X_seq ?_
  refine X_seq ?_
  refine X_region ?_
  refine XL_run 2 [] [(0, .slice A n c), (1, .slice A' m c'), (6, .slice A n c), (7, .slice A' m c')] w [] (by kernel_rfl) trivial ?_
  refine XL_call 19 rfl rfl rfl ent19 [.slice A n c, .slice A' m c'] (by kernel_rfl) (long_any _ _ _ _ n m _) ?_
  rintro e w_ ⟨rfl, rfl⟩; refine ⟨_, rfl, ?_⟩
  rw [show (decide (1024 < n ∨ 1024 < m)) = true from decide_eq_true (by omega)]
  refine XL_nil ?_
  refine X_cond true rfl ?_
  refine X_seq ?_
  refine X_still (by kernel_rfl) (by kernel_rfl) (fun wd_1 hb_2 hh_3 => ?_)
  refine XS_run 3 [(9, .load (.iface 51 (.pointer (some (errAt es 10)))))] [.iface 51 (.pointer (some (errAt es 10))), .int .i64 0, .iface 51 (.pointer (some (errAt es 10)))] [(4, .int .i64 0), (5, .iface 51 (.pointer (some (errAt es 10))))] [LoadsAs Tryd.prog 27 (⟨0, 0, none⟩) (.iface 51 (.pointer (some (errAt es 10)))) wd_1] (by kernel_rfl) (by kernel_rfl) ⟨loads1 rfl ((hb_2.cell (World.block_lt_of_cell? _ _ (hE.load 10 0 (by decide) (by decide) rfl))).trans (hE.load 10 0 (by decide) (by decide) rfl)), trivial⟩ ?_
  refine XS_nil ?_
  refine X_ret ?_
  refine RX.ret_ok (P := Tryd.prog) (fn := Tryd.f12) (N := 15) (R := R_) [.int .i64 0, .iface 51 (.pointer (some (errAt es 10)))] (by kernel_rfl) (hR_ _ _ ?_)
  exact ⟨rfl, hb_2⟩
theorem length_ok (A A' : Option Addr) (c c' : Nat) (a b : List Int) (w : World) (ha : (Kd.int .i64).C w A a.length a) (hb : (Kd.int .i64).C w A' b.length b) (hla : a.length ≤ 1024) (hlb : b.length ≤ 1024) :
    Calls Tryd.prog 11 #[.slice A a.length c, .slice A' b.length c'] w fun e w' => e = .returned (.tuple #[.int .i64 (Lm a b : Int), .nilIface]) ∧ Below w.heap.size w w' := by
  have hD : dist a b ≤ a.length + b.length := (first_found a b).1
  have hD2 := dist_eq a b
  have hL := L_le a b a.length b.length
  have hL2 : Lm a b = L a b a.length b.length := rfl
  refine RX.enter Tryd.func11 rfl 26 rfl [(0, .slice A a.length c), (1, .slice A' b.length c')] rfl (by kernel_rfl) (fun R_ hR_ => ?_)
  refine X_seq ?_
  refine X_region ?_
  refine XL_run 2 [] [(0, .slice A a.length c), (1, .slice A' b.length c')] w [] (by kernel_rfl) trivial ?_
  refine XL_nil ?_
  refine X_seq ?_
  refine X_region ?_
  refine XL_run 2 [] [(0, .slice A a.length c), (1, .slice A' b.length c'), (9, .slice A a.length c), (10, .slice A' b.length c')] w [] (by kernel_rfl) trivial ?_
  refine XL_call 12 rfl rfl rfl ent12 [.slice A a.length c, .slice A' b.length c'] (by kernel_rfl) (edits_ok _ _ _ _ a b _ ha hb (by omega) (by omega)) ?_
  rintro e w_1 ⟨rfl, hb_2⟩; refine ⟨_, rfl, ?_⟩
  refine XL_run 5 [] [(0, .slice A a.length c), (1, .slice A' b.length c'), (6, .int .i64 (dist a b : Int)), (7, .nilIface)] w_1 [] (by kernel_rfl) trivial ?_
  refine XL_nil ?_
  refine X_seq ?_
  refine X_region ?_
  refine XL_run 9 [(18, .eq (.int .i64 ((a.length : Int) + (b.length : Int)))), (20, .eq (.int .i64 (((a.length : Int) + (b.length : Int)) - (dist a b : Int)))), (21, .eq (.int .i64 (Lm a b : Int)))] [(7, .nilIface), (21, .int .i64 (Lm a b : Int)), (22, .nilIface)] w_1 [Value.int .i64 (IntKind.i64.wrap ((a.length : Int) + (b.length : Int))) = Value.int .i64 ((a.length : Int) + (b.length : Int)), Value.int .i64 (IntKind.i64.wrap (((a.length : Int) + (b.length : Int)) - (dist a b : Int))) = Value.int .i64 (((a.length : Int) + (b.length : Int)) - (dist a b : Int)), Value.int .i64 (IntKind.i64.wrap (Int.tdiv (((a.length : Int) + (b.length : Int)) - (dist a b : Int)) 2)) = Value.int .i64 (Lm a b : Int)] (by kernel_rfl) ⟨wr_i64 (by omega) (by omega), wr_i64 (by omega) (by omega), (by rw [show Int.tdiv (((a.length : Int) + (b.length : Int)) - (dist a b : Int)) 2 = (Lm a b : Int) from by rw [show ((a.length : Int) + (b.length : Int)) - (dist a b : Int) = 2 * (Lm a b : Int) from by omega]; exact Int.mul_tdiv_cancel_left _ (by decide)]; exact wr_i64 (by omega) (by omega)), trivial⟩ ?_
  refine XL_call 24 rfl rfl rfl ent24 [.nilIface] (by kernel_rfl) (one_nil _) ?_
  rintro e w_ ⟨rfl, rfl⟩; refine ⟨_, rfl, ?_⟩
  refine XL_run 4 [(24, .eq (.int .i64 ((Lm a b : Int) * 1)))] [(4, .int .i64 ((Lm a b : Int) * 1)), (5, .nilIface)] w_1 [Value.int .i64 (IntKind.i64.wrap ((Lm a b : Int) * 1)) = Value.int .i64 ((Lm a b : Int) * 1)] (by kernel_rfl) ⟨wr_i64 (by omega) (by omega), trivial⟩ ?_
  refine XL_nil ?_
  refine X_ret ?_
  refine RX.ret_ok (P := Tryd.prog) (fn := Tryd.f11) (N := 26) (R := R_) [.int .i64 ((Lm a b : Int) * 1), .nilIface] (by kernel_rfl) (hR_ _ _ ?_)
  rw [show (Lm a b : Int) * 1 = (Lm a b : Int) from Int.mul_one _]
  exact ⟨rfl, hb_2⟩
theorem length_err (A A' : Option Addr) (c c' : Nat) (n m : Nat) (w : World) (es : List Addr) (hE : Errs w es) (hl : 1024 < n ∨ 1024 < m) (hn : n ≤ 1000000000000) (hm : m ≤ 1000000000000) :
    Calls Tryd.prog 11 #[.slice A n c, .slice A' m c'] w fun e w' => e = .returned (.tuple #[.int .i64 0, .iface 51 (.pointer (some (errAt es 10)))]) ∧ Below w.heap.size w w' := by
  refine RX.enter Tryd.func11 rfl 26 rfl [(0, .slice A n c), (1, .slice A' m c')] rfl (by kernel_rfl) (fun R_ hR_ => ?_)
  refine X_seq ?_
  refine X_region ?_
  refine XL_run 2 [] [(0, .slice A n c), (1, .slice A' m c')] w [] (by kernel_rfl) trivial ?_
  refine XL_nil ?_
  refine X_seq ?_
  refine X_region ?_
  refine XL_run 2 [] [(0, .slice A n c), (1, .slice A' m c'), (9, .slice A n c), (10, .slice A' m c')] w [] (by kernel_rfl) trivial ?_
  refine XL_call 12 rfl rfl rfl ent12 [.slice A n c, .slice A' m c'] (by kernel_rfl) (edits_err _ _ _ _ n m _ es (hE.below (Below.refl _ _)) hl) ?_
  rintro e w_1 ⟨rfl, hb_2⟩; refine ⟨_, rfl, ?_⟩
  refine XL_run 5 [] [(0, .slice A n c), (1, .slice A' m c'), (6, .int .i64 0), (7, .iface 51 (.pointer (some (errAt es 10))))] w_1 [] (by kernel_rfl) trivial ?_
  refine XL_nil ?_
  refine X_seq ?_
  refine X_region ?_
  refine XL_run 9 [(18, .eq (.int .i64 ((n : Int) + (m : Int)))), (20, .eq (.int .i64 (((n : Int) + (m : Int)) - 0)))] [(7, .iface 51 (.pointer (some (errAt es 10)))), (21, .int .i64 (IntKind.i64.wrap (Int.tdiv (((n : Int) + (m : Int)) - 0) 2))), (22, .iface 51 (.pointer (some (errAt es 10))))] w_1 [Value.int .i64 (IntKind.i64.wrap ((n : Int) + (m : Int))) = Value.int .i64 ((n : Int) + (m : Int)), Value.int .i64 (IntKind.i64.wrap (((n : Int) + (m : Int)) - 0)) = Value.int .i64 (((n : Int) + (m : Int)) - 0)] (by kernel_rfl) ⟨wr_i64 (by omega) (by omega), wr_i64 (by omega) (by omega), trivial⟩ ?_
  refine XL_call 24 rfl rfl rfl ent24 [.iface 51 (.pointer (some (errAt es 10)))] (by kernel_rfl) (one_err _ _ _) ?_
  rintro e w_ ⟨rfl, rfl⟩; refine ⟨_, rfl, ?_⟩
  refine XL_run 4 [(24, .eq (.int .i64 ((IntKind.i64.wrap (Int.tdiv (((n : Int) + (m : Int)) - 0) 2)) * 0)))] [(4, .int .i64 ((IntKind.i64.wrap (Int.tdiv (((n : Int) + (m : Int)) - 0) 2)) * 0)), (5, .iface 51 (.pointer (some (errAt es 10))))] w_1 [Value.int .i64 (IntKind.i64.wrap ((IntKind.i64.wrap (Int.tdiv (((n : Int) + (m : Int)) - 0) 2)) * 0)) = Value.int .i64 ((IntKind.i64.wrap (Int.tdiv (((n : Int) + (m : Int)) - 0) 2)) * 0)] (by kernel_rfl) ⟨wr_i64 (by omega) (by omega), trivial⟩ ?_
  refine XL_nil ?_
  refine X_ret ?_
  refine RX.ret_ok (P := Tryd.prog) (fn := Tryd.f11) (N := 26) (R := R_) [.int .i64 ((IntKind.i64.wrap (Int.tdiv (((n : Int) + (m : Int)) - 0) 2)) * 0), .iface 51 (.pointer (some (errAt es 10)))] (by kernel_rfl) (hR_ _ _ ?_)
  rw [show (IntKind.i64.wrap (Int.tdiv (((n : Int) + (m : Int)) - 0) 2)) * 0 = 0 from Int.mul_zero _]
  exact ⟨rfl, hb_2⟩
theorem match_err (A A' : Option Addr) (c c' : Nat) (n m : Nat) (w : World) (es : List Addr) (hE : Errs w es) (hl : 1024 < n ∨ 1024 < m) :
    Calls Tryd.prog 10 #[.slice A n c, .slice A' m c'] w fun e w' => e = .returned (.tuple #[.slice none 0 0, .iface 51 (.pointer (some (errAt es 10)))]) ∧ Below w.heap.size w w' := by
  refine RX.enter Tryd.func10 rfl 79 rfl [(0, .slice A n c), (1, .slice A' m c')] rfl (by kernel_rfl) (fun R_ hR_ => ?_)
  refine X_seq ?_
  refine X_region ?_
  refine XL_run 2 [] [(0, .slice A n c), (1, .slice A' m c')] w [] (by kernel_rfl) trivial ?_
  refine XL_nil ?_
  refine X_seq ?_
  refine X_seq ?_
  refine X_region ?_
  refine XL_run 2 [] [(0, .slice A n c), (1, .slice A' m c'), (13, .slice A n c), (14, .slice A' m c')] w [] (by kernel_rfl) trivial ?_
  refine XL_call 19 rfl rfl rfl ent19 [.slice A n c, .slice A' m c'] (by kernel_rfl) (long_any _ _ _ _ n m _) ?_
  rintro e w_ ⟨rfl, rfl⟩; refine ⟨_, rfl, ?_⟩
  rw [show (decide (1024 < n ∨ 1024 < m)) = true from decide_eq_true (by omega)]
  refine XL_nil ?_
  refine X_cond true rfl ?_
  refine X_seq ?_
  refine X_still (by kernel_rfl) (by kernel_rfl) (fun wd_1 hb_2 hh_3 => ?_)
  refine XS_run 3 [(16, .load (.iface 51 (.pointer (some (errAt es 10)))))] [.iface 51 (.pointer (some (errAt es 10))), .slice none 0 0, .iface 51 (.pointer (some (errAt es 10)))] [(4, .slice none 0 0), (5, .iface 51 (.pointer (some (errAt es 10))))] [LoadsAs Tryd.prog 27 (⟨0, 0, none⟩) (.iface 51 (.pointer (some (errAt es 10)))) wd_1] (by kernel_rfl) (by kernel_rfl) ⟨loads1 rfl ((hb_2.cell (World.block_lt_of_cell? _ _ (hE.load 10 0 (by decide) (by decide) rfl))).trans (hE.load 10 0 (by decide) (by decide) rfl)), trivial⟩ ?_
  refine XS_nil ?_
  refine X_ret ?_
  refine RX.ret_ok (P := Tryd.prog) (fn := Tryd.f10) (N := 79) (R := R_) [.slice none 0 0, .iface 51 (.pointer (some (errAt es 10)))] (by kernel_rfl) (hR_ _ _ ?_)
  exact ⟨rfl, hb_2⟩
theorem match_ok (A A' : Option Addr) (c c' : Nat) (a b : List Int) (w : World) (ha : (Kd.int .i64).C w A a.length a) (hb : (Kd.int .i64).C w A' b.length b) (hla : a.length ≤ 1024) (hlb : b.length ≤ 1024) :
    Calls Tryd.prog 10 #[.slice A a.length c, .slice A' b.length c'] w fun e w' => ∃ ps A1 c1, e = .returned (.tuple #[.slice A1 ps.length c1, .nilIface]) ∧ kPair.R 35 w' w.heap.size (OkFrom w.heap.size) (.slice A1 ps.length c1) ps ∧
      Mt a b ps ∧ ps.length = Lm a b ∧ Below w.heap.size w w' := by
  have hD : dist a b ≤ a.length + b.length := (first_found a b).1
  have hD2 := dist_eq a b
  have hend : (-(dist a b : Int) ≤ (a.length : Int) - b.length ∧ (a.length : Int) - b.length ≤ dist a b ∧ ((a.length : Int) - b.length + dist a b) % 2 = 0 ∧ (a.length : Int) = e a b (dist a b : Int).toNat ((a.length : Int) - b.length)) := by
    obtain ⟨_, j, h2, _, _, h5⟩ := first_found a b
    obtain ⟨_, h7⟩ := found_Rch a b _ j h2 h5
    have h8 := h5.1
    rw [h7] at h8
    exact ⟨by omega, by omega, by omega, by rw [Int.toNat_natCast]; exact h8.symm⟩
  refine RX.enter Tryd.func10 rfl 79 rfl [(0, .slice A a.length c), (1, .slice A' b.length c')] rfl (by kernel_rfl) (fun R_ hR_ => ?_)
  refine X_seq ?_
  refine X_region ?_
  refine XL_run 2 [] [(0, .slice A a.length c), (1, .slice A' b.length c')] w [] (by kernel_rfl) trivial ?_
  refine XL_nil ?_
  refine X_seq ?_
  refine X_seq ?_
  refine X_region ?_
  refine XL_run 2 [] [(0, .slice A a.length c), (1, .slice A' b.length c'), (13, .slice A a.length c), (14, .slice A' b.length c')] w [] (by kernel_rfl) trivial ?_
  refine XL_call 19 rfl rfl rfl ent19 [.slice A a.length c, .slice A' b.length c'] (by kernel_rfl) (long_any _ _ _ _ a.length b.length _) ?_
  rintro e w_ ⟨rfl, rfl⟩; refine ⟨_, rfl, ?_⟩
  rw [show (decide (1024 < a.length ∨ 1024 < b.length)) = false from decide_eq_false (by omega)]
  refine XL_nil ?_
  refine X_cond false rfl ?_
  refine X_skip ?_
  refine X_seq ?_
  refine X_region ?_
  refine XL_run 2 [] [(0, .slice A a.length c), (1, .slice A' b.length c'), (17, .slice A a.length c), (18, .slice A' b.length c')] w [] (by kernel_rfl) trivial ?_
  refine XL_call 20 rfl rfl rfl ent20 [.slice A a.length c, .slice A' b.length c'] (by kernel_rfl) (fwd_any _ _ _ _ a b _ ha hb (by omega) (by omega)) ?_
  rintro e w_1 ⟨j, A1, c1, rfl, HF, hb_2⟩; refine ⟨_, rfl, ?_⟩
  refine XL_run 1 [] [(0, .slice A a.length c), (1, .slice A' b.length c'), (6, .slice A1 ((fwd a b (dist a b) j).length) c1)] w_1 [] (by kernel_rfl) trivial ?_
  refine XL_nil ?_
  refine X_seq ?_
  refine X_region ?_
  refine XL_run 6 [] [(0, .slice A a.length c), (1, .slice A' b.length c'), (6, .slice A1 ((fwd a b (dist a b) j).length) c1), (7, .int .i64 (a.length : Int)), (8, .int .i64 (b.length : Int))] w_1 [] (by kernel_rfl) trivial ?_
  refine XL_nil ?_
  refine X_seq ?_
  refine X_region ?_
  refine XL_run 1 [] [(0, .slice A a.length c), (1, .slice A' b.length c'), (6, .slice A1 ((fwd a b (dist a b) j).length) c1), (7, .int .i64 (a.length : Int)), (8, .int .i64 (b.length : Int)), (9, .slice none 0 0)] w_1 [] (by kernel_rfl) trivial ?_
  refine XL_nil ?_
  refine X_seq ?_
  refine X_seq ?_
  refine X_region ?_
  refine XL_run 4 [(26, .eq (.int .i64 (((fwd a b (dist a b) j).length : Int) - 1)))] [(0, .slice A a.length c), (1, .slice A' b.length c'), (6, .slice A1 ((fwd a b (dist a b) j).length) c1), (7, .int .i64 (a.length : Int)), (8, .int .i64 (b.length : Int)), (9, .slice none 0 0), (10, .int .i64 (((fwd a b (dist a b) j).length : Int) - 1))] w_1 [Value.int .i64 (IntKind.i64.wrap (((fwd a b (dist a b) j).length : Int) - 1)) = Value.int .i64 (((fwd a b (dist a b) j).length : Int) - 1)] (by kernel_rfl) ⟨wr_i64 (by rw [fwd_length]; omega) (by rw [fwd_length]; omega), trivial⟩ ?_
  refine XL_nil ?_
  refine X_block ?_
  refine X_loop (ι := Int × Int × Int × List (Int × Int) × Option Addr × Nat) (fun ⟨d, x, y, ps, A2, c2⟩ => [(0, .slice A a.length c), (1, .slice A' b.length c'), (6, .slice A1 ((fwd a b (dist a b) j).length) c1), (7, .int .i64 x), (8, .int .i64 y), (9, .slice A2 ps.length c2), (10, .int .i64 d)]) (fun ⟨d, x, y, ps, A2, c2⟩ wo => -1 ≤ d ∧ d ≤ dist a b ∧ (d = -1 → x = 0 ∧ y = 0) ∧ (0 ≤ d → -d ≤ x - y ∧ x - y ≤ d ∧ (x - y + d) % 2 = 0 ∧ x = e a b d.toNat (x - y) ∧ 0 ≤ x ∧ 0 ≤ y) ∧ x ≤ a.length ∧ y ≤ b.length ∧ Bk a b x y ps ∧ ((a.length : Int) + b.length = x + y + dist a b - max d 0 + 2 * (ps.length : Int)) ∧ kPair.R 35 wo w_1.heap.size (OkFrom w_1.heap.size) (.slice A2 ps.length c2) ps ∧ Below w_1.heap.size w_1 wo) (fun ⟨d, x, y, ps, A2, c2⟩ => (d + 1).toNat) ⟨((fwd a b (dist a b) j).length : Int) - 1, a.length, b.length, [], none, 0⟩ (by have hfl := fwd_length a b (dist a b) j; refine ⟨by omega, by omega, fun h => by omega, fun _ => ⟨by omega, by omega, by omega, ?_, by omega, by omega⟩, by omega, by omega, Bk_nil _ _ _ _, ?_, Kd.R_nil _ _ _ _ _, (Below.refl _ _)⟩; (· rw [show ((fwd a b (dist a b) j).length : Int) - 1 = (dist a b : Int) from by omega]; exact hend.2.2.2); (· show (a.length : Int) + b.length = a.length + b.length + dist a b - max (((fwd a b (dist a b) j).length : Int) - 1) 0 + 2 * (0 : Int); omega)) (by kernel_rfl) ?_
  rintro ⟨d, x, y, ps, A2, c2⟩ wo ⟨hd1, hd2, hm1, hm2, hx, hy, hK, hC, HR, HB⟩
  refine X_seq ?_
  refine X_seq ?_
  refine X_region ?_
  refine XL_run 1 [] [(0, .slice A a.length c), (1, .slice A' b.length c'), (6, .slice A1 ((fwd a b (dist a b) j).length) c1), (7, .int .i64 x), (8, .int .i64 y), (9, .slice A2 ps.length c2), (10, .int .i64 d), (27, .int .i64 d)] wo [] (by kernel_rfl) trivial ?_
  by_cases c_3 : d ≥ 0
  · refine XL_run 1 [(28, .eq (.bool true))] [(0, .slice A a.length c), (1, .slice A' b.length c'), (6, .slice A1 ((fwd a b (dist a b) j).length) c1), (7, .int .i64 x), (8, .int .i64 y), (9, .slice A2 ps.length c2), (10, .int .i64 d), (28, .bool true)] wo [Value.bool (decide (d ≥ 0)) = Value.bool true] (by kernel_rfl) ⟨congrArg Value.bool (decide_eq_true (c_3)), trivial⟩ ?_
    refine XL_nil ?_
    refine X_cond true rfl ?_
    refine X_skip ?_
    refine X_seq ?_
    refine X_block ?_
    refine X_seq ?_
    refine X_region ?_
    refine XL_run 4 [(33, .eq (.int .i64 (x - y)))] [(0, .slice A a.length c), (1, .slice A' b.length c'), (6, .slice A1 ((fwd a b (dist a b) j).length) c1), (7, .int .i64 x), (8, .int .i64 y), (9, .slice A2 ps.length c2), (10, .int .i64 d), (11, .int .i64 (x - y))] wo [Value.int .i64 (IntKind.i64.wrap (x - y)) = Value.int .i64 (x - y)] (by kernel_rfl) ⟨wr_i64 (by omega) (by omega), trivial⟩ ?_
    refine XL_nil ?_
    refine X_seq ?_
    refine X_region ?_
    refine XL_run 1 [] [(0, .slice A a.length c), (1, .slice A' b.length c'), (6, .slice A1 ((fwd a b (dist a b) j).length) c1), (7, .int .i64 x), (8, .int .i64 y), (9, .slice A2 ps.length c2), (10, .int .i64 d), (11, .int .i64 (x - y)), (12, .int .i64 0)] wo [] (by kernel_rfl) trivial ?_
    refine XL_nil ?_
    refine X_join (ι := Int) (fun r => [(0, .slice A a.length c), (1, .slice A' b.length c'), (6, .slice A1 ((fwd a b (dist a b) j).length) c1), (7, .int .i64 x), (8, .int .i64 y), (9, .slice A2 ps.length c2), (10, .int .i64 d), (11, .int .i64 (x - y)), (12, .int .i64 r)]) (fun r wj => 0 ≤ r ∧ r ≤ x ∧ 0 ≤ r - (x - y) ∧ (∀ i, r ≤ i → i < x → Eqs a b (x - y) i) ∧ (0 < d → ∀ p : Int × Int, beforeP (rows a b (d - 1).toNat) d (x - y) r (r - (x - y)) = p → 0 ≤ p.1 ∧ 0 ≤ p.2 ∧ p.1 ≤ r ∧ p.2 ≤ r - (x - y) ∧ p.1 + p.2 + 1 = r + (r - (x - y)) ∧ -(d - 1) ≤ p.1 - p.2 ∧ p.1 - p.2 ≤ d - 1 ∧ (p.1 - p.2 + (d - 1)) % 2 = 0 ∧ p.1 = e a b (d - 1).toNat (p.1 - p.2)) ∧ (d = 0 → r = 0 ∧ x = y) ∧ Below wo.heap.size wo wj) ?_ ?_
    · refine X_seq ?_
      refine X_region ?_
      refine XL_run 1 [] [(0, .slice A a.length c), (1, .slice A' b.length c'), (6, .slice A1 ((fwd a b (dist a b) j).length) c1), (7, .int .i64 x), (8, .int .i64 y), (9, .slice A2 ps.length c2), (10, .int .i64 d), (11, .int .i64 (x - y)), (12, .int .i64 0), (34, .int .i64 d)] wo [] (by kernel_rfl) trivial ?_
      by_cases c_4 : d > 0
      · refine XL_run 1 [(35, .eq (.bool true))] [(0, .slice A a.length c), (1, .slice A' b.length c'), (6, .slice A1 ((fwd a b (dist a b) j).length) c1), (7, .int .i64 x), (8, .int .i64 y), (9, .slice A2 ps.length c2), (10, .int .i64 d), (11, .int .i64 (x - y)), (12, .int .i64 0), (35, .bool true)] wo [Value.bool (decide (d > 0)) = Value.bool true] (by kernel_rfl) ⟨congrArg Value.bool (decide_eq_true (c_4)), trivial⟩ ?_
        refine XL_nil ?_
        refine X_cond true rfl ?_
        refine X_region ?_
        refine XL_run 3 [(38, .eq (.int .i64 (d - 1)))] [(0, .slice A a.length c), (1, .slice A' b.length c'), (6, .slice A1 ((fwd a b (dist a b) j).length) c1), (7, .int .i64 x), (8, .int .i64 y), (9, .slice A2 ps.length c2), (10, .int .i64 d), (11, .int .i64 (x - y)), (36, .slice A1 ((fwd a b (dist a b) j).length) c1), (38, .int .i64 (d - 1))] wo [Value.int .i64 (IntKind.i64.wrap (d - 1)) = Value.int .i64 (d - 1)] (by kernel_rfl) ⟨wr_i64 (by omega) (by omega), trivial⟩ ?_
        obtain ⟨ad_5, B_8, c_9, ha_6, hc_7, hl_10, hC_11⟩ := Kd.atRow (Kd.R_C (Kd.R_below HF HB)) (i := d - 1) (by omega) (by have hfl := fwd_length a b (dist a b) j; omega)
        refine XL_run 8 [(39, .idx ad_5), (40, .load (.slice B_8 (((fwd a b (dist a b) j).getD (d - 1).toNat []).length) c_9))] [(0, .slice A a.length c), (1, .slice A' b.length c'), (6, .slice A1 ((fwd a b (dist a b) j).length) c1), (7, .int .i64 x), (8, .int .i64 y), (9, .slice A2 ps.length c2), (10, .int .i64 d), (11, .int .i64 (x - y)), (40, .slice B_8 (((fwd a b (dist a b) j).getD (d - 1).toNat []).length) c_9), (41, .int .i64 d), (42, .int .i64 (x - y)), (44, .int .i64 (a.length : Int)), (46, .int .i64 (b.length : Int))] wo [A1 = some ad_5, (0 : Int) ≤ d - 1, d - 1 < ((fwd a b (dist a b) j).length : Int), LoadsAs Tryd.prog 22 (ad_5.add ((d - 1).toNat * 1)) (.slice B_8 (((fwd a b (dist a b) j).getD (d - 1).toNat []).length) c_9) wo] (by kernel_rfl) ⟨ha_6, (by omega), (by have hfl := fwd_length a b (dist a b) j; omega), loads1 rfl (elem_cell hc_7 0 _ rfl), trivial⟩ ?_
        have hrow : (fwd a b (dist a b) j).getD (d - 1).toNat [] = rows a b (d - 1).toNat := fwd_get _ _ _ _ _ (by omega)
        refine XL_call 21 rfl rfl rfl ent21 [.slice B_8 (((fwd a b (dist a b) j).getD (d - 1).toNat []).length) c_9, .int .i64 d, .int .i64 (x - y), .int .i64 (a.length : Int), .int .i64 (b.length : Int)] (by kernel_rfl) (reach_any B_8 c_9 ((fwd a b (dist a b) j).getD (d - 1).toNat []) d (x - y) a.length b.length _ hC_11 (fun q hq => by rw [hrow] at hq ⊢; have := rows_bd a b (d - 1).toNat q hq; omega) (by omega) (by omega) (by omega)) ?_
        rintro e w_12 ⟨rfl, hb_13⟩; refine ⟨_, rfl, ?_⟩
        rw [hrow]
        refine XL_run 1 [] [(0, .slice A a.length c), (1, .slice A' b.length c'), (6, .slice A1 ((fwd a b (dist a b) j).length) c1), (7, .int .i64 x), (8, .int .i64 y), (9, .slice A2 ps.length c2), (10, .int .i64 d), (11, .int .i64 (x - y)), (12, .int .i64 (reachP (rows a b (d - 1).toNat) d (x - y) a.length b.length))] w_12 [] (by kernel_rfl) trivial ?_
        refine XL_nil ?_
        obtain ⟨z1, z2, z3, z4, z5, z6⟩ := hm2 (by omega)
        obtain ⟨y1, y2, y3, y4, y5⟩ := back a b d x y (by omega) z1 z2 z3 z4 z5 _ rfl
        exact ⟨reachP (rows a b (d - 1).toNat) d (x - y) a.length b.length, by kernel_rfl, ⟨y1, y2, y3, y4, fun _ => y5, fun h => by omega, hb_13⟩⟩
      · refine XL_run 1 [(35, .eq (.bool false))] [(0, .slice A a.length c), (1, .slice A' b.length c'), (6, .slice A1 ((fwd a b (dist a b) j).length) c1), (7, .int .i64 x), (8, .int .i64 y), (9, .slice A2 ps.length c2), (10, .int .i64 d), (11, .int .i64 (x - y)), (12, .int .i64 0), (35, .bool false)] wo [Value.bool (decide (d > 0)) = Value.bool false] (by kernel_rfl) ⟨congrArg Value.bool (decide_eq_false (c_4)), trivial⟩ ?_
        refine XL_nil ?_
        refine X_cond false rfl ?_
        refine X_skip ?_
        obtain rfl : d = 0 := by omega
        obtain ⟨z1, z2, z3, z4, z5, z6⟩ := hm2 (by omega)
        have z7 : x - y = 0 := by omega
        rw [z7] at z4
        obtain ⟨y1, y2⟩ := back_zero a b x z4
        exact ⟨0, by kernel_rfl, ⟨by omega, by omega, by omega, by rw [z7]; exact y2, fun h => by omega, fun _ => by omega, (Below.refl _ _)⟩⟩
    · rintro r wj ⟨hr1, hr2, hr3, hr4, hr5, hr6, HBj⟩
      refine X_seq ?_
      refine X_block ?_
      refine X_loop (ι := Int × Int × List (Int × Int) × Option Addr × Nat) (fun ⟨x1, y1, qs, A3, c3⟩ => [(0, .slice A a.length c), (1, .slice A' b.length c'), (6, .slice A1 ((fwd a b (dist a b) j).length) c1), (7, .int .i64 x1), (8, .int .i64 y1), (9, .slice A3 qs.length c3), (10, .int .i64 d), (11, .int .i64 (x - y)), (12, .int .i64 r)]) (fun ⟨x1, y1, qs, A3, c3⟩ wi => r ≤ x1 ∧ x1 ≤ x ∧ x1 - y1 = x - y ∧ Bk a b x1 y1 qs ∧ ((a.length : Int) + b.length = x1 + y1 + dist a b - max d 0 + 2 * (qs.length : Int)) ∧ kPair.R 35 wi w_1.heap.size (OkFrom w_1.heap.size) (.slice A3 qs.length c3) qs ∧ Below w_1.heap.size w_1 wi) (fun ⟨x1, y1, qs, A3, c3⟩ => (x1 - r).toNat) ⟨x, y, ps, A2, c2⟩ ⟨by omega, by omega, by omega, hK, by omega, (Kd.R_below HR HBj), (bt HB HBj)⟩ (by kernel_rfl) ?_
      rintro ⟨x1, y1, qs, A3, c3⟩ wi ⟨hi1, hi2, hi3, hK1, hC1, HRi, HBi⟩
      refine X_seq ?_
      refine X_seq ?_
      refine X_region ?_
      refine XL_run 2 [] [(0, .slice A a.length c), (1, .slice A' b.length c'), (6, .slice A1 ((fwd a b (dist a b) j).length) c1), (7, .int .i64 x1), (8, .int .i64 y1), (9, .slice A3 qs.length c3), (10, .int .i64 d), (11, .int .i64 (x - y)), (12, .int .i64 r), (48, .int .i64 x1), (49, .int .i64 r)] wi [] (by kernel_rfl) trivial ?_
      by_cases c_14 : x1 > r
      · refine XL_run 1 [(50, .eq (.bool true))] [(0, .slice A a.length c), (1, .slice A' b.length c'), (6, .slice A1 ((fwd a b (dist a b) j).length) c1), (7, .int .i64 x1), (8, .int .i64 y1), (9, .slice A3 qs.length c3), (10, .int .i64 d), (11, .int .i64 (x - y)), (12, .int .i64 r), (50, .bool true)] wi [Value.bool (decide (x1 > r)) = Value.bool true] (by kernel_rfl) ⟨congrArg Value.bool (decide_eq_true (c_14)), trivial⟩ ?_
        refine XL_nil ?_
        refine X_cond true rfl ?_
        refine X_skip ?_
        refine X_block ?_
        refine X_seq ?_
        refine X_region ?_
        refine XL_run 3 [(52, .eq (.int .i64 (x1 - 1)))] [(0, .slice A a.length c), (1, .slice A' b.length c'), (6, .slice A1 ((fwd a b (dist a b) j).length) c1), (7, .int .i64 (x1 - 1)), (8, .int .i64 y1), (9, .slice A3 qs.length c3), (10, .int .i64 d), (11, .int .i64 (x - y)), (12, .int .i64 r)] wi [Value.int .i64 (IntKind.i64.wrap (x1 - 1)) = Value.int .i64 (x1 - 1)] (by kernel_rfl) ⟨wr_i64 (by omega) (by omega), trivial⟩ ?_
        refine XL_nil ?_
        refine X_seq ?_
        refine X_region ?_
        refine XL_run 3 [(54, .eq (.int .i64 (y1 - 1)))] [(0, .slice A a.length c), (1, .slice A' b.length c'), (6, .slice A1 ((fwd a b (dist a b) j).length) c1), (7, .int .i64 (x1 - 1)), (8, .int .i64 (y1 - 1)), (9, .slice A3 qs.length c3), (10, .int .i64 d), (11, .int .i64 (x - y)), (12, .int .i64 r)] wi [Value.int .i64 (IntKind.i64.wrap (y1 - 1)) = Value.int .i64 (y1 - 1)] (by kernel_rfl) ⟨wr_i64 (by omega) (by omega), trivial⟩ ?_
        refine XL_nil ?_
        refine X_region ?_
        refine XL_run 5 [] [(0, .slice A a.length c), (1, .slice A' b.length c'), (6, .slice A1 ((fwd a b (dist a b) j).length) c1), (7, .int .i64 (x1 - 1)), (8, .int .i64 (y1 - 1)), (10, .int .i64 d), (11, .int .i64 (x - y)), (12, .int .i64 r), (55, .slice A3 qs.length c3), (59, .slice (some ⟨wi.heap.size, 0, none⟩) 1 1)] (wi.alloc (.cells #[.int .i64 (x1 - 1), .int .i64 (y1 - 1)] 35)) [] (by kernel_rfl) trivial ?_
        obtain ⟨w_15, hw_19, hb_16, hk_17, hz_18⟩ := new_world wi #[.int .i64 (x1 - 1), .int .i64 (y1 - 1)] 35
        rw [hw_19]
        rw [← hw_19]
        refine XL_append kPair rfl rfl rfl w_1.heap.size 35 (.agg #[.int .i64 0, .int .i64 0]) 16 Tryd.underlying25 info35 rfl (by decide) (by omega) qs (x1 - 1, y1 - 1) [.int .i64 (x1 - 1), .int .i64 (y1 - 1)] (fun _ => False) (by kernel_rfl) (kPair_M _ _ _ _) (fun _ h => h.elim) HRi (HBi).size (by first | omega | (simp; omega)) ?_
        intro A_20 c_21 w_22 hr_23 hc_24 hg_25 hl_26 ha_27
        refine XL_run 1 [] [(0, .slice A a.length c), (1, .slice A' b.length c'), (6, .slice A1 ((fwd a b (dist a b) j).length) c1), (7, .int .i64 (x1 - 1)), (8, .int .i64 (y1 - 1)), (9, .slice A_20 ((qs ++ [(x1 - 1, y1 - 1)]).length) c_21), (10, .int .i64 d), (11, .int .i64 (x - y)), (12, .int .i64 r)] w_22 [] (by kernel_rfl) trivial ?_
        refine XL_nil ?_
        refine ⟨⟨x1 - 1, y1 - 1, (qs ++ [(x1 - 1, y1 - 1)]), A_20, c_21⟩, by kernel_rfl, ?_, ?_⟩
        · refine ⟨by omega, by omega, by omega, Bk_push hK1 (k := x - y) (by omega) (hr4 _ (by omega) (by omega)) (by omega) (by omega), ?_, hr_23, (bgo HBi hg_25 hl_26 (Nat.le_refl _))⟩
          rw [List.length_append]; simp only [List.length_cons, List.length_nil]; omega
        · (try dsimp only); omega
      · refine XL_run 1 [(50, .eq (.bool false))] [(0, .slice A a.length c), (1, .slice A' b.length c'), (6, .slice A1 ((fwd a b (dist a b) j).length) c1), (7, .int .i64 x1), (8, .int .i64 y1), (9, .slice A3 qs.length c3), (10, .int .i64 d), (11, .int .i64 (x - y)), (12, .int .i64 r), (50, .bool false)] wi [Value.bool (decide (x1 > r)) = Value.bool false] (by kernel_rfl) ⟨congrArg Value.bool (decide_eq_false (c_14)), trivial⟩ ?_
        refine XL_nil ?_
        refine X_cond false rfl ?_
        refine X_exit ?_
        refine X_seq ?_
        refine X_region ?_
        refine XL_run 1 [] [(0, .slice A a.length c), (1, .slice A' b.length c'), (6, .slice A1 ((fwd a b (dist a b) j).length) c1), (7, .int .i64 x1), (8, .int .i64 y1), (9, .slice A3 qs.length c3), (10, .int .i64 d), (11, .int .i64 (x - y)), (61, .int .i64 d)] wi [] (by kernel_rfl) trivial ?_
        by_cases c_28 : d > 0
        · refine XL_run 1 [(62, .eq (.bool true))] [(0, .slice A a.length c), (1, .slice A' b.length c'), (6, .slice A1 ((fwd a b (dist a b) j).length) c1), (7, .int .i64 x1), (8, .int .i64 y1), (9, .slice A3 qs.length c3), (10, .int .i64 d), (11, .int .i64 (x - y)), (62, .bool true)] wi [Value.bool (decide (d > 0)) = Value.bool true] (by kernel_rfl) ⟨congrArg Value.bool (decide_eq_true (c_28)), trivial⟩ ?_
          refine XL_nil ?_
          refine X_cond true rfl ?_
          refine X_region ?_
          refine XL_run 3 [(66, .eq (.int .i64 (d - 1)))] [(0, .slice A a.length c), (1, .slice A' b.length c'), (6, .slice A1 ((fwd a b (dist a b) j).length) c1), (7, .int .i64 x1), (8, .int .i64 y1), (9, .slice A3 qs.length c3), (10, .int .i64 d), (11, .int .i64 (x - y)), (64, .slice A1 ((fwd a b (dist a b) j).length) c1), (66, .int .i64 (d - 1))] wi [Value.int .i64 (IntKind.i64.wrap (d - 1)) = Value.int .i64 (d - 1)] (by kernel_rfl) ⟨wr_i64 (by omega) (by omega), trivial⟩ ?_
          obtain ⟨ad_29, B_32, c_33, ha_30, hc_31, hl_34, hC_35⟩ := Kd.atRow (Kd.R_C (Kd.R_below HF HBi)) (i := d - 1) (by omega) (by have hfl := fwd_length a b (dist a b) j; omega)
          refine XL_run 6 [(67, .idx ad_29), (68, .load (.slice B_32 (((fwd a b (dist a b) j).getD (d - 1).toNat []).length) c_33))] [(0, .slice A a.length c), (1, .slice A' b.length c'), (6, .slice A1 ((fwd a b (dist a b) j).length) c1), (9, .slice A3 qs.length c3), (10, .int .i64 d), (68, .slice B_32 (((fwd a b (dist a b) j).getD (d - 1).toNat []).length) c_33), (69, .int .i64 d), (70, .int .i64 (x - y)), (71, .int .i64 x1), (72, .int .i64 y1)] wi [A1 = some ad_29, (0 : Int) ≤ d - 1, d - 1 < ((fwd a b (dist a b) j).length : Int), LoadsAs Tryd.prog 22 (ad_29.add ((d - 1).toNat * 1)) (.slice B_32 (((fwd a b (dist a b) j).getD (d - 1).toNat []).length) c_33) wi] (by kernel_rfl) ⟨ha_30, (by omega), (by have hfl := fwd_length a b (dist a b) j; omega), loads1 rfl (elem_cell hc_31 0 _ rfl), trivial⟩ ?_
          have hrow : (fwd a b (dist a b) j).getD (d - 1).toNat [] = rows a b (d - 1).toNat := fwd_get _ _ _ _ _ (by omega)
          refine XL_call 22 rfl rfl rfl ent22 [.slice B_32 (((fwd a b (dist a b) j).getD (d - 1).toNat []).length) c_33, .int .i64 d, .int .i64 (x - y), .int .i64 x1, .int .i64 y1] (by kernel_rfl) (before_any B_32 c_33 ((fwd a b (dist a b) j).getD (d - 1).toNat []) d (x - y) x1 y1 _ hC_35 (fun q hq => by rw [hrow] at hq ⊢; have := rows_bd a b (d - 1).toNat q hq; omega) (by omega) (by omega) (by omega)) ?_
          rintro e w_ ⟨rfl, rfl⟩; refine ⟨_, rfl, ?_⟩
          rw [hrow]
          obtain ⟨p, hp⟩ : ∃ p, beforeP (rows a b (d - 1).toNat) d (x - y) x1 y1 = p := ⟨_, rfl⟩
          rw [hp]
          have hq := hr5 (by omega) p (by rw [← hp]; congr 1 <;> omega)
          refine XL_run 5 [] [(0, .slice A a.length c), (1, .slice A' b.length c'), (6, .slice A1 ((fwd a b (dist a b) j).length) c1), (7, .int .i64 p.1), (8, .int .i64 p.2), (9, .slice A3 qs.length c3), (10, .int .i64 d)] wi [] (by kernel_rfl) trivial ?_
          refine XL_nil ?_
          refine X_region ?_
          refine XL_run 3 [(30, .eq (.int .i64 (d - 1)))] [(0, .slice A a.length c), (1, .slice A' b.length c'), (6, .slice A1 ((fwd a b (dist a b) j).length) c1), (7, .int .i64 p.1), (8, .int .i64 p.2), (9, .slice A3 qs.length c3), (10, .int .i64 (d - 1))] wi [Value.int .i64 (IntKind.i64.wrap (d - 1)) = Value.int .i64 (d - 1)] (by kernel_rfl) ⟨wr_i64 (by omega) (by omega), trivial⟩ ?_
          refine XL_nil ?_
          refine ⟨⟨d - 1, p.1, p.2, qs, A3, c3⟩, by kernel_rfl, ?_, ?_⟩
          · exact ⟨by omega, by omega, fun h => by omega, fun h => ⟨by omega, by omega, by omega, hq.2.2.2.2.2.2.2.2, hq.1, hq.2.1⟩, by omega, by omega, Bk_mono hK1 (by omega) (by omega), by omega, HRi, HBi⟩
          · (try dsimp only); omega
        · refine XL_run 1 [(62, .eq (.bool false))] [(0, .slice A a.length c), (1, .slice A' b.length c'), (6, .slice A1 ((fwd a b (dist a b) j).length) c1), (7, .int .i64 x1), (8, .int .i64 y1), (9, .slice A3 qs.length c3), (10, .int .i64 d), (11, .int .i64 (x - y)), (62, .bool false)] wi [Value.bool (decide (d > 0)) = Value.bool false] (by kernel_rfl) ⟨congrArg Value.bool (decide_eq_false (c_28)), trivial⟩ ?_
          refine XL_nil ?_
          refine X_cond false rfl ?_
          refine X_skip ?_
          refine X_region ?_
          refine XL_run 3 [(30, .eq (.int .i64 (d - 1)))] [(0, .slice A a.length c), (1, .slice A' b.length c'), (6, .slice A1 ((fwd a b (dist a b) j).length) c1), (7, .int .i64 x1), (8, .int .i64 y1), (9, .slice A3 qs.length c3), (10, .int .i64 (d - 1))] wi [Value.int .i64 (IntKind.i64.wrap (d - 1)) = Value.int .i64 (d - 1)] (by kernel_rfl) ⟨wr_i64 (by omega) (by omega), trivial⟩ ?_
          refine XL_nil ?_
          refine ⟨⟨d - 1, x1, y1, qs, A3, c3⟩, by kernel_rfl, ?_, ?_⟩
          · exact ⟨by omega, by omega, fun h => by omega, fun h => by omega, by omega, by omega, hK1, by omega, HRi, HBi⟩
          · (try dsimp only); omega
  · refine XL_run 1 [(28, .eq (.bool false))] [(0, .slice A a.length c), (1, .slice A' b.length c'), (6, .slice A1 ((fwd a b (dist a b) j).length) c1), (7, .int .i64 x), (8, .int .i64 y), (9, .slice A2 ps.length c2), (10, .int .i64 d), (28, .bool false)] wo [Value.bool (decide (d ≥ 0)) = Value.bool false] (by kernel_rfl) ⟨congrArg Value.bool (decide_eq_false (c_3)), trivial⟩ ?_
    refine XL_nil ?_
    refine X_cond false rfl ?_
    refine X_exit ?_
    refine X_seq ?_
    refine X_region ?_
    refine XL_run 1 [] [(9, .slice A2 ps.length c2), (76, .slice A2 ps.length c2)] wo [] (by kernel_rfl) trivial ?_
    have hl_39 : ∀ k, A2.map (·.block) = some k → w_1.heap.size ≤ k := fun k hk => HR.1 k (by rw [ownB]; exact hk)
    refine XL_call 23 rfl rfl rfl ent23 [.slice A2 ps.length c2] (by kernel_rfl) (reverse_any A2 c2 ps w_1 _ HB HR (by omega) hl_39) ?_
    rintro e w_36 ⟨rfl, hr_37, hg_38⟩; refine ⟨_, rfl, ?_⟩
    refine XL_nil ?_
    refine X_seq ?_
    refine X_region ?_
    refine XL_run 3 [] [(4, .slice A2 ps.length c2), (5, .nilIface)] w_36 [] (by kernel_rfl) trivial ?_
    refine XL_nil ?_
    refine X_ret ?_
    refine RX.ret_ok (P := Tryd.prog) (fn := Tryd.f10) (N := 79) (R := R_) [.slice A2 ps.length c2, .nilIface] (by kernel_rfl) (hR_ _ _ ?_)
    obtain ⟨rfl, rfl⟩ := hm1 (by omega)
    refine ⟨ps.reverse, A2, c2, by rw [List.length_reverse]; rfl, ?_, Bk_Mt hK, by rw [List.length_reverse]; omega, (bgo (bt hb_2 HB) hg_38 hl_39 (hb_2).size)⟩
    rw [List.length_reverse]
    exact Kd.R_low hr_37 (hb_2).size
end Go.Proofs.YtmhkeojbjliieaaDoor
