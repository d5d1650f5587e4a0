/- What vellumlaw05.fixed and copied answer; OpsPlays returns true. Conditions: sizes, the tables of utf8, the errors' variables. -/
import Derived.Test.YtekfdfafhfhfbaaDoorO3
import Derived.Test.YtekfdfafhfhfbaaDoorNum
import Derived.Test.YtekfdfafhfhfbaaDoorCap
import Derived.Test.YtekfdfafhfhfbaaDoorAn2
set_option linter.unusedVariables false
set_option linter.unusedSimpArgs false
set_option maxRecDepth 100000
namespace Go.Proofs.YtekfdfafhfhfbaaDoor
open Go Go.RowKit Go.Proofs.YtekfdfafhfhfbaaDoorW.PrintWords RX
theorem ent15 : Ent Tryd.prog 15 := ent_of Tryd.func15 (by kernel_rfl) rfl
theorem ent16 : Ent Tryd.prog 16 := ent_of Tryd.func16 (by kernel_rfl) rfl
theorem ent3 : Ent Tryd.prog 3 := ent_of Tryd.func3 (by kernel_rfl) rfl
def fxA : OpA := ⟨3, ByteArray.empty, 0, 0, ByteArray.empty, 3, []⟩
def fxB : OpA := ⟨1, (⟨#[97, 98]⟩ : ByteArray), 0, 0, ByteArray.empty, 0, []⟩
def fxC : OpA := ⟨4, ByteArray.empty, 0, 0, ByteArray.empty, 2, []⟩
def fxD : OpA := ⟨4, ByteArray.empty, 0, 0, ByteArray.empty, 0, []⟩
def fxL : List OpA := [fxA, fxB, fxC]
def fxL1 : List OpA := [fxA]
def fxP : List PieceA := [.ret [] 3, .ins [] (⟨#[97, 98]⟩ : ByteArray) 2, .del 2]
theorem fx_sc : U.sc (⟨#[97, 98]⟩ : ByteArray) = [97, 98] := (U.utf_of (s := (⟨#[97, 98]⟩ : ByteArray)) (rs := [97, 98]) (by decide) (by decide +kernel)).2
theorem fx_a : pErr fxA = 0 := by kernel_rfl
theorem fx_b : pErr fxB = 0 := by kernel_rfl
theorem fx_c : pErr fxC = 0 := by kernel_rfl
theorem fx_d : pErr fxD = 9 := by kernel_rfl
theorem fx_bad : badE fxL = 0 := badE_mem.2 (by
  intro o ho
  simp only [fxL, List.mem_cons, List.not_mem_nil, or_false] at ho
  rcases ho with rfl | rfl | rfl
  · exact fx_a
  · exact fx_b
  · exact fx_c)
theorem fx_bad1 : badE fxL1 = 0 := badE_mem.2 (by
  intro o ho
  simp only [fxL1, List.mem_cons, List.not_mem_nil, or_false] at ho
  rcases ho with rfl
  exact fx_a)
theorem fx_scb : (U.sc fxB.text).length = 2 := by rw [show fxB.text = (⟨#[97, 98]⟩ : ByteArray) from rfl, fx_sc]; rfl
theorem fx_oa : opLen fxA = 3 := rfl
theorem fx_ob : opLen fxB = 2 := by unfold opLen; rw [if_pos (show fxB.kind = 1 from rfl), fx_scb]; rfl
theorem fx_oc : opLen fxC = 2 := rfl
theorem fx_sB : sB fxL = 5 := by
  have h1 : opB fxA = 3 := rfl
  have h2 : opB fxB = 0 := rfl
  have h3 : opB fxC = 2 := rfl
  show opB fxA + (opB fxB + (opB fxC + 0)) = 5
  rw [h1, h2, h3]; rfl
theorem fx_sR : sR fxL = 5 := by
  have h1 : opR fxA = 3 := rfl
  have h2 : opR fxB = 2 := by show (if fxB.kind = 4 then 0 else opLen fxB) = 2; rw [if_neg (by decide), fx_ob]
  have h3 : opR fxC = 0 := rfl
  show opR fxA + (opR fxB + (opR fxC + 0)) = 5
  rw [h1, h2, h3]; rfl
theorem fx_len : lenP fxL = (5, 5, 0) := by rw [lenP_ok fx_bad (by rw [fx_sB, fx_sR]; decide), fx_sB, fx_sR]
theorem fx_of : ofP fxL = fxP := by
  rw [ofP_ok fx_bad]
  show [pOf fxA, pOf fxB, pOf fxC] = fxP
  rw [pOf_ret (show fxA.kind = 3 from rfl), pOf_ins (show fxB.kind = 1 from rfl), pOf_del (show fxC.kind = 4 from rfl), fx_scb]; rfl
theorem fx_can : canP fxL = true := (canP_iff _).2 ⟨by rw [fx_len], by
  intro i hi
  have h2 : i = 0 ∨ i = 1 := by simp only [fxL, List.length_cons, List.length_nil] at hi; omega
  rcases h2 with rfl | rfl <;> rfl, .inr (fun h => absurd h.1 (by decide))⟩
theorem fx_can1 : canP fxL1 = false := (canP_false _).2 fun h => by
  rcases h.2.2 with h | h
  · cases h
  · exact h ⟨rfl, rfl⟩
theorem fx_same : opsEqP fxL fxL = true := (opsEqP_iff _ _).2 rfl
theorem opSz_nil {o : OpA} (h1 : o.text.size ≤ 2) (h2 : o.vt.size = 0) (h3 : o.attrs = []) : opSz o := ⟨by omega, by omega, by rw [h3]; decide, fun i hi => by rw [h3] at hi; cases hi⟩
theorem fx_sz : ∀ i, i < fxL.length → opSz (fxL.getD i op0) := by
  intro i hi
  have h2 : i = 0 ∨ i = 1 ∨ i = 2 := by simp only [fxL, List.length_cons, List.length_nil] at hi; omega
  rcases h2 with rfl | rfl | rfl
  · exact opSz_nil (by decide) rfl rfl
  · exact opSz_nil (by decide) rfl rfl
  · exact opSz_nil (by decide) rfl rfl
theorem fx_sz1 : ∀ i, i < fxL1.length → opSz (fxL1.getD i op0) := by
  intro i hi
  have h2 : i = 0 := by simp only [fxL1, List.length_cons, List.length_nil] at hi; omega
  subst h2
  exact opSz_nil (by decide) rfl rfl
theorem fx_szd : opSz fxD := opSz_nil (by decide) rfl rfl
set_option maxHeartbeats 4000000 in
theorem fixed_any (w : World) (hT : Tabs w) (es : List Addr) (hE : ErrsO w es) : Calls Tryd.prog 15 #[] w fun e w' => e = .returned (.bool true) ∧ Below w.heap.size w w' := by
  refine RX.enter Tryd.func15 rfl 75 rfl [] rfl (by kernel_rfl) (fun R_ hR_ => ?_)
  refine X_seq ?_
  refine X_region ?_
  refine XL_run 1 [] [] w [] (by kernel_rfl) trivial ?_
  refine XL_nil ?_
  refine X_seq ?_
  refine X_region ?_
  refine XL_run 4 [] [(11, .slice (some ⟨w.heap.size, 0, none⟩) 3 3)] (w.alloc (.cells #[.int .i64 3, .string ByteArray.empty, .int .i64 0, .int .i64 0, .string ByteArray.empty, .int .i64 3, .slice none 0 0, .int .i64 1, .string (⟨#[97, 98]⟩ : ByteArray), .int .i64 0, .int .i64 0, .string ByteArray.empty, .int .i64 0, .slice none 0 0, .int .i64 4, .string ByteArray.empty, .int .i64 0, .int .i64 0, .string ByteArray.empty, .int .i64 2, .slice none 0 0] 33)) [] (by kernel_rfl) trivial ?_
  obtain ⟨w_1, hw_5, hb_2, hk_3, hz_4⟩ := new_world w #[.int .i64 3, .string ByteArray.empty, .int .i64 0, .int .i64 0, .string ByteArray.empty, .int .i64 3, .slice none 0 0, .int .i64 1, .string (⟨#[97, 98]⟩ : ByteArray), .int .i64 0, .int .i64 0, .string ByteArray.empty, .int .i64 0, .slice none 0 0, .int .i64 4, .string ByteArray.empty, .int .i64 0, .int .i64 0, .string ByteArray.empty, .int .i64 2, .slice none 0 0] 33
  rw [hw_5]
  refine XL_run 1 [] [(1, .slice (some ⟨w.heap.size, 0, none⟩) 3 3)] w_1 [] (by kernel_rfl) trivial ?_
  refine XL_nil ?_
  refine X_seq ?_
  refine X_region ?_
  refine XL_run 1 [] [(1, .slice (some ⟨w.heap.size, 0, none⟩) 3 3), (13, .slice (some ⟨w.heap.size, 0, none⟩) 3 3)] w_1 [] (by kernel_rfl) trivial ?_
  have hr_6 := Kd.R_litB kOp (W := w) (e := 33) (cs := #[.int .i64 3, .string ByteArray.empty, .int .i64 0, .int .i64 0, .string ByteArray.empty, .int .i64 3, .slice none 0 0, .int .i64 1, .string (⟨#[97, 98]⟩ : ByteArray), .int .i64 0, .int .i64 0, .string ByteArray.empty, .int .i64 0, .slice none 0 0, .int .i64 4, .string ByteArray.empty, .int .i64 0, .int .i64 0, .string ByteArray.empty, .int .i64 2, .slice none 0 0]) [(⟨3, ByteArray.empty, 0, 0, ByteArray.empty, 3, []⟩ : OpA), (⟨1, (⟨#[97, 98]⟩ : ByteArray), 0, 0, ByteArray.empty, 0, []⟩ : OpA), (⟨4, ByteArray.empty, 0, 0, ByteArray.empty, 2, []⟩ : OpA)] hk_3 (repsOp0 [(⟨3, ByteArray.empty, 0, 0, ByteArray.empty, 3, []⟩ : OpA), (⟨1, (⟨#[97, 98]⟩ : ByteArray), 0, 0, ByteArray.empty, 0, []⟩ : OpA), (⟨4, ByteArray.empty, 0, 0, ByteArray.empty, 2, []⟩ : OpA)] (by intro x hx; simp only [List.mem_cons, List.not_mem_nil, or_false] at hx; rcases hx with rfl | rfl | rfl <;> rfl)) (Nat.le_of_ble_eq_true (by kernel_rfl))
  have hL_7 : kOp.R 33 w_1 w.heap.size (OkFrom w.heap.size) (.slice (some ⟨w.heap.size, 0, none⟩) 3 3) fxL := hr_6
  refine XL_call 20 rfl rfl rfl ent20 [.slice (some ⟨w.heap.size, 0, none⟩) 3 3] (by kernel_rfl) (olen_any _ _ fxL _ (Kd.R_C hL_7) (by decide) fx_sz (hT.below hb_2) es (hE.below hb_2)) ?_
  rintro e w_8 ⟨rfl, hb_9⟩; refine ⟨_, rfl, ?_⟩
  rw [fx_len]
  refine XL_run 7 [] [(1, .slice (some ⟨w.heap.size, 0, none⟩) 3 3), (2, .int .i64 5), (3, .int .i64 5), (4, .nilIface)] w_8 [] (by kernel_rfl) trivial ?_
  refine XL_nil ?_
  refine X_seq ?_
  refine X_region ?_
  refine XL_run 1 [] [(1, .slice (some ⟨w.heap.size, 0, none⟩) 3 3), (2, .int .i64 5), (3, .int .i64 5), (4, .nilIface), (19, .slice (some ⟨w.heap.size, 0, none⟩) 3 3)] w_8 [] (by kernel_rfl) trivial ?_
  refine XL_call 26 rfl rfl rfl ent26 [.slice (some ⟨w.heap.size, 0, none⟩) 3 3] (by kernel_rfl) (of_any _ _ fxL _ (Kd.R_C (Kd.R_below hL_7 hb_9)) (by decide) fx_sz (hT.below (bt hb_2 hb_9)) es (hE.below (bt hb_2 hb_9))) ?_
  rintro e w_13 ⟨A_10, c_11, rfl, hr_12, hb_14⟩; refine ⟨_, rfl, ?_⟩
  rw [fx_of] at hr_12 ⊢; rw [badI_none fx_bad, fx_bad]
  replace hr_12 : kPiece.R 47 w_13 w_8.heap.size (OkFrom w_8.heap.size) (.slice A_10 3 c_11) fxP := hr_12
  refine XL_run 7 [] [(1, .slice (some ⟨w.heap.size, 0, none⟩) 3 3), (2, .int .i64 5), (3, .int .i64 5), (4, .nilIface), (5, .slice A_10 3 c_11), (7, .nilIface)] w_13 [] (by kernel_rfl) trivial ?_
  refine XL_nil ?_
  refine X_seq ?_
  refine X_seq ?_
  refine X_region ?_
  refine XL_run 21 [] [(1, .slice (some ⟨w.heap.size, 0, none⟩) 3 3), (5, .slice A_10 3 c_11), (43, .bool false), (44, .slice A_10 3 c_11)] w_13 [] (by kernel_rfl) trivial ?_
  obtain ⟨ad_15, v_18, ha_16, hc_17, hK_19⟩ := Kd.atPiece (Kd.R_C hr_12) (i := (1 : Int)) (by omega) (by omega)
  replace hK_19 : kPiece.K w_13 (fxP.getD 1 piece0) [v_18] := hK_19
  refine XL_run 1 [(45, .idx ad_15)] [(1, .slice (some ⟨w.heap.size, 0, none⟩) 3 3), (5, .slice A_10 3 c_11), (43, .bool false), (45, .pointer (some (ad_15.add ((1 : Int).toNat * 1))))] w_13 [A_10 = some ad_15, (0 : Int) ≤ 1, 1 < (3 : Int)] (by kernel_rfl) ⟨ha_16, (by omega), (by omega), trivial⟩ ?_
  obtain ⟨A_20, c_21, e_22, _, _⟩ := kPiece_ins (a := []) (t := (⟨#[97, 98]⟩ : ByteArray)) (n := 2) hK_19
  obtain rfl := (List.cons.inj e_22).1
  refine XL_run 5 [(46, .load (.iface 51 (.agg #[.slice A_20 0 c_21, .string (⟨#[97, 98]⟩ : ByteArray), .int .i64 2])))] [(1, .slice (some ⟨w.heap.size, 0, none⟩) 3 3), (49, .bool false), (50, .slice A_10 3 c_11)] w_13 [LoadsAs Tryd.prog 47 (ad_15.add ((1 : Int).toNat * 1)) (.iface 51 (.agg #[.slice A_20 0 c_21, .string (⟨#[97, 98]⟩ : ByteArray), .int .i64 2])) w_13] (by kernel_rfl) ⟨loads1 rfl (elem_cell hc_17 0 _ rfl), trivial⟩ ?_
  obtain ⟨ad_23, v_26, ha_24, hc_25, hK_27⟩ := Kd.atPiece (Kd.R_C hr_12) (i := (1 : Int)) (by omega) (by omega)
  replace hK_27 : kPiece.K w_13 (fxP.getD 1 piece0) [v_26] := hK_27
  refine XL_run 1 [(51, .idx ad_23)] [(1, .slice (some ⟨w.heap.size, 0, none⟩) 3 3), (49, .bool false), (51, .pointer (some (ad_23.add ((1 : Int).toNat * 1))))] w_13 [A_10 = some ad_23, (0 : Int) ≤ 1, 1 < (3 : Int)] (by kernel_rfl) ⟨ha_24, (by omega), (by omega), trivial⟩ ?_
  obtain ⟨A_28, c_29, e_30, _, _⟩ := kPiece_ins (a := []) (t := (⟨#[97, 98]⟩ : ByteArray)) (n := 2) hK_27
  obtain rfl := (List.cons.inj e_30).1
  refine XL_run 1 [(52, .load (.iface 51 (.agg #[.slice A_28 0 c_29, .string (⟨#[97, 98]⟩ : ByteArray), .int .i64 2])))] [(1, .slice (some ⟨w.heap.size, 0, none⟩) 3 3), (49, .bool false), (52, .iface 51 (.agg #[.slice A_28 0 c_29, .string (⟨#[97, 98]⟩ : ByteArray), .int .i64 2]))] w_13 [LoadsAs Tryd.prog 47 (ad_23.add ((1 : Int).toNat * 1)) (.iface 51 (.agg #[.slice A_28 0 c_29, .string (⟨#[97, 98]⟩ : ByteArray), .int .i64 2])) w_13] (by kernel_rfl) ⟨loads1 rfl (elem_cell hc_25 0 _ rfl), trivial⟩ ?_
  refine XL_inv 165 #[.agg #[.slice A_28 0 c_29, .string (⟨#[97, 98]⟩ : ByteArray), .int .i64 2]] rfl rfl (by kernel_rfl) (by kernel_rfl) (insertLen_any _ _ _ _ _ _) ?_
  rintro e w_31 ⟨rfl, hb_32⟩; refine ⟨_, rfl, ?_⟩
  refine XL_run 2 [] [(1, .slice (some ⟨w.heap.size, 0, none⟩) 3 3), (55, .bool false)] w_31 [] (by kernel_rfl) trivial ?_
  refine XL_nil ?_
  refine X_cond false rfl ?_
  refine X_skip ?_
  refine X_seq ?_
  refine X_grow [] 20 #[false, false, false, false, false, false, false, false, false, false, false, false, false, false, false, false, false, false, false, false] (by kernel_rfl) (by kernel_rfl) (by kernel_rfl) (fun wd_33 hb_34 hh_35 => ?_)
  refine XB_run (fuel' := 19) (Below.refl _ _) [0] [] [.slice (some ⟨w.heap.size, 0, none⟩) 3 3] #[true, false, false, false, false, false, false, false, false, false, false, false, false, false, false, false, false, false, false, false] [(1, .slice (some ⟨w.heap.size, 0, none⟩) 3 3), (56, .slice (some ⟨w.heap.size, 0, none⟩) 3 3)] (fun w_ => []) (fun _ _ _ _ h => h) (fun w_ => by kernel_rfl) rfl (fun w_ hC_ => trivial) ?_
  refine XB_mid (fuel' := 18) 1 #[true, true, false, false, false, false, false, false, false, false, false, false, false, false, false, false, false, false, false, false] _ rfl (by kernel_rfl) (by kernel_rfl) rfl ?_
  have hB_36 : Below w.heap.size w wd_33 := (bt (bt (bt (bt hb_2 hb_9) hb_14) hb_32) hb_34)
  refine XL_call 22 rfl rfl rfl ent22 [.slice (some ⟨w.heap.size, 0, none⟩) 3 3] (by kernel_rfl) (ocan_any _ _ fxL _ (Kd.R_C (Kd.R_below hL_7 (bt (bt (bt hb_9 hb_14) hb_32) hb_34))) (by decide) fx_sz (hT.below hB_36) es (hE.below hB_36)) ?_
  rintro e w_37 ⟨rfl, hb_38⟩; refine ⟨_, rfl, ?_⟩
  rw [fx_can]
  refine XL_nil ?_
  refine ⟨hb_38, ?_⟩
  have hB_39 : Below w_1.heap.size w_1 w_37 := (bt (bt (bt (bt hb_9 hb_14) hb_32) hb_34) hb_38)
  have hC_40 : kOp.C w_37 (some ⟨w.heap.size, 0, none⟩) 1 fxL1 := by have h := RX.Kd.C_take (m := 1) (Kd.R_C (Kd.R_below hL_7 hB_39)) (by first | omega | (simp; done) | (simp; omega)); rwa [show (List.take 1 fxL) = fxL1 from rfl] at h
  refine XB_run (fuel' := 15) hb_38 [2, 3, 4] [(60, .as (.slice (some ⟨w.heap.size, 0, none⟩) 1 3))] [.bool true, .slice (some ⟨w.heap.size, 0, none⟩) 3 3, .slice (some ⟨w.heap.size, 0, none⟩) 1 3] #[true, true, true, true, true, false, false, false, false, false, false, false, false, false, false, false, false, false, false, false] [(1, .slice (some ⟨w.heap.size, 0, none⟩) 3 3), (58, .bool true), (60, .slice (some ⟨w.heap.size, 0, none⟩) 1 3)] (fun w_ => [RunsAs Tryd.prog [(59, .slice (some ⟨w.heap.size, 0, none⟩) 3 3)] (Go.Op.slice 22 (Go.Operand.tmp 59) none (some (Go.Operand.const (Go.Value.int Go.IntKind.i64 1))) none) 22 (.slice (some ⟨w.heap.size, 0, none⟩) 1 3) w_]) (fun _ _ _ _ h => h) (fun w_ => by kernel_rfl) rfl (fun w_ hC_ => ⟨runs_slice_h (h := 1) rfl rfl rfl rfl (by omega) (by have h := (RX.Kd.R_len (Kd.R_below hL_7 hB_39)).2; (try simp only [List.length_append, List.length_cons, List.length_nil] at h); omega), trivial⟩) ?_
  refine XB_mid (fuel' := 14) 5 #[true, true, true, true, true, true, false, false, false, false, false, false, false, false, false, false, false, false, false, false] _ rfl (by kernel_rfl) (by kernel_rfl) rfl ?_
  refine XL_call 22 rfl rfl rfl ent22 [.slice (some ⟨w.heap.size, 0, none⟩) 1 3] (by kernel_rfl) (ocan_any _ _ fxL1 _ (hC_40) (by decide) fx_sz1 (hT.below (bt hB_36 hb_38)) es (hE.below (bt hB_36 hb_38))) ?_
  rintro e w_41 ⟨rfl, hb_42⟩; refine ⟨_, rfl, ?_⟩
  rw [fx_can1]
  refine XL_nil ?_
  refine ⟨(bt hb_38 hb_42), ?_⟩
  refine XB_run (fuel' := 9) (bt hb_38 hb_42) [6, 7, 8, 9, 10] [] [.bool true, .bool true, .bool true, .slice (some ⟨w.heap.size, 0, none⟩) 3 3, .slice (some ⟨w.heap.size, 0, none⟩) 3 3] #[true, true, true, true, true, true, true, true, true, true, true, false, false, false, false, false, false, false, false, false] [(64, .bool true), (65, .slice (some ⟨w.heap.size, 0, none⟩) 3 3), (66, .slice (some ⟨w.heap.size, 0, none⟩) 3 3)] (fun w_ => []) (fun _ _ _ _ h => h) (fun w_ => by kernel_rfl) rfl (fun w_ hC_ => trivial) ?_
  refine XB_mid (fuel' := 8) 11 #[true, true, true, true, true, true, true, true, true, true, true, true, false, false, false, false, false, false, false, false] _ rfl (by kernel_rfl) (by kernel_rfl) rfl ?_
  refine XL_call 24 rfl rfl rfl ent24 [.slice (some ⟨w.heap.size, 0, none⟩) 3 3, .slice (some ⟨w.heap.size, 0, none⟩) 3 3] (by kernel_rfl) (osame_any _ _ _ _ fxL fxL _ (Kd.R_C (Kd.R_below hL_7 (bt hB_39 hb_42))) (Kd.R_C (Kd.R_below hL_7 (bt hB_39 hb_42)))) ?_
  rintro e w_43 ⟨rfl, hb_44⟩; refine ⟨_, rfl, ?_⟩
  rw [fx_same]
  refine XL_nil ?_
  refine ⟨(bt (bt hb_38 hb_42) hb_44), ?_⟩
  refine XB_run (fuel' := 4) (bt (bt hb_38 hb_42) hb_44) [12, 13, 14, 16] [(72, .load (.iface 184 (.pointer (some (errAt es 9)))))] [.bool true, .bool true, .agg #[.int .i64 4, .string ByteArray.empty, .int .i64 0, .int .i64 0, .string ByteArray.empty, .int .i64 0, .slice none 0 0], .iface 184 (.pointer (some (errAt es 9)))] #[true, true, true, true, true, true, true, true, true, true, true, true, true, true, true, false, true, false, false, false] [(69, .bool true), (70, .agg #[.int .i64 4, .string ByteArray.empty, .int .i64 0, .int .i64 0, .string ByteArray.empty, .int .i64 0, .slice none 0 0]), (72, .iface 184 (.pointer (some (errAt es 9))))] (fun w_ => [LoadsAs Tryd.prog 27 (⟨0, 0, none⟩) (.iface 184 (.pointer (some (errAt es 9)))) w_]) (fun _ _ _ _ h => h) (fun w_ => by kernel_rfl) rfl (fun w_ hC_ => ⟨loads1 rfl (((bt hB_36 hC_).cell (World.block_lt_of_cell? _ _ (hE.load 9 0 (by decide) (by decide) rfl))).trans (hE.load 9 0 (by decide) (by decide) rfl)), trivial⟩) ?_
  refine XB_mid (fuel' := 3) 15 #[true, true, true, true, true, true, true, true, true, true, true, true, true, true, true, true, true, false, false, false] _ rfl (by kernel_rfl) (by kernel_rfl) rfl ?_
  refine XL_call 18 rfl rfl rfl ent18 [.agg #[.int .i64 4, .string ByteArray.empty, .int .i64 0, .int .i64 0, .string ByteArray.empty, .int .i64 0, .slice none 0 0]] (by kernel_rfl) (ocheck_any fxD none 0 _ ⟨rfl, by decide, fun h_ => by cases h_⟩ fx_szd (hT.below (bt (bt (bt hB_36 hb_38) hb_42) hb_44)) es (hE.below (bt (bt (bt hB_36 hb_38) hb_42) hb_44))) ?_
  rintro e w_45 ⟨rfl, hb_46⟩; refine ⟨_, rfl, ?_⟩
  rw [fx_d]
  refine XL_nil ?_
  refine ⟨(bt (bt (bt hb_38 hb_42) hb_44) hb_46), ?_⟩
  refine XB_run (fuel' := 0) (bt (bt (bt hb_38 hb_42) hb_44) hb_46) [17, 18, 19] [(73, .as (.bool true))] [.bool true, .bool true, .bool true] #[true, true, true, true, true, true, true, true, true, true, true, true, true, true, true, true, true, true, true, true] [(0, .bool true)] (fun w_ => [RunsAs Tryd.prog [(71, .iface 184 (.pointer (some (errAt es 9)))), (72, .iface 184 (.pointer (some (errAt es 9))))] (Go.Op.binOp Go.BinOp.eql 27 (Go.Operand.tmp 71) (Go.Operand.tmp 72) 27) 4 (.bool true) w_]) (fun _ _ _ _ h => h) (fun w_ => by kernel_rfl) rfl (fun w_ hC_ => ⟨runs_bin rfl rfl rfl (err_self es 9 _), trivial⟩) ?_
  refine XB_done (by kernel_rfl) ?_
  refine X_ret ?_
  refine RX.ret_ok (P := Tryd.prog) (fn := Tryd.f15) (N := 75) (R := R_) [.bool true] (by kernel_rfl) (hR_ _ _ ?_)
  have hB_47 : Below w.heap.size w w_45 := (bt (bt (bt (bt hB_36 hb_38) hb_42) hb_44) hb_46)
  exact ⟨rfl, hB_47⟩
set_option maxHeartbeats 2000000 in
theorem ocopied_any (A : Option Addr) (c : Nat) (xs : List OpA) (w : World) (hx : kOp.C w A xs.length xs) (hn : xs.length ≤ 1100000) (hz : ∀ i, i < xs.length → opSz (xs.getD i op0)) : Calls Tryd.prog 16 #[.slice A xs.length c] w fun e w' => ∃ A' c', e = .returned (.slice A' xs.length c') ∧ xs.length ≤ c' ∧ kOp.R 33 w' w.heap.size (OkFrom w.heap.size) (.slice A' xs.length c') xs ∧ Below w.heap.size w w' := by
  have hpl : xs.length ≤ 9223372036854775807 := hx.2.1
  refine RX.enter Tryd.func16 rfl 24 rfl [(0, .slice A xs.length c)] rfl (by kernel_rfl) (fun R_ hR_ => ?_)
  refine X_seq ?_
  refine X_region ?_
  refine XL_run 1 [] [(0, .slice A xs.length c)] w [] (by kernel_rfl) trivial ?_
  refine XL_nil ?_
  refine X_seq ?_
  refine X_region ?_
  refine XL_run 1 [] [(0, .slice A xs.length c), (6, .slice (some ⟨w.heap.size, 0, none⟩) 0 0)] (w.alloc (.cells #[] 33)) [] (by kernel_rfl) trivial ?_
  obtain ⟨w_1, hw_5, hb_2, hk_3, hz_4⟩ := new_world w #[] 33
  rw [hw_5]
  refine XL_run 1 [] [(0, .slice A xs.length c), (3, .slice (some ⟨w.heap.size, 0, none⟩) 0 0)] w_1 [] (by kernel_rfl) trivial ?_
  refine XL_nil ?_
  refine X_seq ?_
  refine X_seq ?_
  refine X_region ?_
  refine XL_run 3 [] [(3, .slice (some ⟨w.heap.size, 0, none⟩) 0 0), (7, .slice A xs.length c), (8, .int .i64 (xs.length : Int)), (9, .int .i64 0)] w_1 [] (by kernel_rfl) trivial ?_
  refine XL_nil ?_
  refine X_block ?_
  have hr_6 := Kd.R_litB kOp (W := w) (e := 33) (cs := #[]) [] hk_3 (repsOp0 [] (fun _ h => by cases h)) (Nat.le_of_ble_eq_true (by kernel_rfl))
  refine X_loop (ι := Nat × Option Addr × Nat × List OpA) (fun ⟨i, A3, c3, zs3⟩ => [(3, .slice A3 zs3.length c3), (7, .slice A xs.length c), (8, .int .i64 (xs.length : Int)), (9, .int .i64 (i : Int))]) (fun ⟨i, A3, c3, zs3⟩ wl => i ≤ xs.length ∧ zs3 = xs.take i ∧ kOp.R 33 wl w.heap.size (OkFrom w.heap.size) (.slice A3 zs3.length c3) zs3 ∧ w.heap.size ≤ wl.heap.size ∧ Below w.heap.size w wl) (fun ⟨i, A3, c3, zs3⟩ => xs.length - i) (0, (some ⟨w.heap.size, 0, none⟩), 0, []) ⟨by omega, rfl, hr_6, (hb_2).size, hb_2⟩ (by kernel_rfl) ?_
  rintro ⟨i, A3, c3, zs3⟩ wl ⟨hi, he3, hr3, hle3, HB⟩
  have hzl : zs3.length = min i xs.length := by rw [he3, List.length_take]
  have hatl := fun (h_ : i < xs.length) => (hz i h_).2.2.1
  refine X_seq ?_
  refine X_region ?_
  by_cases c_7 : (i : Int) < (xs.length : Int)
  · refine XL_run 1 [(10, .eq (.bool true))] [(3, .slice A3 zs3.length c3), (7, .slice A xs.length c), (8, .int .i64 (xs.length : Int)), (9, .int .i64 (i : Int)), (10, .bool true)] wl [Value.bool (decide ((i : Int) < (xs.length : Int))) = Value.bool true] (by kernel_rfl) ⟨congrArg Value.bool (decide_eq_true (c_7)), trivial⟩ ?_
    refine XL_nil ?_
    refine X_seq ?_
    refine X_cond true rfl ?_
    refine X_skip ?_
    refine X_seq ?_
    refine X_block ?_
    refine X_seq ?_
    refine X_region ?_
    obtain ⟨ad_8, B_11, c_12, ha_9, hc_10, hl_13, hC_14⟩ := Kd.atOp (Kd.C_below hx HB) (i := (i : Int)) (by omega) (by omega)
    replace hc_10 : CellsAt wl (ad_8.add ((i : Int).toNat * 7)) [.int .i64 ((xs.getD i op0).kind), .string ((xs.getD i op0).text), .int .i64 ((xs.getD i op0).vk), .int .i64 ((xs.getD i op0).vn), .string ((xs.getD i op0).vt), .int .i64 ((xs.getD i op0).count), .slice B_11 ((xs.getD i op0).attrs.length) c_12] := hc_10
    replace hl_13 : (xs.getD i op0).attrs.length ≤ c_12 := hl_13
    replace hC_14 : kAttr.C wl B_11 ((xs.getD i op0).attrs.length) (xs.getD i op0).attrs := hC_14
    refine XL_run 3 [(11, .idx ad_8), (12, .load (.agg #[.int .i64 ((xs.getD i op0).kind), .string ((xs.getD i op0).text), .int .i64 ((xs.getD i op0).vk), .int .i64 ((xs.getD i op0).vn), .string ((xs.getD i op0).vt), .int .i64 ((xs.getD i op0).count), .slice B_11 ((xs.getD i op0).attrs.length) c_12]))] [(3, .slice A3 zs3.length c3), (5, .pointer (some ⟨wl.heap.size, 0, none⟩)), (7, .slice A xs.length c), (8, .int .i64 (xs.length : Int)), (9, .int .i64 (i : Int)), (12, .agg #[.int .i64 ((xs.getD i op0).kind), .string ((xs.getD i op0).text), .int .i64 ((xs.getD i op0).vk), .int .i64 ((xs.getD i op0).vn), .string ((xs.getD i op0).vt), .int .i64 ((xs.getD i op0).count), .slice B_11 ((xs.getD i op0).attrs.length) c_12])] (wl.alloc (.cells #[.int .i64 0, .string ByteArray.empty, .int .i64 0, .int .i64 0, .string ByteArray.empty, .int .i64 0, .slice none 0 0] 33)) [A = some ad_8, (0 : Int) ≤ (i : Int), (i : Int) < (xs.length : Int), LoadsAs Tryd.prog 33 (ad_8.add ((i : Int).toNat * 7)) (.agg #[.int .i64 ((xs.getD i op0).kind), .string ((xs.getD i op0).text), .int .i64 ((xs.getD i op0).vk), .int .i64 ((xs.getD i op0).vn), .string ((xs.getD i op0).vt), .int .i64 ((xs.getD i op0).count), .slice B_11 ((xs.getD i op0).attrs.length) c_12]) wl] (by kernel_rfl) ⟨ha_9, (by omega), (by omega), loadsE rfl rfl hc_10 0 ⟨by kernel_rfl, by kernel_rfl⟩, trivial⟩ ?_
    obtain ⟨w_15, hw_19, hb_16, hk_17, hz_18⟩ := new_world wl #[.int .i64 0, .string ByteArray.empty, .int .i64 0, .int .i64 0, .string ByteArray.empty, .int .i64 0, .slice none 0 0] 33
    rw [hw_19]
    refine XL_store (v := .agg #[.int .i64 ((xs.getD i op0).kind), .string ((xs.getD i op0).text), .int .i64 ((xs.getD i op0).vk), .int .i64 ((xs.getD i op0).vn), .string ((xs.getD i op0).vt), .int .i64 ((xs.getD i op0).count), .slice B_11 ((xs.getD i op0).attrs.length) c_12]) rfl rfl rfl (by kernel_rfl) hk_17 0 [.int .i64 ((xs.getD i op0).kind), .string ((xs.getD i op0).text), .int .i64 ((xs.getD i op0).vk), .int .i64 ((xs.getD i op0).vn), .string ((xs.getD i op0).vt), .int .i64 ((xs.getD i op0).count), .slice B_11 ((xs.getD i op0).attrs.length) c_12] #[.int .i64 ((xs.getD i op0).kind), .string ((xs.getD i op0).text), .int .i64 ((xs.getD i op0).vk), .int .i64 ((xs.getD i op0).vn), .string ((xs.getD i op0).vt), .int .i64 ((xs.getD i op0).count), .slice B_11 ((xs.getD i op0).attrs.length) c_12] ⟨by kernel_rfl, rfl, by kernel_rfl⟩ ⟨by kernel_rfl, by kernel_rfl⟩ (Nat.le_of_ble_eq_true (by kernel_rfl)) (fun w_20 hg_21 hk_22 hz_23 => ?_)
    refine XL_nil ?_
    refine X_seq ?_
    refine X_region ?_
    refine XL_run 1 [] [(3, .slice A3 zs3.length c3), (5, .pointer (some ⟨wl.heap.size, 0, none⟩)), (7, .slice A xs.length c), (8, .int .i64 (xs.length : Int)), (9, .int .i64 (i : Int)), (13, .slice (some ⟨w_20.heap.size, 0, none⟩) 0 0)] (w_20.alloc (.cells #[] 79)) [] (by kernel_rfl) trivial ?_
    obtain ⟨w_24, hw_28, hb_25, hk_26, hz_27⟩ := new_world w_20 #[] 79
    rw [hw_28]
    refine XL_run 2 [(15, .load (.slice B_11 ((xs.getD i op0).attrs.length) c_12))] [(3, .slice A3 zs3.length c3), (5, .pointer (some ⟨wl.heap.size, 0, none⟩)), (7, .slice A xs.length c), (8, .int .i64 (xs.length : Int)), (9, .int .i64 (i : Int)), (13, .slice (some ⟨w_20.heap.size, 0, none⟩) 0 0), (15, .slice B_11 ((xs.getD i op0).attrs.length) c_12)] w_24 [LoadsAs Tryd.prog 31 (⟨wl.heap.size, 6, none⟩) (.slice B_11 ((xs.getD i op0).attrs.length) c_12) w_24] (by kernel_rfl) ⟨loads1 rfl (Blk.cell (Blk.below hk_22 hb_25) 6 _ rfl), trivial⟩ ?_
    have hr_29 := Kd.R_litB kAttr (W := w_20) (e := 79) (cs := #[]) [] hk_26 (repsAttr []) (Nat.le_of_ble_eq_true (by kernel_rfl))
    have hB_30 : Below wl.heap.size wl w_24 := (bt (bg hb_16 hg_21 (Nat.le_refl _)) hb_25)
    refine XL_appendAll (c' := c_12) kAttr rfl rfl rfl w_20.heap.size 79 (.agg #[.string ByteArray.empty, .int .i64 0, .int .i64 0, .string ByteArray.empty]) 48 Tryd.underlying31 info79 rfl (by decide) (by omega) ([]) ((xs.getD i op0).attrs) (by kernel_rfl) hr_29 (Kd.C_below hC_14 hB_30) kAttr_KM (hb_25).size (by simp only [List.length_nil]; omega) ?_
    intro A_31 c_32 w_33 hr_34 hc_35 hg_36 hl_37 ha_38
    have hB_39 : Below wl.heap.size wl w_33 := (bgo hB_30 hg_36 hl_37 ((bg hb_16 hg_21 (Nat.le_refl _))).size)
    have he_40 : ([] ++ ((xs.getD i op0).attrs)) = (xs.getD i op0).attrs := List.nil_append _
    rw [he_40] at hr_34 ⊢
    refine XL_run 1 [] [(3, .slice A3 zs3.length c3), (5, .pointer (some ⟨wl.heap.size, 0, none⟩)), (7, .slice A xs.length c), (8, .int .i64 (xs.length : Int)), (9, .int .i64 (i : Int)), (16, .slice A_31 ((xs.getD i op0).attrs.length) c_32), (17, .pointer (some ⟨wl.heap.size, 6, none⟩))] w_33 [] (by kernel_rfl) trivial ?_
    refine XL_store (v := .slice A_31 ((xs.getD i op0).attrs.length) c_32) rfl rfl rfl (by kernel_rfl) (Blk.below hk_22 (bgo hb_25 hg_36 hl_37 (Nat.le_refl _))) 6 [.slice A_31 ((xs.getD i op0).attrs.length) c_32] #[.int .i64 ((xs.getD i op0).kind), .string ((xs.getD i op0).text), .int .i64 ((xs.getD i op0).vk), .int .i64 ((xs.getD i op0).vn), .string ((xs.getD i op0).vt), .int .i64 ((xs.getD i op0).count), .slice A_31 ((xs.getD i op0).attrs.length) c_32] ⟨by kernel_rfl, rfl, by kernel_rfl⟩ ⟨by kernel_rfl, by kernel_rfl⟩ (Nat.le_of_ble_eq_true (by kernel_rfl)) (fun w_41 hg_42 hk_43 hz_44 => ?_)
    have hr_45 := RX.Kd.R_past hr_34 hg_42 (Nat.lt_of_lt_of_le (Blk.lt hk_17) hg_21.size)
    refine XL_nil ?_
    refine X_region ?_
    refine XL_run 3 [(19, .load (.agg #[.int .i64 ((xs.getD i op0).kind), .string ((xs.getD i op0).text), .int .i64 ((xs.getD i op0).vk), .int .i64 ((xs.getD i op0).vn), .string ((xs.getD i op0).vt), .int .i64 ((xs.getD i op0).count), .slice A_31 ((xs.getD i op0).attrs.length) c_32]))] [(7, .slice A xs.length c), (8, .int .i64 (xs.length : Int)), (9, .int .i64 (i : Int)), (18, .slice A3 zs3.length c3), (20, .slice (some ⟨w_41.heap.size, 0, none⟩) 1 1)] (w_41.alloc (.cells #[.int .i64 ((xs.getD i op0).kind), .string ((xs.getD i op0).text), .int .i64 ((xs.getD i op0).vk), .int .i64 ((xs.getD i op0).vn), .string ((xs.getD i op0).vt), .int .i64 ((xs.getD i op0).count), .slice A_31 ((xs.getD i op0).attrs.length) c_32] 33)) [LoadsAs Tryd.prog 33 (⟨wl.heap.size, 0, none⟩) (.agg #[.int .i64 ((xs.getD i op0).kind), .string ((xs.getD i op0).text), .int .i64 ((xs.getD i op0).vk), .int .i64 ((xs.getD i op0).vn), .string ((xs.getD i op0).vt), .int .i64 ((xs.getD i op0).count), .slice A_31 ((xs.getD i op0).attrs.length) c_32]) w_41] (by kernel_rfl) ⟨loadsB rfl rfl hk_43 0 ⟨by kernel_rfl, by kernel_rfl⟩, trivial⟩ ?_
    obtain ⟨w_46, hw_50, hb_47, hk_48, hz_49⟩ := new_world w_41 #[.int .i64 ((xs.getD i op0).kind), .string ((xs.getD i op0).text), .int .i64 ((xs.getD i op0).vk), .int .i64 ((xs.getD i op0).vn), .string ((xs.getD i op0).vt), .int .i64 ((xs.getD i op0).count), .slice A_31 ((xs.getD i op0).attrs.length) c_32] 33
    rw [hw_50]
    obtain ⟨okp_51, hM_52, hok_53⟩ := Kd.M_rowApart hr_45 ((bg (bt HB hb_16) hg_21 hle3)).size (Kd.R_below hr3 (bg hB_39 hg_42 (Nat.le_refl _))) (by decide)
    rw [← hw_50]
    have hB_62 : Below w.heap.size w w_41 := (bg (bgo (bt (bg (bt HB hb_16) hg_21 hle3) hb_25) hg_36 hl_37 ((bg (bt HB hb_16) hg_21 hle3)).size) hg_42 hle3)
    refine XL_append kOp rfl rfl rfl w.heap.size 33 (.agg #[.int .i64 0, .string ByteArray.empty, .int .i64 0, .int .i64 0, .string ByteArray.empty, .int .i64 0, .slice none 0 0]) 88 Tryd.underlying22 info33 rfl (by decide) (by omega) zs3 (⟨(xs.getD i op0).kind, (xs.getD i op0).text, (xs.getD i op0).vk, (xs.getD i op0).vn, (xs.getD i op0).vt, (xs.getD i op0).count, (xs.getD i op0).attrs⟩ : OpA) [.int .i64 ((xs.getD i op0).kind), .string ((xs.getD i op0).text), .int .i64 ((xs.getD i op0).vk), .int .i64 ((xs.getD i op0).vn), .string ((xs.getD i op0).vt), .int .i64 ((xs.getD i op0).count), .slice A_31 ((xs.getD i op0).attrs.length) c_32] okp_51 (by kernel_rfl) (kOp_M (x := (⟨(xs.getD i op0).kind, (xs.getD i op0).text, (xs.getD i op0).vk, (xs.getD i op0).vn, (xs.getD i op0).vt, (xs.getD i op0).count, (xs.getD i op0).attrs⟩ : OpA)) hM_52) hok_53 (Kd.R_below hr3 (bg hB_39 hg_42 (Nat.le_refl _))) (hB_62).size (by first | omega | (simp; omega)) ?_
    intro A_54 c_55 w_56 hr_57 hc_58 hg_59 hl_60 ha_61
    have hr_63 := Kd.R_apart hr_45 (Kd.R_below hr3 (bg hB_39 hg_42 (Nat.le_refl _))) (by decide) hg_59
    have he_64 : (zs3 ++ [(⟨(xs.getD i op0).kind, (xs.getD i op0).text, (xs.getD i op0).vk, (xs.getD i op0).vn, (xs.getD i op0).vt, (xs.getD i op0).count, (xs.getD i op0).attrs⟩ : OpA)]) = (xs.take (i + 1)) := by rw [he3]; exact (take_snocD op0 xs i (by omega)).symm
    rw [he_64] at hr_57 ⊢
    refine XL_run 1 [] [(3, .slice A_54 ((xs.take (i + 1)).length) c_55), (7, .slice A xs.length c), (8, .int .i64 (xs.length : Int)), (9, .int .i64 (i : Int))] w_56 [] (by kernel_rfl) trivial ?_
    refine XL_nil ?_
    refine X_region ?_
    refine XL_run 2 [(22, .eq (.int .i64 ((i : Int) + 1)))] [(3, .slice A_54 ((xs.take (i + 1)).length) c_55), (7, .slice A xs.length c), (8, .int .i64 (xs.length : Int)), (9, .int .i64 ((i : Int) + 1))] w_56 [Value.int .i64 (IntKind.i64.wrap ((i : Int) + 1)) = Value.int .i64 ((i : Int) + 1)] (by kernel_rfl) ⟨wr_i64 (by omega) (by omega), trivial⟩ ?_
    refine XL_nil ?_
    refine ⟨(i + 1, A_54, c_55, (xs.take (i + 1))), by kernel_rfl, ?_, ?_⟩
    · exact ⟨by omega, rfl, hr_57, ((bgo hB_62 hg_59 hl_60 (Nat.le_refl _))).size, (bgo hB_62 hg_59 hl_60 (Nat.le_refl _))⟩
    · (try dsimp only); omega
  · refine XL_run 1 [(10, .eq (.bool false))] [(3, .slice A3 zs3.length c3), (7, .slice A xs.length c), (8, .int .i64 (xs.length : Int)), (9, .int .i64 (i : Int)), (10, .bool false)] wl [Value.bool (decide ((i : Int) < (xs.length : Int))) = Value.bool false] (by kernel_rfl) ⟨congrArg Value.bool (decide_eq_false (c_7)), trivial⟩ ?_
    refine XL_nil ?_
    refine X_seq ?_
    refine X_cond false rfl ?_
    refine X_exit ?_
    refine X_seq ?_
    refine X_region ?_
    refine XL_run 2 [] [(2, .slice A3 zs3.length c3)] wl [] (by kernel_rfl) trivial ?_
    refine XL_nil ?_
    refine X_ret ?_
    refine RX.ret_ok (P := Tryd.prog) (fn := Tryd.f16) (N := 24) (R := R_) [.slice A3 zs3.length c3] (by kernel_rfl) (hR_ _ _ ?_)
    have hxi : xs.take i = xs := List.take_of_length_le (by omega)
    rw [hxi] at he3
    subst he3
    exact ⟨_, _, rfl, (RX.Kd.R_len hr3).2, Kd.R_low hr3 (Nat.le_refl _), HB⟩
theorem plainErr_le (k n : Int) (t : ByteArray) : plainErr k n t ≤ 19 := by unfold plainErr; repeat (first | omega | split)
theorem pairErr_le (x : At) : pairErr x ≤ 19 := by
  have := plainErr_le x.2.1 x.2.2.1 x.2.2.2
  unfold pairErr; repeat (first | omega | split)
theorem attrAt_le (nulls : Bool) (xs : List At) (i : Nat) : attrAt nulls xs i ≤ 19 := by
  have := pairErr_le (xs.getD i at0)
  unfold attrAt; repeat (first | omega | split)
theorem chkUpto_le (nulls : Bool) (xs : List At) : ∀ n, chkUpto nulls xs n ≤ 19
  | 0 => by show (0 : Nat) ≤ 19; omega
  | n + 1 => by
    have h1 := chkUpto_le nulls xs n
    have h2 := attrAt_le nulls xs n
    show (if chkUpto nulls xs n ≠ 0 then chkUpto nulls xs n else attrAt nulls xs n) ≤ 19
    split <;> omega
theorem refuseP_le (o : OpA) : refuseP o ≤ 19 := by
  have h1 := plainErr_le o.vk o.vn o.vt
  have h2 : chkA false o.attrs ≤ 19 := chkUpto_le _ _ _
  unfold refuseP; repeat (first | omega | split)
theorem pErr_le (o : OpA) : pErr o ≤ 19 := by
  have h1 := refuseP_le o
  have h2 : chkA true o.attrs ≤ 19 := chkUpto_le _ _ _
  unfold pErr; repeat (first | omega | split)
theorem badE_le : ∀ xs : List OpA, badE xs ≤ 19
  | [] => by show (0 : Nat) ≤ 19; omega
  | o :: r => by
    have h1 := badE_le r
    have h2 := pErr_le o
    show (if pErr o ≠ 0 then pErr o else badE r) ≤ 19
    split <;> omega
theorem lenP_le (xs : List OpA) : (lenP xs).2.2 ≤ 19 := by
  have h1 := badE_le xs
  unfold lenP
  split
  · exact h1
  · split <;> simp
set_option maxHeartbeats 4000000 in
theorem opsPlays_any (A B : Option Addr) (c d : Nat) (xs ys : List OpA) (w : World) (hx : kOp.C w A xs.length xs) (hy : kOp.C w B ys.length ys) (hn : xs.length ≤ 1048576) (hny : ys.length ≤ 1048576) (hz : ∀ i, i < xs.length → opSz (xs.getD i op0)) (hzy : ∀ i, i < ys.length → opSz (ys.getD i op0)) (hT : Tabs w) (es : List Addr) (hE : Errs w es) : Calls Tryd.prog 3 #[.slice A xs.length c, .slice B ys.length d] w fun e w' => e = .returned (.bool true) ∧ Below w.heap.size w w' := by
  have hO : ErrsO w es := hE.on rfl
  have hpl : xs.length ≤ 9223372036854775807 := hx.2.1
  refine RX.enter Tryd.func3 rfl 85 rfl [(0, .slice A xs.length c), (1, .slice B ys.length d)] rfl (by kernel_rfl) (fun R_ hR_ => ?_)
  refine X_seq ?_
  refine X_region ?_
  refine XL_run 1 [] [(0, .slice A xs.length c), (1, .slice B ys.length d)] w [] (by kernel_rfl) trivial ?_
  refine XL_nil ?_
  refine X_seq ?_
  refine X_seq ?_
  refine X_region ?_
  refine XL_call 15 rfl rfl rfl ent15 [] (by kernel_rfl) (fixed_any _ (hT.below (Below.refl _ _)) es (hO.below (Below.refl _ _))) ?_
  rintro e w_1 ⟨rfl, hb_2⟩; refine ⟨_, rfl, ?_⟩
  refine XL_run 1 [] [(0, .slice A xs.length c), (1, .slice B ys.length d), (14, .bool false)] w_1 [] (by kernel_rfl) trivial ?_
  refine XL_nil ?_
  refine X_cond false rfl ?_
  refine X_skip ?_
  refine X_seq ?_
  refine X_region ?_
  refine XL_run 1 [] [(0, .slice A xs.length c), (1, .slice B ys.length d), (15, .slice A xs.length c)] w_1 [] (by kernel_rfl) trivial ?_
  refine XL_call 16 rfl rfl rfl ent16 [.slice A xs.length c] (by kernel_rfl) (ocopied_any _ _ xs _ (Kd.C_below hx hb_2) (by omega) hz) ?_
  rintro e w_5 ⟨A_3, c_4, rfl, hl_7, hr_8, hb_6⟩; refine ⟨_, rfl, ?_⟩
  refine XL_run 1 [] [(0, .slice A xs.length c), (1, .slice B ys.length d), (5, .slice A_3 xs.length c_4)] w_5 [] (by kernel_rfl) trivial ?_
  refine XL_nil ?_
  refine X_seq ?_
  refine X_seq ?_
  refine X_region ?_
  refine XL_run 3 [] [(0, .slice A xs.length c), (1, .slice B ys.length d), (5, .slice A_3 xs.length c_4), (18, .int .i64 (xs.length : Int)), (19, .int .i64 0)] w_5 [] (by kernel_rfl) trivial ?_
  refine XL_nil ?_
  refine X_block ?_
  refine X_loop (ι := Nat) (fun i => [(0, .slice A xs.length c), (1, .slice B ys.length d), (5, .slice A_3 xs.length c_4), (18, .int .i64 (xs.length : Int)), (19, .int .i64 (i : Int))]) (fun i wl => i ≤ xs.length ∧ Below w_5.heap.size w_5 wl) (fun i => xs.length - i) 0 ⟨by omega, Below.refl _ _⟩ (by kernel_rfl) ?_
  rintro i wl ⟨hi, HB⟩
  refine X_seq ?_
  refine X_region ?_
  by_cases c_9 : (i : Int) < (xs.length : Int)
  · refine XL_run 1 [(20, .eq (.bool true))] [(0, .slice A xs.length c), (1, .slice B ys.length d), (5, .slice A_3 xs.length c_4), (18, .int .i64 (xs.length : Int)), (19, .int .i64 (i : Int)), (20, .bool true)] wl [Value.bool (decide ((i : Int) < (xs.length : Int))) = Value.bool true] (by kernel_rfl) ⟨congrArg Value.bool (decide_eq_true (c_9)), trivial⟩ ?_
    refine XL_nil ?_
    refine X_seq ?_
    refine X_cond true rfl ?_
    refine X_skip ?_
    refine X_seq ?_
    refine X_block ?_
    refine X_seq ?_
    refine X_region ?_
    refine XL_run 2 [] [(0, .slice A xs.length c), (1, .slice B ys.length d), (5, .slice A_3 xs.length c_4), (6, .int .i64 (i : Int)), (18, .int .i64 (xs.length : Int)), (19, .int .i64 (i : Int))] wl [] (by kernel_rfl) trivial ?_
    refine XL_nil ?_
    refine X_seq ?_
    refine X_grow [] 12 #[false, false, false, false, false, false, false, false, false, false, false, false] (by kernel_rfl) (by kernel_rfl) (by kernel_rfl) (fun wd_10 hb_11 hh_12 => ?_)
    refine XB_run (fuel' := 10) (Below.refl _ _) [0, 1] [] [.slice A_3 xs.length c_4, .int .i64 (i : Int)] #[true, true, false, false, false, false, false, false, false, false, false, false] [(0, .slice A xs.length c), (1, .slice B ys.length d), (5, .slice A_3 xs.length c_4), (6, .int .i64 (i : Int)), (18, .int .i64 (xs.length : Int)), (19, .int .i64 (i : Int)), (22, .slice A_3 xs.length c_4), (23, .int .i64 (i : Int))] (fun w_ => []) (fun _ _ _ _ h => h) (fun w_ => by kernel_rfl) rfl (fun w_ hC_ => trivial) ?_
    obtain ⟨ad_13, B_16, c_17, ha_14, hc_15, hl_18, hC_19⟩ := Kd.atOp (Kd.R_C (Kd.R_below hr_8 (bt HB hb_11))) (i := (i : Int)) (by omega) (by omega)
    replace hc_15 : CellsAt wd_10 (ad_13.add ((i : Int).toNat * 7)) [.int .i64 ((xs.getD i op0).kind), .string ((xs.getD i op0).text), .int .i64 ((xs.getD i op0).vk), .int .i64 ((xs.getD i op0).vn), .string ((xs.getD i op0).vt), .int .i64 ((xs.getD i op0).count), .slice B_16 ((xs.getD i op0).attrs.length) c_17] := hc_15
    replace hl_18 : (xs.getD i op0).attrs.length ≤ c_17 := hl_18
    replace hC_19 : kAttr.C wd_10 B_16 ((xs.getD i op0).attrs.length) (xs.getD i op0).attrs := hC_19
    refine XB_run (fuel' := 6) (Below.refl _ _) [2, 3, 6, 7] [(24, .idx ad_13), (25, .load (.agg #[.int .i64 ((xs.getD i op0).kind), .string ((xs.getD i op0).text), .int .i64 ((xs.getD i op0).vk), .int .i64 ((xs.getD i op0).vn), .string ((xs.getD i op0).vt), .int .i64 ((xs.getD i op0).count), .slice B_16 ((xs.getD i op0).attrs.length) c_17]))] [.pointer (some (ad_13.add ((i : Int).toNat * 7))), .agg #[.int .i64 ((xs.getD i op0).kind), .string ((xs.getD i op0).text), .int .i64 ((xs.getD i op0).vk), .int .i64 ((xs.getD i op0).vn), .string ((xs.getD i op0).vt), .int .i64 ((xs.getD i op0).count), .slice B_16 ((xs.getD i op0).attrs.length) c_17], .slice A xs.length c, .int .i64 (i : Int)] #[true, true, true, true, false, false, true, true, false, false, false, false] [(0, .slice A xs.length c), (1, .slice B ys.length d), (5, .slice A_3 xs.length c_4), (18, .int .i64 (xs.length : Int)), (19, .int .i64 (i : Int)), (25, .agg #[.int .i64 ((xs.getD i op0).kind), .string ((xs.getD i op0).text), .int .i64 ((xs.getD i op0).vk), .int .i64 ((xs.getD i op0).vn), .string ((xs.getD i op0).vt), .int .i64 ((xs.getD i op0).count), .slice B_16 ((xs.getD i op0).attrs.length) c_17]), (28, .slice A xs.length c), (29, .int .i64 (i : Int))] (fun w_ => [A_3 = some ad_13, (0 : Int) ≤ (i : Int), (i : Int) < (xs.length : Int), LoadsAs Tryd.prog 33 (ad_13.add ((i : Int).toNat * 7)) (.agg #[.int .i64 ((xs.getD i op0).kind), .string ((xs.getD i op0).text), .int .i64 ((xs.getD i op0).vk), .int .i64 ((xs.getD i op0).vn), .string ((xs.getD i op0).vt), .int .i64 ((xs.getD i op0).count), .slice B_16 ((xs.getD i op0).attrs.length) c_17]) w_]) (fun _ _ _ _ h => h) (fun w_ => by kernel_rfl) rfl (fun w_ hC_ => ⟨ha_14, (by omega), (by omega), loadsE rfl rfl (cells_below hc_15 hC_) 0 ⟨by kernel_rfl, by kernel_rfl⟩, trivial⟩) ?_
    obtain ⟨ad_20, B_23, c_24, ha_21, hc_22, hl_25, hC_26⟩ := Kd.atOp (Kd.C_below hx (bt (bt (bt hb_2 hb_6) HB) hb_11)) (i := (i : Int)) (by omega) (by omega)
    replace hc_22 : CellsAt wd_10 (ad_20.add ((i : Int).toNat * 7)) [.int .i64 ((xs.getD i op0).kind), .string ((xs.getD i op0).text), .int .i64 ((xs.getD i op0).vk), .int .i64 ((xs.getD i op0).vn), .string ((xs.getD i op0).vt), .int .i64 ((xs.getD i op0).count), .slice B_23 ((xs.getD i op0).attrs.length) c_24] := hc_22
    replace hl_25 : (xs.getD i op0).attrs.length ≤ c_24 := hl_25
    replace hC_26 : kAttr.C wd_10 B_23 ((xs.getD i op0).attrs.length) (xs.getD i op0).attrs := hC_26
    refine XB_run (fuel' := 4) (Below.refl _ _) [8, 9] [(30, .idx ad_20), (31, .load (.agg #[.int .i64 ((xs.getD i op0).kind), .string ((xs.getD i op0).text), .int .i64 ((xs.getD i op0).vk), .int .i64 ((xs.getD i op0).vn), .string ((xs.getD i op0).vt), .int .i64 ((xs.getD i op0).count), .slice B_23 ((xs.getD i op0).attrs.length) c_24]))] [.pointer (some (ad_20.add ((i : Int).toNat * 7))), .agg #[.int .i64 ((xs.getD i op0).kind), .string ((xs.getD i op0).text), .int .i64 ((xs.getD i op0).vk), .int .i64 ((xs.getD i op0).vn), .string ((xs.getD i op0).vt), .int .i64 ((xs.getD i op0).count), .slice B_23 ((xs.getD i op0).attrs.length) c_24]] #[true, true, true, true, false, false, true, true, true, true, false, false] [(0, .slice A xs.length c), (1, .slice B ys.length d), (5, .slice A_3 xs.length c_4), (18, .int .i64 (xs.length : Int)), (19, .int .i64 (i : Int)), (25, .agg #[.int .i64 ((xs.getD i op0).kind), .string ((xs.getD i op0).text), .int .i64 ((xs.getD i op0).vk), .int .i64 ((xs.getD i op0).vn), .string ((xs.getD i op0).vt), .int .i64 ((xs.getD i op0).count), .slice B_16 ((xs.getD i op0).attrs.length) c_17]), (31, .agg #[.int .i64 ((xs.getD i op0).kind), .string ((xs.getD i op0).text), .int .i64 ((xs.getD i op0).vk), .int .i64 ((xs.getD i op0).vn), .string ((xs.getD i op0).vt), .int .i64 ((xs.getD i op0).count), .slice B_23 ((xs.getD i op0).attrs.length) c_24])] (fun w_ => [A = some ad_20, (0 : Int) ≤ (i : Int), (i : Int) < (xs.length : Int), LoadsAs Tryd.prog 33 (ad_20.add ((i : Int).toNat * 7)) (.agg #[.int .i64 ((xs.getD i op0).kind), .string ((xs.getD i op0).text), .int .i64 ((xs.getD i op0).vk), .int .i64 ((xs.getD i op0).vn), .string ((xs.getD i op0).vt), .int .i64 ((xs.getD i op0).count), .slice B_23 ((xs.getD i op0).attrs.length) c_24]) w_]) (fun _ _ _ _ h => h) (fun w_ => by kernel_rfl) rfl (fun w_ hC_ => ⟨ha_21, (by omega), (by omega), loadsE rfl rfl (cells_below hc_22 hC_) 0 ⟨by kernel_rfl, by kernel_rfl⟩, trivial⟩) ?_
    refine XB_mid (fuel' := 3) 4 #[true, true, true, true, true, false, true, true, true, true, false, false] _ rfl (by kernel_rfl) (by kernel_rfl) rfl ?_
    refine XL_call 18 rfl rfl rfl ent18 [.agg #[.int .i64 ((xs.getD i op0).kind), .string ((xs.getD i op0).text), .int .i64 ((xs.getD i op0).vk), .int .i64 ((xs.getD i op0).vn), .string ((xs.getD i op0).vt), .int .i64 ((xs.getD i op0).count), .slice B_16 ((xs.getD i op0).attrs.length) c_17]] (by kernel_rfl) (ocheck_any (xs.getD i op0) _ _ _ hC_19 (hz i (by omega)) (hT.below (bt (bt (bt hb_2 hb_6) HB) hb_11)) es (hO.below (bt (bt (bt hb_2 hb_6) HB) hb_11))) ?_
    rintro e w_27 ⟨rfl, hb_28⟩; refine ⟨_, rfl, ?_⟩
    refine XL_nil ?_
    refine ⟨hb_28, ?_⟩
    refine XB_mid (fuel' := 2) 5 #[true, true, true, true, true, true, true, true, true, true, false, false] _ rfl (by kernel_rfl) (by kernel_rfl) rfl ?_
    have hB_29 : Below w.heap.size w w_27 := (bt (bt (bt (bt hb_2 hb_6) HB) hb_11) hb_28)
    refine XL_call 17 rfl rfl rfl ent17 [errV es (pErr (xs.getD i op0))] (by kernel_rfl) (num_any es (pErr (xs.getD i op0)) (pErr_le _) _ (hE.below hB_29)) ?_
    rintro e w_30 ⟨rfl, hb_31⟩; refine ⟨_, rfl, ?_⟩
    refine XL_nil ?_
    refine ⟨(bt hb_28 hb_31), ?_⟩
    refine XB_mid (fuel' := 1) 10 #[true, true, true, true, true, true, true, true, true, true, true, false] _ rfl (by kernel_rfl) (by kernel_rfl) rfl ?_
    refine XL_call 19 rfl rfl rfl ent19 [.agg #[.int .i64 ((xs.getD i op0).kind), .string ((xs.getD i op0).text), .int .i64 ((xs.getD i op0).vk), .int .i64 ((xs.getD i op0).vn), .string ((xs.getD i op0).vt), .int .i64 ((xs.getD i op0).count), .slice B_23 ((xs.getD i op0).attrs.length) c_24]] (by kernel_rfl) (r5check_any (xs.getD i op0) _ _ _ (Kd.C_below hC_26 (bt hb_28 hb_31)) (hz i (by omega)) (hT.below (bt hB_29 hb_31))) ?_
    rintro e w_32 ⟨rfl, hb_33⟩; refine ⟨_, rfl, ?_⟩
    refine XL_nil ?_
    refine ⟨(bt (bt hb_28 hb_31) hb_33), ?_⟩
    refine XB_run (fuel' := 0) (bt (bt hb_28 hb_31) hb_33) [11] [(33, .eq (.bool false))] [.bool false] #[true, true, true, true, true, true, true, true, true, true, true, true] [(0, .slice A xs.length c), (1, .slice B ys.length d), (5, .slice A_3 xs.length c_4), (18, .int .i64 (xs.length : Int)), (19, .int .i64 (i : Int)), (33, .bool false)] (fun w_ => [Value.bool (((pErr (xs.getD i op0)) : Int) != ((pErr (xs.getD i op0)) : Int)) = Value.bool false]) (fun _ _ _ _ h => h) (fun w_ => by kernel_rfl) rfl (fun w_ hC_ => ⟨congrArg Value.bool (bneF rfl), trivial⟩) ?_
    refine XB_done (by kernel_rfl) ?_
    refine X_cond false rfl ?_
    refine X_skip ?_
    refine X_region ?_
    refine XL_run 2 [(34, .eq (.int .i64 ((i : Int) + 1)))] [(0, .slice A xs.length c), (1, .slice B ys.length d), (5, .slice A_3 xs.length c_4), (18, .int .i64 (xs.length : Int)), (19, .int .i64 ((i : Int) + 1))] w_32 [Value.int .i64 (IntKind.i64.wrap ((i : Int) + 1)) = Value.int .i64 ((i : Int) + 1)] (by kernel_rfl) ⟨wr_i64 (by omega) (by omega), trivial⟩ ?_
    refine XL_nil ?_
    have hB_34 : Below w_5.heap.size w_5 w_32 := (bt (bt (bt (bt HB hb_11) hb_28) hb_31) hb_33)
    refine ⟨(i + 1), by kernel_rfl, ?_, ?_⟩
    · exact ⟨by omega, hB_34⟩
    · (try dsimp only); omega
  · refine XL_run 1 [(20, .eq (.bool false))] [(0, .slice A xs.length c), (1, .slice B ys.length d), (5, .slice A_3 xs.length c_4), (18, .int .i64 (xs.length : Int)), (19, .int .i64 (i : Int)), (20, .bool false)] wl [Value.bool (decide ((i : Int) < (xs.length : Int))) = Value.bool false] (by kernel_rfl) ⟨congrArg Value.bool (decide_eq_false (c_9)), trivial⟩ ?_
    refine XL_nil ?_
    refine X_seq ?_
    refine X_cond false rfl ?_
    refine X_exit ?_
    refine X_seq ?_
    refine X_region ?_
    refine XL_run 1 [] [(0, .slice A xs.length c), (1, .slice B ys.length d), (5, .slice A_3 xs.length c_4), (36, .slice A_3 xs.length c_4)] wl [] (by kernel_rfl) trivial ?_
    refine XL_call 20 rfl rfl rfl ent20 [.slice A_3 xs.length c_4] (by kernel_rfl) (olen_any _ _ xs _ (Kd.R_C (Kd.R_below hr_8 HB)) (by omega) hz (hT.below (bt (bt hb_2 hb_6) HB)) es (hO.below (bt (bt hb_2 hb_6) HB))) ?_
    rintro e w_35 ⟨rfl, hb_36⟩; refine ⟨_, rfl, ?_⟩
    refine XL_run 7 [] [(0, .slice A xs.length c), (1, .slice B ys.length d), (5, .slice A_3 xs.length c_4), (7, .int .i64 ((lenP xs).1)), (8, .int .i64 ((lenP xs).2.1)), (9, errV es ((lenP xs).2.2))] w_35 [] (by kernel_rfl) trivial ?_
    refine XL_nil ?_
    refine X_seq ?_
    refine X_region ?_
    refine XL_run 1 [] [(0, .slice A xs.length c), (1, .slice B ys.length d), (5, .slice A_3 xs.length c_4), (7, .int .i64 ((lenP xs).1)), (8, .int .i64 ((lenP xs).2.1)), (9, errV es ((lenP xs).2.2)), (42, .slice A xs.length c)] w_35 [] (by kernel_rfl) trivial ?_
    refine XL_call 21 rfl rfl rfl ent21 [.slice A xs.length c] (by kernel_rfl) (r5lens_any _ _ xs _ (Kd.C_below hx (bt (bt (bt hb_2 hb_6) HB) hb_36)) (by omega) hz (hT.below (bt (bt (bt hb_2 hb_6) HB) hb_36))) ?_
    rintro e w_37 ⟨rfl, hb_38⟩; refine ⟨_, rfl, ?_⟩
    refine XL_run 7 [] [(0, .slice A xs.length c), (1, .slice B ys.length d), (5, .slice A_3 xs.length c_4), (7, .int .i64 ((lenP xs).1)), (8, .int .i64 ((lenP xs).2.1)), (9, errV es ((lenP xs).2.2)), (10, .int .i64 ((lenP xs).1)), (11, .int .i64 ((lenP xs).2.1)), (12, .int .i64 (((lenP xs).2.2) : Int))] w_37 [] (by kernel_rfl) trivial ?_
    refine XL_nil ?_
    refine X_seq ?_
    refine X_seq ?_
    refine X_region ?_
    refine XL_run 10 [(49, .eq (.bool false)), (53, .eq (.bool false))] [(0, .slice A xs.length c), (1, .slice B ys.length d), (5, .slice A_3 xs.length c_4), (12, .int .i64 (((lenP xs).2.2) : Int)), (55, .bool false), (56, errV es ((lenP xs).2.2))] w_37 [Value.bool ((lenP xs).1 != (lenP xs).1) = Value.bool false, Value.bool ((lenP xs).2.1 != (lenP xs).2.1) = Value.bool false] (by kernel_rfl) ⟨congrArg Value.bool (bneF rfl), congrArg Value.bool (bneF rfl), trivial⟩ ?_
    have hB_39 : Below w.heap.size w w_37 := (bt (bt (bt (bt hb_2 hb_6) HB) hb_36) hb_38)
    refine XL_call 17 rfl rfl rfl ent17 [errV es ((lenP xs).2.2)] (by kernel_rfl) (num_any es ((lenP xs).2.2) (lenP_le _) _ (hE.below hB_39)) ?_
    rintro e w_40 ⟨rfl, hb_41⟩; refine ⟨_, rfl, ?_⟩
    refine XL_run 3 [(59, .eq (.bool false))] [(0, .slice A xs.length c), (1, .slice B ys.length d), (5, .slice A_3 xs.length c_4), (60, .bool false)] w_40 [Value.bool ((((lenP xs).2.2) : Int) != (((lenP xs).2.2) : Int)) = Value.bool false] (by kernel_rfl) ⟨congrArg Value.bool (bneF rfl), trivial⟩ ?_
    refine XL_nil ?_
    refine X_cond false rfl ?_
    refine X_skip ?_
    refine X_seq ?_
    refine X_region ?_
    refine XL_run 1 [] [(0, .slice A xs.length c), (1, .slice B ys.length d), (5, .slice A_3 xs.length c_4), (61, .slice A_3 xs.length c_4)] w_40 [] (by kernel_rfl) trivial ?_
    refine XL_call 22 rfl rfl rfl ent22 [.slice A_3 xs.length c_4] (by kernel_rfl) (ocan_any _ _ xs _ (Kd.R_C (Kd.R_below hr_8 (bt (bt (bt HB hb_36) hb_38) hb_41))) (by omega) hz (hT.below (bt hB_39 hb_41)) es (hO.below (bt hB_39 hb_41))) ?_
    rintro e w_42 ⟨rfl, hb_43⟩; refine ⟨_, rfl, ?_⟩
    refine XL_run 1 [] [(0, .slice A xs.length c), (1, .slice B ys.length d), (5, .slice A_3 xs.length c_4), (62, .bool (canP xs)), (63, .slice A xs.length c)] w_42 [] (by kernel_rfl) trivial ?_
    refine XL_call 23 rfl rfl rfl ent23 [.slice A xs.length c] (by kernel_rfl) (r5can_any _ _ xs _ (Kd.C_below hx (bt (bt hB_39 hb_41) hb_43)) (by omega) hz (hT.below (bt (bt hB_39 hb_41) hb_43))) ?_
    rintro e w_44 ⟨rfl, hb_45⟩; refine ⟨_, rfl, ?_⟩
    refine XL_run 4 [(65, .eq (.bool true))] [(0, .slice A xs.length c), (1, .slice B ys.length d), (5, .slice A_3 xs.length c_4), (66, .bool true), (67, .slice A_3 xs.length c_4), (68, .slice B ys.length d)] w_44 [Value.bool ((canP xs) == (canP xs)) = Value.bool true] (by kernel_rfl) ⟨congrArg Value.bool (beq_self_eq_true _), trivial⟩ ?_
    have hB_46 : Below w_5.heap.size w_5 w_44 := (bt (bt (bt (bt (bt HB hb_36) hb_38) hb_41) hb_43) hb_45)
    refine XL_call 24 rfl rfl rfl ent24 [.slice A_3 xs.length c_4, .slice B ys.length d] (by kernel_rfl) (osame_any _ _ _ _ xs ys _ (Kd.R_C (Kd.R_below hr_8 hB_46)) (Kd.C_below hy (bt (bt (bt hB_39 hb_41) hb_43) hb_45))) ?_
    rintro e w_47 ⟨rfl, hb_48⟩; refine ⟨_, rfl, ?_⟩
    refine XL_run 2 [] [(0, .slice A xs.length c), (5, .slice A_3 xs.length c_4), (66, .bool true), (69, .bool (opsEqP xs ys)), (70, .slice A xs.length c), (71, .slice B ys.length d)] w_47 [] (by kernel_rfl) trivial ?_
    have hB_49 : Below w.heap.size w w_47 := (bt (bt (bt (bt hB_39 hb_41) hb_43) hb_45) hb_48)
    refine XL_call 25 rfl rfl rfl ent25 [.slice A xs.length c, .slice B ys.length d] (by kernel_rfl) (r5same_any _ _ _ _ xs ys _ (Kd.C_below hx hB_49) (Kd.C_below hy hB_49)) ?_
    rintro e w_50 ⟨rfl, hb_51⟩; refine ⟨_, rfl, ?_⟩
    refine XL_run 5 [(73, .eq (.bool true))] [(0, .slice A xs.length c), (5, .slice A_3 xs.length c_4), (75, .bool true), (76, .slice A_3 xs.length c_4), (77, .slice A xs.length c)] w_50 [Value.bool ((opsEqP xs ys) == (opsEqP xs ys)) = Value.bool true] (by kernel_rfl) ⟨congrArg Value.bool (beq_self_eq_true _), trivial⟩ ?_
    refine XL_call 24 rfl rfl rfl ent24 [.slice A_3 xs.length c_4, .slice A xs.length c] (by kernel_rfl) (osame_any _ _ _ _ xs xs _ (Kd.R_C (Kd.R_below hr_8 (bt (bt hB_46 hb_48) hb_51))) (Kd.C_below hx (bt hB_49 hb_51))) ?_
    rintro e w_52 ⟨rfl, hb_53⟩; refine ⟨_, rfl, ?_⟩
    rw [(opsEqP_iff xs xs).2 rfl]
    refine XL_run 4 [] [(80, .bool true), (81, .slice A_3 xs.length c_4), (82, .slice A xs.length c)] w_52 [] (by kernel_rfl) trivial ?_
    refine XL_call 25 rfl rfl rfl ent25 [.slice A_3 xs.length c_4, .slice A xs.length c] (by kernel_rfl) (r5same_any _ _ _ _ xs xs _ (Kd.R_C (Kd.R_below hr_8 (bt (bt (bt hB_46 hb_48) hb_51) hb_53))) (Kd.C_below hx (bt (bt hB_49 hb_51) hb_53))) ?_
    rintro e w_54 ⟨rfl, hb_55⟩; refine ⟨_, rfl, ?_⟩
    rw [(opsEqP_iff xs xs).2 rfl]
    refine XL_run 2 [] [(4, .bool true)] w_54 [] (by kernel_rfl) trivial ?_
    refine XL_nil ?_
    refine X_ret ?_
    refine RX.ret_ok (P := Tryd.prog) (fn := Tryd.f3) (N := 85) (R := R_) [.bool true] (by kernel_rfl) (hR_ _ _ ?_)
    exact ⟨rfl, (bt (bt (bt hB_49 hb_51) hb_53) hb_55)⟩
end Go.Proofs.YtekfdfafhfhfbaaDoor
