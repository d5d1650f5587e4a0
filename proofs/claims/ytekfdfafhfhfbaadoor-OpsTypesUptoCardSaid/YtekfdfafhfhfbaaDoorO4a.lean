/- What vellumlaw05.fixed and copied answer. Conditions: sizes, the tables of utf8, the errors' variables. -/
import Derived.Test.YtekfdfafhfhfbaaDoorO2
import Derived.Test.YtekfdfafhfhfbaaDoorCap
import Derived.Test.YtekfdfafhfhfbaaDoorAn2
set_option linter.unusedVariables false
set_option linter.unusedSimpArgs false
set_option maxRecDepth 100000
namespace Go.Proofs.YtekfdfafhfhfbaaDoor
open Go Go.RowKit Go.Proofs.YtekfdfafhfhfbaaDoorW.PrintWords RX
theorem ent15 : Ent Tryd.prog 15 := ent_of Tryd.func15 (by kernel_rfl) rfl
theorem ent16 : Ent Tryd.prog 16 := ent_of Tryd.func16 (by kernel_rfl) rfl
def fxA : OpA := ⟨3, ByteArray.empty, 0, 0, ByteArray.empty, 3, []⟩
def fxB : OpA := ⟨1, (⟨#[97, 98]⟩ : ByteArray), 0, 0, ByteArray.empty, 0, []⟩
def fxC : OpA := ⟨4, ByteArray.empty, 0, 0, ByteArray.empty, 2, []⟩
def fxD : OpA := ⟨4, ByteArray.empty, 0, 0, ByteArray.empty, 0, []⟩
def fxL : List OpA := [fxA, fxB, fxC]
def fxL1 : List OpA := [fxA]
def fxP : List PieceA := [.ret [] 3, .ins [] (⟨#[97, 98]⟩ : ByteArray) 2, .del 2]
theorem fx_sc : U.sc (⟨#[97, 98]⟩ : ByteArray) = [97, 98] := (U.utf_of (s := (⟨#[97, 98]⟩ : ByteArray)) (rs := [97, 98]) (by decide) (by decide +kernel)).2
theorem fx_a : pErr fxA = 0 := by kernel_rfl
theorem fx_b : pErr fxB = 0 := by kernel_rfl
theorem fx_c : pErr fxC = 0 := by kernel_rfl
theorem fx_d : pErr fxD = 9 := by kernel_rfl
theorem fx_bad : badE fxL = 0 := badE_mem.2 (by
  intro o ho
  simp only [fxL, List.mem_cons, List.not_mem_nil, or_false] at ho
  rcases ho with rfl | rfl | rfl
  · exact fx_a
  · exact fx_b
  · exact fx_c)
theorem fx_bad1 : badE fxL1 = 0 := badE_mem.2 (by
  intro o ho
  simp only [fxL1, List.mem_cons, List.not_mem_nil, or_false] at ho
  rcases ho with rfl
  exact fx_a)
theorem fx_scb : (U.sc fxB.text).length = 2 := by rw [show fxB.text = (⟨#[97, 98]⟩ : ByteArray) from rfl, fx_sc]; rfl
theorem fx_oa : opLen fxA = 3 := rfl
theorem fx_ob : opLen fxB = 2 := by unfold opLen; rw [if_pos (show fxB.kind = 1 from rfl), fx_scb]; rfl
theorem fx_oc : opLen fxC = 2 := rfl
theorem fx_sB : sB fxL = 5 := by
  have h1 : opB fxA = 3 := rfl
  have h2 : opB fxB = 0 := rfl
  have h3 : opB fxC = 2 := rfl
  show opB fxA + (opB fxB + (opB fxC + 0)) = 5
  rw [h1, h2, h3]; rfl
theorem fx_sR : sR fxL = 5 := by
  have h1 : opR fxA = 3 := rfl
  have h2 : opR fxB = 2 := by show (if fxB.kind = 4 then 0 else opLen fxB) = 2; rw [if_neg (by decide), fx_ob]
  have h3 : opR fxC = 0 := rfl
  show opR fxA + (opR fxB + (opR fxC + 0)) = 5
  rw [h1, h2, h3]; rfl
theorem fx_len : lenP fxL = (5, 5, 0) := by rw [lenP_ok fx_bad (by rw [fx_sB, fx_sR]; decide), fx_sB, fx_sR]
theorem fx_of : ofP fxL = fxP := by
  rw [ofP_ok fx_bad]
  show [pOf fxA, pOf fxB, pOf fxC] = fxP
  rw [pOf_ret (show fxA.kind = 3 from rfl), pOf_ins (show fxB.kind = 1 from rfl), pOf_del (show fxC.kind = 4 from rfl), fx_scb]; rfl
theorem fx_can : canP fxL = true := (canP_iff _).2 ⟨by rw [fx_len], by
  intro i hi
  have h2 : i = 0 ∨ i = 1 := by simp only [fxL, List.length_cons, List.length_nil] at hi; omega
  rcases h2 with rfl | rfl <;> rfl, .inr (fun h => absurd h.1 (by decide))⟩
theorem fx_can1 : canP fxL1 = false := (canP_false _).2 fun h => by
  rcases h.2.2 with h | h
  · cases h
  · exact h ⟨rfl, rfl⟩
theorem fx_same : opsEqP fxL fxL = true := (opsEqP_iff _ _).2 rfl
theorem opSz_nil {o : OpA} (h1 : o.text.size ≤ 2) (h2 : o.vt.size = 0) (h3 : o.attrs = []) : opSz o := ⟨by omega, by omega, by rw [h3]; decide, fun i hi => by rw [h3] at hi; cases hi⟩
theorem fx_sz : ∀ i, i < fxL.length → opSz (fxL.getD i op0) := by
  intro i hi
  have h2 : i = 0 ∨ i = 1 ∨ i = 2 := by simp only [fxL, List.length_cons, List.length_nil] at hi; omega
  rcases h2 with rfl | rfl | rfl
  · exact opSz_nil (by decide) rfl rfl
  · exact opSz_nil (by decide) rfl rfl
  · exact opSz_nil (by decide) rfl rfl
theorem fx_sz1 : ∀ i, i < fxL1.length → opSz (fxL1.getD i op0) := by
  intro i hi
  have h2 : i = 0 := by simp only [fxL1, List.length_cons, List.length_nil] at hi; omega
  subst h2
  exact opSz_nil (by decide) rfl rfl
theorem fx_szd : opSz fxD := opSz_nil (by decide) rfl rfl
set_option maxHeartbeats 4000000 in
theorem fixed_any (w : World) (hT : Tabs w) (es : List Addr) (hE : ErrsO w es) : Calls Tryd.prog 15 #[] w fun e w' => e = .returned (.bool true) ∧ Below w.heap.size w w' := by
  refine RX.enter Tryd.func15 rfl 75 rfl [] rfl (by kernel_rfl) (fun R_ hR_ => ?_)
  refine X_seq ?_
  refine X_region ?_
  refine XL_run 1 [] [] w [] (by kernel_rfl) trivial ?_
  refine XL_nil ?_
  refine X_seq ?_
  refine X_region ?_
  refine XL_run 4 [] [(11, .slice (some ⟨w.heap.size, 0, none⟩) 3 3)] (w.alloc (.cells #[.int .i64 3, .string ByteArray.empty, .int .i64 0, .int .i64 0, .string ByteArray.empty, .int .i64 3, .slice none 0 0, .int .i64 1, .string (⟨#[97, 98]⟩ : ByteArray), .int .i64 0, .int .i64 0, .string ByteArray.empty, .int .i64 0, .slice none 0 0, .int .i64 4, .string ByteArray.empty, .int .i64 0, .int .i64 0, .string ByteArray.empty, .int .i64 2, .slice none 0 0] 33)) [] (by kernel_rfl) trivial ?_
  obtain ⟨w_1, hw_5, hb_2, hk_3, hz_4⟩ := new_world w #[.int .i64 3, .string ByteArray.empty, .int .i64 0, .int .i64 0, .string ByteArray.empty, .int .i64 3, .slice none 0 0, .int .i64 1, .string (⟨#[97, 98]⟩ : ByteArray), .int .i64 0, .int .i64 0, .string ByteArray.empty, .int .i64 0, .slice none 0 0, .int .i64 4, .string ByteArray.empty, .int .i64 0, .int .i64 0, .string ByteArray.empty, .int .i64 2, .slice none 0 0] 33
  rw [hw_5]
  refine XL_run 1 [] [(1, .slice (some ⟨w.heap.size, 0, none⟩) 3 3)] w_1 [] (by kernel_rfl) trivial ?_
  refine XL_nil ?_
  refine X_seq ?_
  refine X_region ?_
  refine XL_run 1 [] [(1, .slice (some ⟨w.heap.size, 0, none⟩) 3 3), (13, .slice (some ⟨w.heap.size, 0, none⟩) 3 3)] w_1 [] (by kernel_rfl) trivial ?_
  have hr_6 := Kd.R_litB kOp (W := w) (e := 33) (cs := #[.int .i64 3, .string ByteArray.empty, .int .i64 0, .int .i64 0, .string ByteArray.empty, .int .i64 3, .slice none 0 0, .int .i64 1, .string (⟨#[97, 98]⟩ : ByteArray), .int .i64 0, .int .i64 0, .string ByteArray.empty, .int .i64 0, .slice none 0 0, .int .i64 4, .string ByteArray.empty, .int .i64 0, .int .i64 0, .string ByteArray.empty, .int .i64 2, .slice none 0 0]) [(⟨3, ByteArray.empty, 0, 0, ByteArray.empty, 3, []⟩ : OpA), (⟨1, (⟨#[97, 98]⟩ : ByteArray), 0, 0, ByteArray.empty, 0, []⟩ : OpA), (⟨4, ByteArray.empty, 0, 0, ByteArray.empty, 2, []⟩ : OpA)] hk_3 (repsOp0 [(⟨3, ByteArray.empty, 0, 0, ByteArray.empty, 3, []⟩ : OpA), (⟨1, (⟨#[97, 98]⟩ : ByteArray), 0, 0, ByteArray.empty, 0, []⟩ : OpA), (⟨4, ByteArray.empty, 0, 0, ByteArray.empty, 2, []⟩ : OpA)] (by intro x hx; simp only [List.mem_cons, List.not_mem_nil, or_false] at hx; rcases hx with rfl | rfl | rfl <;> rfl)) (Nat.le_of_ble_eq_true (by kernel_rfl))
  have hL_7 : kOp.R 33 w_1 w.heap.size (OkFrom w.heap.size) (.slice (some ⟨w.heap.size, 0, none⟩) 3 3) fxL := hr_6
  refine XL_call 20 rfl rfl rfl ent20 [.slice (some ⟨w.heap.size, 0, none⟩) 3 3] (by kernel_rfl) (olen_any _ _ fxL _ (Kd.R_C hL_7) (by decide) fx_sz (hT.below hb_2) es (hE.below hb_2)) ?_
  rintro e w_8 ⟨rfl, hb_9⟩; refine ⟨_, rfl, ?_⟩
  rw [fx_len]
  refine XL_run 7 [] [(1, .slice (some ⟨w.heap.size, 0, none⟩) 3 3), (2, .int .i64 5), (3, .int .i64 5), (4, .nilIface)] w_8 [] (by kernel_rfl) trivial ?_
  refine XL_nil ?_
  refine X_seq ?_
  refine X_region ?_
  refine XL_run 1 [] [(1, .slice (some ⟨w.heap.size, 0, none⟩) 3 3), (2, .int .i64 5), (3, .int .i64 5), (4, .nilIface), (19, .slice (some ⟨w.heap.size, 0, none⟩) 3 3)] w_8 [] (by kernel_rfl) trivial ?_
  refine XL_call 26 rfl rfl rfl ent26 [.slice (some ⟨w.heap.size, 0, none⟩) 3 3] (by kernel_rfl) (of_any _ _ fxL _ (Kd.R_C (Kd.R_below hL_7 hb_9)) (by decide) fx_sz (hT.below (bt hb_2 hb_9)) es (hE.below (bt hb_2 hb_9))) ?_
  rintro e w_13 ⟨A_10, c_11, rfl, hr_12, hb_14⟩; refine ⟨_, rfl, ?_⟩
  rw [fx_of] at hr_12 ⊢; rw [badI_none fx_bad, fx_bad]
  replace hr_12 : kPiece.R 47 w_13 w_8.heap.size (OkFrom w_8.heap.size) (.slice A_10 3 c_11) fxP := hr_12
  refine XL_run 7 [] [(1, .slice (some ⟨w.heap.size, 0, none⟩) 3 3), (2, .int .i64 5), (3, .int .i64 5), (4, .nilIface), (5, .slice A_10 3 c_11), (7, .nilIface)] w_13 [] (by kernel_rfl) trivial ?_
  refine XL_nil ?_
  refine X_seq ?_
  refine X_seq ?_
  refine X_region ?_
  refine XL_run 21 [] [(1, .slice (some ⟨w.heap.size, 0, none⟩) 3 3), (5, .slice A_10 3 c_11), (43, .bool false), (44, .slice A_10 3 c_11)] w_13 [] (by kernel_rfl) trivial ?_
  obtain ⟨ad_15, v_18, ha_16, hc_17, hK_19⟩ := Kd.atPiece (Kd.R_C hr_12) (i := (1 : Int)) (by omega) (by omega)
  replace hK_19 : kPiece.K w_13 (fxP.getD 1 piece0) [v_18] := hK_19
  refine XL_run 1 [(45, .idx ad_15)] [(1, .slice (some ⟨w.heap.size, 0, none⟩) 3 3), (5, .slice A_10 3 c_11), (43, .bool false), (45, .pointer (some (ad_15.add ((1 : Int).toNat * 1))))] w_13 [A_10 = some ad_15, (0 : Int) ≤ 1, 1 < (3 : Int)] (by kernel_rfl) ⟨ha_16, (by omega), (by omega), trivial⟩ ?_
  obtain ⟨A_20, c_21, e_22, _, _⟩ := kPiece_ins (a := []) (t := (⟨#[97, 98]⟩ : ByteArray)) (n := 2) hK_19
  obtain rfl := (List.cons.inj e_22).1
  refine XL_run 5 [(46, .load (.iface 51 (.agg #[.slice A_20 0 c_21, .string (⟨#[97, 98]⟩ : ByteArray), .int .i64 2])))] [(1, .slice (some ⟨w.heap.size, 0, none⟩) 3 3), (49, .bool false), (50, .slice A_10 3 c_11)] w_13 [LoadsAs Tryd.prog 47 (ad_15.add ((1 : Int).toNat * 1)) (.iface 51 (.agg #[.slice A_20 0 c_21, .string (⟨#[97, 98]⟩ : ByteArray), .int .i64 2])) w_13] (by kernel_rfl) ⟨loads1 rfl (elem_cell hc_17 0 _ rfl), trivial⟩ ?_
  obtain ⟨ad_23, v_26, ha_24, hc_25, hK_27⟩ := Kd.atPiece (Kd.R_C hr_12) (i := (1 : Int)) (by omega) (by omega)
  replace hK_27 : kPiece.K w_13 (fxP.getD 1 piece0) [v_26] := hK_27
  refine XL_run 1 [(51, .idx ad_23)] [(1, .slice (some ⟨w.heap.size, 0, none⟩) 3 3), (49, .bool false), (51, .pointer (some (ad_23.add ((1 : Int).toNat * 1))))] w_13 [A_10 = some ad_23, (0 : Int) ≤ 1, 1 < (3 : Int)] (by kernel_rfl) ⟨ha_24, (by omega), (by omega), trivial⟩ ?_
  obtain ⟨A_28, c_29, e_30, _, _⟩ := kPiece_ins (a := []) (t := (⟨#[97, 98]⟩ : ByteArray)) (n := 2) hK_27
  obtain rfl := (List.cons.inj e_30).1
  refine XL_run 1 [(52, .load (.iface 51 (.agg #[.slice A_28 0 c_29, .string (⟨#[97, 98]⟩ : ByteArray), .int .i64 2])))] [(1, .slice (some ⟨w.heap.size, 0, none⟩) 3 3), (49, .bool false), (52, .iface 51 (.agg #[.slice A_28 0 c_29, .string (⟨#[97, 98]⟩ : ByteArray), .int .i64 2]))] w_13 [LoadsAs Tryd.prog 47 (ad_23.add ((1 : Int).toNat * 1)) (.iface 51 (.agg #[.slice A_28 0 c_29, .string (⟨#[97, 98]⟩ : ByteArray), .int .i64 2])) w_13] (by kernel_rfl) ⟨loads1 rfl (elem_cell hc_25 0 _ rfl), trivial⟩ ?_
  refine XL_inv 165 #[.agg #[.slice A_28 0 c_29, .string (⟨#[97, 98]⟩ : ByteArray), .int .i64 2]] rfl rfl (by kernel_rfl) (by kernel_rfl) (insertLen_any _ _ _ _ _ _) ?_
  rintro e w_31 ⟨rfl, hb_32⟩; refine ⟨_, rfl, ?_⟩
  refine XL_run 2 [] [(1, .slice (some ⟨w.heap.size, 0, none⟩) 3 3), (55, .bool false)] w_31 [] (by kernel_rfl) trivial ?_
  refine XL_nil ?_
  refine X_cond false rfl ?_
  refine X_skip ?_
  refine X_seq ?_
  refine X_grow [] 20 #[false, false, false, false, false, false, false, false, false, false, false, false, false, false, false, false, false, false, false, false] (by kernel_rfl) (by kernel_rfl) (by kernel_rfl) (fun wd_33 hb_34 hh_35 => ?_)
  refine XB_run (fuel' := 19) (Below.refl _ _) [0] [] [.slice (some ⟨w.heap.size, 0, none⟩) 3 3] #[true, false, false, false, false, false, false, false, false, false, false, false, false, false, false, false, false, false, false, false] [(1, .slice (some ⟨w.heap.size, 0, none⟩) 3 3), (56, .slice (some ⟨w.heap.size, 0, none⟩) 3 3)] (fun w_ => []) (fun _ _ _ _ h => h) (fun w_ => by kernel_rfl) rfl (fun w_ hC_ => trivial) ?_
  refine XB_mid (fuel' := 18) 1 #[true, true, false, false, false, false, false, false, false, false, false, false, false, false, false, false, false, false, false, false] _ rfl (by kernel_rfl) (by kernel_rfl) rfl ?_
  have hB_36 : Below w.heap.size w wd_33 := (bt (bt (bt (bt hb_2 hb_9) hb_14) hb_32) hb_34)
  refine XL_call 22 rfl rfl rfl ent22 [.slice (some ⟨w.heap.size, 0, none⟩) 3 3] (by kernel_rfl) (ocan_any _ _ fxL _ (Kd.R_C (Kd.R_below hL_7 (bt (bt (bt hb_9 hb_14) hb_32) hb_34))) (by decide) fx_sz (hT.below hB_36) es (hE.below hB_36)) ?_
  rintro e w_37 ⟨rfl, hb_38⟩; refine ⟨_, rfl, ?_⟩
  rw [fx_can]
  refine XL_nil ?_
  refine ⟨hb_38, ?_⟩
  have hB_39 : Below w_1.heap.size w_1 w_37 := (bt (bt (bt (bt hb_9 hb_14) hb_32) hb_34) hb_38)
  have hC_40 : kOp.C w_37 (some ⟨w.heap.size, 0, none⟩) 1 fxL1 := by have h := RX.Kd.C_take (m := 1) (Kd.R_C (Kd.R_below hL_7 hB_39)) (by first | omega | (simp; done) | (simp; omega)); rwa [show (List.take 1 fxL) = fxL1 from rfl] at h
  refine XB_run (fuel' := 15) hb_38 [2, 3, 4] [(60, .as (.slice (some ⟨w.heap.size, 0, none⟩) 1 3))] [.bool true, .slice (some ⟨w.heap.size, 0, none⟩) 3 3, .slice (some ⟨w.heap.size, 0, none⟩) 1 3] #[true, true, true, true, true, false, false, false, false, false, false, false, false, false, false, false, false, false, false, false] [(1, .slice (some ⟨w.heap.size, 0, none⟩) 3 3), (58, .bool true), (60, .slice (some ⟨w.heap.size, 0, none⟩) 1 3)] (fun w_ => [RunsAs Tryd.prog [(59, .slice (some ⟨w.heap.size, 0, none⟩) 3 3)] (Go.Op.slice 22 (Go.Operand.tmp 59) none (some (Go.Operand.const (Go.Value.int Go.IntKind.i64 1))) none) 22 (.slice (some ⟨w.heap.size, 0, none⟩) 1 3) w_]) (fun _ _ _ _ h => h) (fun w_ => by kernel_rfl) rfl (fun w_ hC_ => ⟨runs_slice_h (h := 1) rfl rfl rfl rfl (by omega) (by have h := (RX.Kd.R_len (Kd.R_below hL_7 hB_39)).2; (try simp only [List.length_append, List.length_cons, List.length_nil] at h); omega), trivial⟩) ?_
  refine XB_mid (fuel' := 14) 5 #[true, true, true, true, true, true, false, false, false, false, false, false, false, false, false, false, false, false, false, false] _ rfl (by kernel_rfl) (by kernel_rfl) rfl ?_
  refine XL_call 22 rfl rfl rfl ent22 [.slice (some ⟨w.heap.size, 0, none⟩) 1 3] (by kernel_rfl) (ocan_any _ _ fxL1 _ (hC_40) (by decide) fx_sz1 (hT.below (bt hB_36 hb_38)) es (hE.below (bt hB_36 hb_38))) ?_
  rintro e w_41 ⟨rfl, hb_42⟩; refine ⟨_, rfl, ?_⟩
  rw [fx_can1]
  refine XL_nil ?_
  refine ⟨(bt hb_38 hb_42), ?_⟩
  refine XB_run (fuel' := 9) (bt hb_38 hb_42) [6, 7, 8, 9, 10] [] [.bool true, .bool true, .bool true, .slice (some ⟨w.heap.size, 0, none⟩) 3 3, .slice (some ⟨w.heap.size, 0, none⟩) 3 3] #[true, true, true, true, true, true, true, true, true, true, true, false, false, false, false, false, false, false, false, false] [(64, .bool true), (65, .slice (some ⟨w.heap.size, 0, none⟩) 3 3), (66, .slice (some ⟨w.heap.size, 0, none⟩) 3 3)] (fun w_ => []) (fun _ _ _ _ h => h) (fun w_ => by kernel_rfl) rfl (fun w_ hC_ => trivial) ?_
  refine XB_mid (fuel' := 8) 11 #[true, true, true, true, true, true, true, true, true, true, true, true, false, false, false, false, false, false, false, false] _ rfl (by kernel_rfl) (by kernel_rfl) rfl ?_
  refine XL_call 24 rfl rfl rfl ent24 [.slice (some ⟨w.heap.size, 0, none⟩) 3 3, .slice (some ⟨w.heap.size, 0, none⟩) 3 3] (by kernel_rfl) (osame_any _ _ _ _ fxL fxL _ (Kd.R_C (Kd.R_below hL_7 (bt hB_39 hb_42))) (Kd.R_C (Kd.R_below hL_7 (bt hB_39 hb_42)))) ?_
  rintro e w_43 ⟨rfl, hb_44⟩; refine ⟨_, rfl, ?_⟩
  rw [fx_same]
  refine XL_nil ?_
  refine ⟨(bt (bt hb_38 hb_42) hb_44), ?_⟩
  refine XB_run (fuel' := 4) (bt (bt hb_38 hb_42) hb_44) [12, 13, 14, 16] [(72, .load (.iface 184 (.pointer (some (errAt es 9)))))] [.bool true, .bool true, .agg #[.int .i64 4, .string ByteArray.empty, .int .i64 0, .int .i64 0, .string ByteArray.empty, .int .i64 0, .slice none 0 0], .iface 184 (.pointer (some (errAt es 9)))] #[true, true, true, true, true, true, true, true, true, true, true, true, true, true, true, false, true, false, false, false] [(69, .bool true), (70, .agg #[.int .i64 4, .string ByteArray.empty, .int .i64 0, .int .i64 0, .string ByteArray.empty, .int .i64 0, .slice none 0 0]), (72, .iface 184 (.pointer (some (errAt es 9))))] (fun w_ => [LoadsAs Tryd.prog 27 (⟨0, 0, none⟩) (.iface 184 (.pointer (some (errAt es 9)))) w_]) (fun _ _ _ _ h => h) (fun w_ => by kernel_rfl) rfl (fun w_ hC_ => ⟨loads1 rfl (((bt hB_36 hC_).cell (World.block_lt_of_cell? _ _ (hE.load 9 0 (by decide) (by decide) rfl))).trans (hE.load 9 0 (by decide) (by decide) rfl)), trivial⟩) ?_
  refine XB_mid (fuel' := 3) 15 #[true, true, true, true, true, true, true, true, true, true, true, true, true, true, true, true, true, false, false, false] _ rfl (by kernel_rfl) (by kernel_rfl) rfl ?_
  refine XL_call 18 rfl rfl rfl ent18 [.agg #[.int .i64 4, .string ByteArray.empty, .int .i64 0, .int .i64 0, .string ByteArray.empty, .int .i64 0, .slice none 0 0]] (by kernel_rfl) (ocheck_any fxD none 0 _ ⟨rfl, by decide, fun h_ => by cases h_⟩ fx_szd (hT.below (bt (bt (bt hB_36 hb_38) hb_42) hb_44)) es (hE.below (bt (bt (bt hB_36 hb_38) hb_42) hb_44))) ?_
  rintro e w_45 ⟨rfl, hb_46⟩; refine ⟨_, rfl, ?_⟩
  rw [fx_d]
  refine XL_nil ?_
  refine ⟨(bt (bt (bt hb_38 hb_42) hb_44) hb_46), ?_⟩
  refine XB_run (fuel' := 0) (bt (bt (bt hb_38 hb_42) hb_44) hb_46) [17, 18, 19] [(73, .as (.bool true))] [.bool true, .bool true, .bool true] #[true, true, true, true, true, true, true, true, true, true, true, true, true, true, true, true, true, true, true, true] [(0, .bool true)] (fun w_ => [RunsAs Tryd.prog [(71, .iface 184 (.pointer (some (errAt es 9)))), (72, .iface 184 (.pointer (some (errAt es 9))))] (Go.Op.binOp Go.BinOp.eql 27 (Go.Operand.tmp 71) (Go.Operand.tmp 72) 27) 4 (.bool true) w_]) (fun _ _ _ _ h => h) (fun w_ => by kernel_rfl) rfl (fun w_ hC_ => ⟨runs_bin rfl rfl rfl (err_self es 9 _), trivial⟩) ?_
  refine XB_done (by kernel_rfl) ?_
  refine X_ret ?_
  refine RX.ret_ok (P := Tryd.prog) (fn := Tryd.f15) (N := 75) (R := R_) [.bool true] (by kernel_rfl) (hR_ _ _ ?_)
  have hB_47 : Below w.heap.size w w_45 := (bt (bt (bt (bt hB_36 hb_38) hb_42) hb_44) hb_46)
  exact ⟨rfl, hB_47⟩
set_option maxHeartbeats 2000000 in
theorem ocopied_any (A : Option Addr) (c : Nat) (xs : List OpA) (w : World) (hx : kOp.C w A xs.length xs) (hn : xs.length ≤ 1100000) (hz : ∀ i, i < xs.length → opSz (xs.getD i op0)) : Calls Tryd.prog 16 #[.slice A xs.length c] w fun e w' => ∃ A' c', e = .returned (.slice A' xs.length c') ∧ xs.length ≤ c' ∧ kOp.R 33 w' w.heap.size (OkFrom w.heap.size) (.slice A' xs.length c') xs ∧ Below w.heap.size w w' := by
  have hpl : xs.length ≤ 9223372036854775807 := hx.2.1
  refine RX.enter Tryd.func16 rfl 24 rfl [(0, .slice A xs.length c)] rfl (by kernel_rfl) (fun R_ hR_ => ?_)
  refine X_seq ?_
  refine X_region ?_
  refine XL_run 1 [] [(0, .slice A xs.length c)] w [] (by kernel_rfl) trivial ?_
  refine XL_nil ?_
  refine X_seq ?_
  refine X_region ?_
  refine XL_run 1 [] [(0, .slice A xs.length c), (6, .slice (some ⟨w.heap.size, 0, none⟩) 0 0)] (w.alloc (.cells #[] 33)) [] (by kernel_rfl) trivial ?_
  obtain ⟨w_1, hw_5, hb_2, hk_3, hz_4⟩ := new_world w #[] 33
  rw [hw_5]
  refine XL_run 1 [] [(0, .slice A xs.length c), (3, .slice (some ⟨w.heap.size, 0, none⟩) 0 0)] w_1 [] (by kernel_rfl) trivial ?_
  refine XL_nil ?_
  refine X_seq ?_
  refine X_seq ?_
  refine X_region ?_
  refine XL_run 3 [] [(3, .slice (some ⟨w.heap.size, 0, none⟩) 0 0), (7, .slice A xs.length c), (8, .int .i64 (xs.length : Int)), (9, .int .i64 0)] w_1 [] (by kernel_rfl) trivial ?_
  refine XL_nil ?_
  refine X_block ?_
  have hr_6 := Kd.R_litB kOp (W := w) (e := 33) (cs := #[]) [] hk_3 (repsOp0 [] (fun _ h => by cases h)) (Nat.le_of_ble_eq_true (by kernel_rfl))
  refine X_loop (ι := Nat × Option Addr × Nat × List OpA) (fun ⟨i, A3, c3, zs3⟩ => [(3, .slice A3 zs3.length c3), (7, .slice A xs.length c), (8, .int .i64 (xs.length : Int)), (9, .int .i64 (i : Int))]) (fun ⟨i, A3, c3, zs3⟩ wl => i ≤ xs.length ∧ zs3 = xs.take i ∧ kOp.R 33 wl w.heap.size (OkFrom w.heap.size) (.slice A3 zs3.length c3) zs3 ∧ w.heap.size ≤ wl.heap.size ∧ Below w.heap.size w wl) (fun ⟨i, A3, c3, zs3⟩ => xs.length - i) (0, (some ⟨w.heap.size, 0, none⟩), 0, []) ⟨by omega, rfl, hr_6, (hb_2).size, hb_2⟩ (by kernel_rfl) ?_
  rintro ⟨i, A3, c3, zs3⟩ wl ⟨hi, he3, hr3, hle3, HB⟩
  have hzl : zs3.length = min i xs.length := by rw [he3, List.length_take]
  have hatl := fun (h_ : i < xs.length) => (hz i h_).2.2.1
  refine X_seq ?_
  refine X_region ?_
  by_cases c_7 : (i : Int) < (xs.length : Int)
  · refine XL_run 1 [(10, .eq (.bool true))] [(3, .slice A3 zs3.length c3), (7, .slice A xs.length c), (8, .int .i64 (xs.length : Int)), (9, .int .i64 (i : Int)), (10, .bool true)] wl [Value.bool (decide ((i : Int) < (xs.length : Int))) = Value.bool true] (by kernel_rfl) ⟨congrArg Value.bool (decide_eq_true (c_7)), trivial⟩ ?_
    refine XL_nil ?_
    refine X_seq ?_
    refine X_cond true rfl ?_
    refine X_skip ?_
    refine X_seq ?_
    refine X_block ?_
    refine X_seq ?_
    refine X_region ?_
    obtain ⟨ad_8, B_11, c_12, ha_9, hc_10, hl_13, hC_14⟩ := Kd.atOp (Kd.C_below hx HB) (i := (i : Int)) (by omega) (by omega)
    replace hc_10 : CellsAt wl (ad_8.add ((i : Int).toNat * 7)) [.int .i64 ((xs.getD i op0).kind), .string ((xs.getD i op0).text), .int .i64 ((xs.getD i op0).vk), .int .i64 ((xs.getD i op0).vn), .string ((xs.getD i op0).vt), .int .i64 ((xs.getD i op0).count), .slice B_11 ((xs.getD i op0).attrs.length) c_12] := hc_10
    replace hl_13 : (xs.getD i op0).attrs.length ≤ c_12 := hl_13
    replace hC_14 : kAttr.C wl B_11 ((xs.getD i op0).attrs.length) (xs.getD i op0).attrs := hC_14
    refine XL_run 3 [(11, .idx ad_8), (12, .load (.agg #[.int .i64 ((xs.getD i op0).kind), .string ((xs.getD i op0).text), .int .i64 ((xs.getD i op0).vk), .int .i64 ((xs.getD i op0).vn), .string ((xs.getD i op0).vt), .int .i64 ((xs.getD i op0).count), .slice B_11 ((xs.getD i op0).attrs.length) c_12]))] [(3, .slice A3 zs3.length c3), (5, .pointer (some ⟨wl.heap.size, 0, none⟩)), (7, .slice A xs.length c), (8, .int .i64 (xs.length : Int)), (9, .int .i64 (i : Int)), (12, .agg #[.int .i64 ((xs.getD i op0).kind), .string ((xs.getD i op0).text), .int .i64 ((xs.getD i op0).vk), .int .i64 ((xs.getD i op0).vn), .string ((xs.getD i op0).vt), .int .i64 ((xs.getD i op0).count), .slice B_11 ((xs.getD i op0).attrs.length) c_12])] (wl.alloc (.cells #[.int .i64 0, .string ByteArray.empty, .int .i64 0, .int .i64 0, .string ByteArray.empty, .int .i64 0, .slice none 0 0] 33)) [A = some ad_8, (0 : Int) ≤ (i : Int), (i : Int) < (xs.length : Int), LoadsAs Tryd.prog 33 (ad_8.add ((i : Int).toNat * 7)) (.agg #[.int .i64 ((xs.getD i op0).kind), .string ((xs.getD i op0).text), .int .i64 ((xs.getD i op0).vk), .int .i64 ((xs.getD i op0).vn), .string ((xs.getD i op0).vt), .int .i64 ((xs.getD i op0).count), .slice B_11 ((xs.getD i op0).attrs.length) c_12]) wl] (by kernel_rfl) ⟨ha_9, (by omega), (by omega), loadsE rfl rfl hc_10 0 ⟨by kernel_rfl, by kernel_rfl⟩, trivial⟩ ?_
    obtain ⟨w_15, hw_19, hb_16, hk_17, hz_18⟩ := new_world wl #[.int .i64 0, .string ByteArray.empty, .int .i64 0, .int .i64 0, .string ByteArray.empty, .int .i64 0, .slice none 0 0] 33
    rw [hw_19]
    refine XL_store (v := .agg #[.int .i64 ((xs.getD i op0).kind), .string ((xs.getD i op0).text), .int .i64 ((xs.getD i op0).vk), .int .i64 ((xs.getD i op0).vn), .string ((xs.getD i op0).vt), .int .i64 ((xs.getD i op0).count), .slice B_11 ((xs.getD i op0).attrs.length) c_12]) rfl rfl rfl (by kernel_rfl) hk_17 0 [.int .i64 ((xs.getD i op0).kind), .string ((xs.getD i op0).text), .int .i64 ((xs.getD i op0).vk), .int .i64 ((xs.getD i op0).vn), .string ((xs.getD i op0).vt), .int .i64 ((xs.getD i op0).count), .slice B_11 ((xs.getD i op0).attrs.length) c_12] #[.int .i64 ((xs.getD i op0).kind), .string ((xs.getD i op0).text), .int .i64 ((xs.getD i op0).vk), .int .i64 ((xs.getD i op0).vn), .string ((xs.getD i op0).vt), .int .i64 ((xs.getD i op0).count), .slice B_11 ((xs.getD i op0).attrs.length) c_12] ⟨by kernel_rfl, rfl, by kernel_rfl⟩ ⟨by kernel_rfl, by kernel_rfl⟩ (Nat.le_of_ble_eq_true (by kernel_rfl)) (fun w_20 hg_21 hk_22 hz_23 => ?_)
    refine XL_nil ?_
    refine X_seq ?_
    refine X_region ?_
    refine XL_run 1 [] [(3, .slice A3 zs3.length c3), (5, .pointer (some ⟨wl.heap.size, 0, none⟩)), (7, .slice A xs.length c), (8, .int .i64 (xs.length : Int)), (9, .int .i64 (i : Int)), (13, .slice (some ⟨w_20.heap.size, 0, none⟩) 0 0)] (w_20.alloc (.cells #[] 79)) [] (by kernel_rfl) trivial ?_
    obtain ⟨w_24, hw_28, hb_25, hk_26, hz_27⟩ := new_world w_20 #[] 79
    rw [hw_28]
    refine XL_run 2 [(15, .load (.slice B_11 ((xs.getD i op0).attrs.length) c_12))] [(3, .slice A3 zs3.length c3), (5, .pointer (some ⟨wl.heap.size, 0, none⟩)), (7, .slice A xs.length c), (8, .int .i64 (xs.length : Int)), (9, .int .i64 (i : Int)), (13, .slice (some ⟨w_20.heap.size, 0, none⟩) 0 0), (15, .slice B_11 ((xs.getD i op0).attrs.length) c_12)] w_24 [LoadsAs Tryd.prog 31 (⟨wl.heap.size, 6, none⟩) (.slice B_11 ((xs.getD i op0).attrs.length) c_12) w_24] (by kernel_rfl) ⟨loads1 rfl (Blk.cell (Blk.below hk_22 hb_25) 6 _ rfl), trivial⟩ ?_
    have hr_29 := Kd.R_litB kAttr (W := w_20) (e := 79) (cs := #[]) [] hk_26 (repsAttr []) (Nat.le_of_ble_eq_true (by kernel_rfl))
    have hB_30 : Below wl.heap.size wl w_24 := (bt (bg hb_16 hg_21 (Nat.le_refl _)) hb_25)
    refine XL_appendAll (c' := c_12) kAttr rfl rfl rfl w_20.heap.size 79 (.agg #[.string ByteArray.empty, .int .i64 0, .int .i64 0, .string ByteArray.empty]) 48 Tryd.underlying31 info79 rfl (by decide) (by omega) ([]) ((xs.getD i op0).attrs) (by kernel_rfl) hr_29 (Kd.C_below hC_14 hB_30) kAttr_KM (hb_25).size (by simp only [List.length_nil]; omega) ?_
    intro A_31 c_32 w_33 hr_34 hc_35 hg_36 hl_37 ha_38
    have hB_39 : Below wl.heap.size wl w_33 := (bgo hB_30 hg_36 hl_37 ((bg hb_16 hg_21 (Nat.le_refl _))).size)
    have he_40 : ([] ++ ((xs.getD i op0).attrs)) = (xs.getD i op0).attrs := List.nil_append _
    rw [he_40] at hr_34 ⊢
    refine XL_run 1 [] [(3, .slice A3 zs3.length c3), (5, .pointer (some ⟨wl.heap.size, 0, none⟩)), (7, .slice A xs.length c), (8, .int .i64 (xs.length : Int)), (9, .int .i64 (i : Int)), (16, .slice A_31 ((xs.getD i op0).attrs.length) c_32), (17, .pointer (some ⟨wl.heap.size, 6, none⟩))] w_33 [] (by kernel_rfl) trivial ?_
    refine XL_store (v := .slice A_31 ((xs.getD i op0).attrs.length) c_32) rfl rfl rfl (by kernel_rfl) (Blk.below hk_22 (bgo hb_25 hg_36 hl_37 (Nat.le_refl _))) 6 [.slice A_31 ((xs.getD i op0).attrs.length) c_32] #[.int .i64 ((xs.getD i op0).kind), .string ((xs.getD i op0).text), .int .i64 ((xs.getD i op0).vk), .int .i64 ((xs.getD i op0).vn), .string ((xs.getD i op0).vt), .int .i64 ((xs.getD i op0).count), .slice A_31 ((xs.getD i op0).attrs.length) c_32] ⟨by kernel_rfl, rfl, by kernel_rfl⟩ ⟨by kernel_rfl, by kernel_rfl⟩ (Nat.le_of_ble_eq_true (by kernel_rfl)) (fun w_41 hg_42 hk_43 hz_44 => ?_)
    have hr_45 := RX.Kd.R_past hr_34 hg_42 (Nat.lt_of_lt_of_le (Blk.lt hk_17) hg_21.size)
    refine XL_nil ?_
    refine X_region ?_
    refine XL_run 3 [(19, .load (.agg #[.int .i64 ((xs.getD i op0).kind), .string ((xs.getD i op0).text), .int .i64 ((xs.getD i op0).vk), .int .i64 ((xs.getD i op0).vn), .string ((xs.getD i op0).vt), .int .i64 ((xs.getD i op0).count), .slice A_31 ((xs.getD i op0).attrs.length) c_32]))] [(7, .slice A xs.length c), (8, .int .i64 (xs.length : Int)), (9, .int .i64 (i : Int)), (18, .slice A3 zs3.length c3), (20, .slice (some ⟨w_41.heap.size, 0, none⟩) 1 1)] (w_41.alloc (.cells #[.int .i64 ((xs.getD i op0).kind), .string ((xs.getD i op0).text), .int .i64 ((xs.getD i op0).vk), .int .i64 ((xs.getD i op0).vn), .string ((xs.getD i op0).vt), .int .i64 ((xs.getD i op0).count), .slice A_31 ((xs.getD i op0).attrs.length) c_32] 33)) [LoadsAs Tryd.prog 33 (⟨wl.heap.size, 0, none⟩) (.agg #[.int .i64 ((xs.getD i op0).kind), .string ((xs.getD i op0).text), .int .i64 ((xs.getD i op0).vk), .int .i64 ((xs.getD i op0).vn), .string ((xs.getD i op0).vt), .int .i64 ((xs.getD i op0).count), .slice A_31 ((xs.getD i op0).attrs.length) c_32]) w_41] (by kernel_rfl) ⟨loadsB rfl rfl hk_43 0 ⟨by kernel_rfl, by kernel_rfl⟩, trivial⟩ ?_
    obtain ⟨w_46, hw_50, hb_47, hk_48, hz_49⟩ := new_world w_41 #[.int .i64 ((xs.getD i op0).kind), .string ((xs.getD i op0).text), .int .i64 ((xs.getD i op0).vk), .int .i64 ((xs.getD i op0).vn), .string ((xs.getD i op0).vt), .int .i64 ((xs.getD i op0).count), .slice A_31 ((xs.getD i op0).attrs.length) c_32] 33
    rw [hw_50]
    obtain ⟨okp_51, hM_52, hok_53⟩ := Kd.M_rowApart hr_45 ((bg (bt HB hb_16) hg_21 hle3)).size (Kd.R_below hr3 (bg hB_39 hg_42 (Nat.le_refl _))) (by decide)
    rw [← hw_50]
    have hB_62 : Below w.heap.size w w_41 := (bg (bgo (bt (bg (bt HB hb_16) hg_21 hle3) hb_25) hg_36 hl_37 ((bg (bt HB hb_16) hg_21 hle3)).size) hg_42 hle3)
    refine XL_append kOp rfl rfl rfl w.heap.size 33 (.agg #[.int .i64 0, .string ByteArray.empty, .int .i64 0, .int .i64 0, .string ByteArray.empty, .int .i64 0, .slice none 0 0]) 88 Tryd.underlying22 info33 rfl (by decide) (by omega) zs3 (⟨(xs.getD i op0).kind, (xs.getD i op0).text, (xs.getD i op0).vk, (xs.getD i op0).vn, (xs.getD i op0).vt, (xs.getD i op0).count, (xs.getD i op0).attrs⟩ : OpA) [.int .i64 ((xs.getD i op0).kind), .string ((xs.getD i op0).text), .int .i64 ((xs.getD i op0).vk), .int .i64 ((xs.getD i op0).vn), .string ((xs.getD i op0).vt), .int .i64 ((xs.getD i op0).count), .slice A_31 ((xs.getD i op0).attrs.length) c_32] okp_51 (by kernel_rfl) (kOp_M (x := (⟨(xs.getD i op0).kind, (xs.getD i op0).text, (xs.getD i op0).vk, (xs.getD i op0).vn, (xs.getD i op0).vt, (xs.getD i op0).count, (xs.getD i op0).attrs⟩ : OpA)) hM_52) hok_53 (Kd.R_below hr3 (bg hB_39 hg_42 (Nat.le_refl _))) (hB_62).size (by first | omega | (simp; omega)) ?_
    intro A_54 c_55 w_56 hr_57 hc_58 hg_59 hl_60 ha_61
    have hr_63 := Kd.R_apart hr_45 (Kd.R_below hr3 (bg hB_39 hg_42 (Nat.le_refl _))) (by decide) hg_59
    have he_64 : (zs3 ++ [(⟨(xs.getD i op0).kind, (xs.getD i op0).text, (xs.getD i op0).vk, (xs.getD i op0).vn, (xs.getD i op0).vt, (xs.getD i op0).count, (xs.getD i op0).attrs⟩ : OpA)]) = (xs.take (i + 1)) := by rw [he3]; exact (take_snocD op0 xs i (by omega)).symm
    rw [he_64] at hr_57 ⊢
    refine XL_run 1 [] [(3, .slice A_54 ((xs.take (i + 1)).length) c_55), (7, .slice A xs.length c), (8, .int .i64 (xs.length : Int)), (9, .int .i64 (i : Int))] w_56 [] (by kernel_rfl) trivial ?_
    refine XL_nil ?_
    refine X_region ?_
    refine XL_run 2 [(22, .eq (.int .i64 ((i : Int) + 1)))] [(3, .slice A_54 ((xs.take (i + 1)).length) c_55), (7, .slice A xs.length c), (8, .int .i64 (xs.length : Int)), (9, .int .i64 ((i : Int) + 1))] w_56 [Value.int .i64 (IntKind.i64.wrap ((i : Int) + 1)) = Value.int .i64 ((i : Int) + 1)] (by kernel_rfl) ⟨wr_i64 (by omega) (by omega), trivial⟩ ?_
    refine XL_nil ?_
    refine ⟨(i + 1, A_54, c_55, (xs.take (i + 1))), by kernel_rfl, ?_, ?_⟩
    · exact ⟨by omega, rfl, hr_57, ((bgo hB_62 hg_59 hl_60 (Nat.le_refl _))).size, (bgo hB_62 hg_59 hl_60 (Nat.le_refl _))⟩
    · (try dsimp only); omega
  · refine XL_run 1 [(10, .eq (.bool false))] [(3, .slice A3 zs3.length c3), (7, .slice A xs.length c), (8, .int .i64 (xs.length : Int)), (9, .int .i64 (i : Int)), (10, .bool false)] wl [Value.bool (decide ((i : Int) < (xs.length : Int))) = Value.bool false] (by kernel_rfl) ⟨congrArg Value.bool (decide_eq_false (c_7)), trivial⟩ ?_
    refine XL_nil ?_
    refine X_seq ?_
    refine X_cond false rfl ?_
    refine X_exit ?_
    refine X_seq ?_
    refine X_region ?_
    refine XL_run 2 [] [(2, .slice A3 zs3.length c3)] wl [] (by kernel_rfl) trivial ?_
    refine XL_nil ?_
    refine X_ret ?_
    refine RX.ret_ok (P := Tryd.prog) (fn := Tryd.f16) (N := 24) (R := R_) [.slice A3 zs3.length c3] (by kernel_rfl) (hR_ _ _ ?_)
    have hxi : xs.take i = xs := List.take_of_length_le (by omega)
    rw [hxi] at he3
    subst he3
    exact ⟨_, _, rfl, (RX.Kd.R_len hr3).2, Kd.R_low hr3 (Nat.le_refl _), HB⟩
theorem plainErr_le (k n : Int) (t : ByteArray) : plainErr k n t ≤ 19 := by unfold plainErr; repeat (first | omega | split)
theorem pairErr_le (x : At) : pairErr x ≤ 19 := by
  have := plainErr_le x.2.1 x.2.2.1 x.2.2.2
  unfold pairErr; repeat (first | omega | split)
theorem attrAt_le (nulls : Bool) (xs : List At) (i : Nat) : attrAt nulls xs i ≤ 19 := by
  have := pairErr_le (xs.getD i at0)
  unfold attrAt; repeat (first | omega | split)
theorem chkUpto_le (nulls : Bool) (xs : List At) : ∀ n, chkUpto nulls xs n ≤ 19
  | 0 => by show (0 : Nat) ≤ 19; omega
  | n + 1 => by
    have h1 := chkUpto_le nulls xs n
    have h2 := attrAt_le nulls xs n
    show (if chkUpto nulls xs n ≠ 0 then chkUpto nulls xs n else attrAt nulls xs n) ≤ 19
    split <;> omega
theorem refuseP_le (o : OpA) : refuseP o ≤ 19 := by
  have h1 := plainErr_le o.vk o.vn o.vt
  have h2 : chkA false o.attrs ≤ 19 := chkUpto_le _ _ _
  unfold refuseP; repeat (first | omega | split)
theorem pErr_le (o : OpA) : pErr o ≤ 19 := by
  have h1 := refuseP_le o
  have h2 : chkA true o.attrs ≤ 19 := chkUpto_le _ _ _
  unfold pErr; repeat (first | omega | split)
theorem badE_le : ∀ xs : List OpA, badE xs ≤ 19
  | [] => by show (0 : Nat) ≤ 19; omega
  | o :: r => by
    have h1 := badE_le r
    have h2 := pErr_le o
    show (if pErr o ≠ 0 then pErr o else badE r) ≤ 19
    split <;> omega
theorem lenP_le (xs : List OpA) : (lenP xs).2.2 ≤ 19 := by
  have h1 := badE_le xs
  unfold lenP
  split
  · exact h1
  · split <;> simp
theorem raw1 {n : Nat} {w : World} {base : Nat} {ok : Nat → Prop} (cs : List Value) (hl : cs.length = n) (h1 : (cs.all fun u => u.oneCell') = true) : Reps ((kRaw n).M w base ok) n [cs] cs := by
  have := (Reps.none ((kRaw n).M w base ok) n).snoc (p := cs) (c := cs) ⟨rfl, hl, fun u hu => List.all_eq_true.1 h1 u hu⟩ hl
  simpa using this
theorem sz_app {xs ys : List OpA} (h1 : ∀ i, i < xs.length → opSz (xs.getD i op0)) (h2 : ∀ i, i < ys.length → opSz (ys.getD i op0)) : ∀ i, i < (xs ++ ys).length → opSz ((xs ++ ys).getD i op0) := by
  intro i hi
  rw [List.length_append] at hi
  rw [List.getD_eq_getElem?_getD]
  by_cases h : i < xs.length
  · rw [List.getElem?_append_left h, ← List.getD_eq_getElem?_getD]; exact h1 i h
  · rw [List.getElem?_append_right (by omega), ← List.getD_eq_getElem?_getD]; exact h2 _ (by omega)

end Go.Proofs.YtekfdfafhfhfbaaDoor
