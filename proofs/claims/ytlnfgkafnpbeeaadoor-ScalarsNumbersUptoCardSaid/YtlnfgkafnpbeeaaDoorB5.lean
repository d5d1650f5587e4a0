/- ScalarsCuts returns true. Conditions: sizes, the tables of utf8, the errors' variables. -/
import Derived.Test.YtlnfgkafnpbeeaaDoorB4
set_option linter.unusedVariables false
set_option linter.unusedSimpArgs false
set_option maxRecDepth 100000
namespace Go.Proofs.YtlnfgkafnpbeeaaDoor
open Go Go.RowKit Go.Proofs.YtlnfgkafnpbeeaaDoorW.PrintWords RX
theorem lenP_ok {s : ByteArray} (h : (U.lenP s).2 = 0) : U.utf s ∧ (U.lenP s).1 = (U.sc s).length := by
  unfold U.lenP at h ⊢
  by_cases h0 : U.tl s = []
  · rw [if_pos h0]; exact ⟨h0, rfl⟩
  · rw [if_neg h0] at h; cases h
theorem lenP_utf {s : ByteArray} (h : U.utf s) : U.lenP s = ((U.sc s).length, 0) := if_pos h
theorem utf_eq {s t : ByteArray} (hs : U.utf s) (ht : U.utf t) (h : U.sc s = U.sc t) : s = t := U.bl_inj (by rw [U.utf_flat hs, U.utf_flat ht, h])
theorem utf_app {s t : ByteArray} (hs : U.utf s) (ht : U.utf t) : U.utf (s ++ t) ∧ U.sc (s ++ t) = U.sc s ++ U.sc t :=
  U.utf_of (fun r hr => (List.mem_append.1 hr).elim (U.sc_ok s r) (U.sc_ok t r)) (by rw [bl_append, U.utf_flat hs, U.utf_flat ht, U.flat_append])
theorem atP_ok {s : ByteArray} (h : U.utf s) {q : Int} (h0 : 0 ≤ q) (h1 : q ≤ (U.sc s).length) : U.atP s q = (U.pl s q.toNat, 0) := by
  unfold U.atP
  rw [if_pos (show U.tl s = [] from h), if_neg (by omega), if_pos h1]
theorem cut_ok {s : ByteArray} (h : U.utf s) {q : Int} (h0 : 0 ≤ q) (h1 : q ≤ (U.sc s).length) : ∃ a b, U.cutP s q = (a, b, 0) ∧ U.utf a ∧ U.utf b ∧ U.sc a = (U.sc s).take q.toNat ∧ U.sc b = (U.sc s).drop q.toNat ∧ a ++ b = s ∧ a.size ≤ s.size ∧ b.size ≤ s.size ∧ (U.sc a).length = q.toNat ∧ (U.sc b).length = (U.sc s).length - q.toNat := by
  have hp := U.pl_split h q.toNat (by omega)
  have hle := U.pl_le h q.toNat (by omega)
  obtain ⟨a1, a2⟩ := U.utf_of (s := s.extract 0 (U.pl s q.toNat)) (rs := (U.sc s).take q.toNat) (fun r hr => U.sc_ok s r (List.mem_of_mem_take hr)) (by rw [U.bl_extract, List.drop_zero, Nat.sub_zero]; exact hp.1)
  obtain ⟨b1, b2⟩ := U.utf_of (s := s.extract (U.pl s q.toNat) s.size) (rs := (U.sc s).drop q.toNat) (fun r hr => U.sc_ok s r (List.mem_of_mem_drop hr)) (by rw [U.bl_drop]; exact hp.2)
  refine ⟨s.extract 0 (U.pl s q.toNat), s.extract (U.pl s q.toNat) s.size, ?_, a1, b1, a2, b2, ?_, ext_le _ _ _, ext_le _ _ _, ?_, ?_⟩
  · unfold U.cutP
    rw [atP_ok h h0 h1]
    rfl
  · refine U.bl_inj ?_
    rw [bl_append, U.bl_extract, U.bl_drop, List.drop_zero, Nat.sub_zero, List.take_append_drop]
  · rw [a2, List.length_take]; omega
  · rw [b2, List.length_drop]
theorem scAt_ok {s : ByteArray} (h : U.utf s) {q : Int} (h0 : 0 ≤ q) (h1 : q < (U.sc s).length) : U.scAtP s q = (((U.sc s).getD q.toNat 0 : Int), 0) := by
  have hlt : q.toNat < (U.sc s).length := by omega
  have hs := (U.pl_step h q.toNat hlt).2.2
  unfold U.scAtP
  rw [atP_ok h h0 (by omega)]
  simp only
  rw [if_pos trivial, if_neg (by omega)]
  have hb : U.Brk (U.bl (s.extract (U.pl s q.toNat) s.size)) ((U.sc s).drop q.toNat) [] := by
    rw [U.bl_drop, (U.pl_split h q.toNat (by omega)).2]
    exact U.brk_flat fun r hr => U.sc_ok s r (List.mem_of_mem_drop hr)
  rw [U.nextP_brk hb, List.drop_eq_getElem_cons hlt, List.getD_eq_getElem?_getD, List.getElem?_eq_getElem hlt]
  rfl
theorem size_head {s : ByteArray} (h : U.utf s) (h0 : 0 < (U.sc s).length) : 1 ≤ U.widthP ((U.sc s).getD 0 0 : Int) ∧ U.widthP ((U.sc s).getD 0 0 : Int) ≤ s.size := by
  have e := U.utf_flat h
  cases hr : U.sc s with
  | nil => rw [hr] at h0; simp at h0
  | cons r rs =>
    rw [hr, U.flat_cons] at e
    have hl := congrArg List.length e
    rw [U.bl_size, List.length_append] at hl
    simp only [List.getD_cons_zero]
    rw [widthP_pos (U.sc_ok s r (by rw [hr]; simp))]
    have := (U.enc_len r).1
    omega
theorem utf_none {s : ByteArray} (h : U.utf s) (h0 : (U.sc s).length = 0) : s = (⟨#[]⟩ : ByteArray) := by
  refine U.bl_inj ?_
  rw [U.utf_flat h, List.length_eq_zero_iff.1 h0]
  rfl
set_option maxHeartbeats 4000000 in
theorem scuts_any (s : ByteArray) (i j : Int) (w : World) (hs : s.size ≤ 1048576) (hi0 : -9223372036854775808 ≤ i) (hi1 : i ≤ 9223372036854775807) (hj0 : -9223372036854775808 ≤ j) (hj1 : j ≤ 9223372036854775807) (hT : Tabs w) (es : List Addr) (hE : Errs w es) :
    Calls Tryd.prog 9 #[.string s, .int .i64 i, .int .i64 j] w fun e w' => e = .returned (.bool true) ∧ Below w.heap.size w w' := by
  have hA : ErrsA w es := hE.on (by decide)
  have hscl := U.sc_le s
  refine RX.enter Tryd.func9 rfl 169 rfl [(0, .string s), (1, .int .i64 i), (2, .int .i64 j)] rfl (by kernel_rfl) (fun R_ hR_ => ?_)
  refine X_seq ?_
  refine X_region ?_
  refine XL_run 1 [] [(0, .string s), (1, .int .i64 i), (2, .int .i64 j)] w [] (by kernel_rfl) trivial ?_
  refine XL_nil ?_
  refine X_seq ?_
  refine X_seq ?_
  refine X_region ?_
  refine XL_call 11 rfl rfl rfl ent11 [] (by kernel_rfl) (lives_any _ (hT.below (Below.refl _ _)) es (hE.below (Below.refl _ _))) ?_
  rintro e w_1 ⟨rfl, hb_2⟩; refine ⟨_, rfl, ?_⟩
  refine XL_run 1 [] [(0, .string s), (1, .int .i64 i), (2, .int .i64 j), (22, .bool false)] w_1 [] (by kernel_rfl) trivial ?_
  refine XL_nil ?_
  refine X_cond false rfl ?_
  refine X_skip ?_
  refine X_seq ?_
  refine X_region ?_
  refine XL_run 1 [] [(0, .string s), (1, .int .i64 i), (2, .int .i64 j), (24, .string s)] w_1 [] (by kernel_rfl) trivial ?_
  refine XL_call 25 rfl rfl rfl ent25 [.string s] (by kernel_rfl) (len_any s _ (by omega) (hT.below hb_2) es (hA.below hb_2)) ?_
  rintro e w_3 ⟨rfl, hb_4⟩; refine ⟨_, rfl, ?_⟩
  obtain ⟨nn, hnn⟩ : ∃ n_, (U.lenP s).1 = n_ := ⟨_, rfl⟩
  rw [hnn]
  have hnle : nn ≤ s.size := by rw [← hnn]; unfold U.lenP; split; (· exact U.sc_le s); (· exact Nat.zero_le _)
  refine XL_run 5 [] [(0, .string s), (1, .int .i64 i), (2, .int .i64 j), (7, .int .i64 (nn : Int)), (8, errV es ((U.lenP s).2))] w_3 [] (by kernel_rfl) trivial ?_
  refine XL_nil ?_
  refine X_seq ?_
  refine X_seq ?_
  refine X_region ?_
  refine XL_run 1 [] [(0, .string s), (1, .int .i64 i), (2, .int .i64 j), (7, .int .i64 (nn : Int)), (28, errV es ((U.lenP s).2))] w_3 [] (by kernel_rfl) trivial ?_
  by_cases c_5 : (U.lenP s).2 = 0
  · obtain ⟨hu, hl0⟩ := lenP_ok c_5
    rw [hnn] at hl0
    rw [show errV es ((U.lenP s).2) = .nilIface from by rw [c_5]; rfl]
    refine XL_run 1 [] [(0, .string s), (1, .int .i64 i), (2, .int .i64 j), (7, .int .i64 (nn : Int)), (29, .bool false)] w_3 [] (by kernel_rfl) trivial ?_
    refine XL_nil ?_
    refine X_cond false rfl ?_
    refine X_skip ?_
    refine X_seq ?_
    refine X_region ?_
    obtain ⟨q_6, hq_7, hq0_8, hq1_9⟩ : ∃ q_ : Int, Int.tmod (IntKind.u64.wrap (i)) ((nn : Int) + 1) = q_ ∧ 0 ≤ q_ ∧ q_ < (nn : Int) + 1 := ⟨_, rfl, (tm_bd (u64_nonneg _) (by omega)).1, (tm_bd (u64_nonneg _) (by omega)).2⟩
    refine XL_run 8 [(33, .eq (.int .i64 ((nn : Int) + 1))), (34, .eq (.int .u64 ((nn : Int) + 1))), (35, .as (.int .u64 q_6)), (36, .eq (.int .i64 q_6))] [(0, .string s), (1, .int .i64 q_6), (2, .int .i64 j), (7, .int .i64 (nn : Int))] w_3 [Value.int .i64 (IntKind.i64.wrap ((nn : Int) + 1)) = Value.int .i64 ((nn : Int) + 1), Value.int .u64 (IntKind.u64.wrap ((nn : Int) + 1)) = Value.int .u64 ((nn : Int) + 1), RunsAs Tryd.prog [(31, .int .u64 (IntKind.u64.wrap (i))), (34, .int .u64 ((nn : Int) + 1))] (Go.Op.binOp Go.BinOp.rem 43 (Go.Operand.tmp 31) (Go.Operand.tmp 34) 43) 43 (.int .u64 q_6) w_3, Value.int .i64 (IntKind.i64.wrap (q_6)) = Value.int .i64 q_6] (by kernel_rfl) ⟨wr_i64 (by omega) (by omega), wr_u64 (by omega) (by omega), runs_bin rfl rfl rfl (by have h_ := run_rem (t := 43) (k := .u64) (a := (IntKind.u64.wrap (i))) (b := ((nn : Int) + 1)) (by omega) w_3; rwa [hq_7] at h_), wr_i64 (by omega) (by omega), trivial⟩ ?_
    refine XL_nil ?_
    refine X_seq ?_
    refine X_region ?_
    refine XL_run 2 [] [(0, .string s), (1, .int .i64 q_6), (2, .int .i64 j), (7, .int .i64 (nn : Int)), (38, .string s), (39, .int .i64 q_6)] w_3 [] (by kernel_rfl) trivial ?_
    refine XL_call 27 rfl rfl rfl ent27 [.string s, .int .i64 q_6] (by kernel_rfl) (cut_any s q_6 _ (by omega) (by omega) (by omega) (hT.below (bt hb_2 hb_4)) es (hA.below (bt hb_2 hb_4))) ?_
    rintro e w_10 ⟨rfl, hb_11⟩; refine ⟨_, rfl, ?_⟩
    obtain ⟨a_12, b_13, hc_14, ua_15, ub_16, sa_17, sb_18, ab_19, za_20, zb_21, la_22, lb_23⟩ := cut_ok (s := s) hu (q := q_6) (by omega) (by omega)
    rw [hc_14, errV_zero]
    refine XL_run 7 [] [(0, .string s), (1, .int .i64 q_6), (2, .int .i64 j), (7, .int .i64 (nn : Int)), (8, .nilIface), (9, .string a_12), (10, .string b_13)] w_10 [] (by kernel_rfl) trivial ?_
    refine XL_nil ?_
    refine X_seq ?_
    refine X_region ?_
    refine XL_run 1 [] [(0, .string s), (1, .int .i64 q_6), (2, .int .i64 j), (7, .int .i64 (nn : Int)), (8, .nilIface), (9, .string a_12), (10, .string b_13), (45, .string a_12)] w_10 [] (by kernel_rfl) trivial ?_
    refine XL_call 25 rfl rfl rfl ent25 [.string a_12] (by kernel_rfl) (len_any a_12 _ (by omega) (hT.below (bt (bt hb_2 hb_4) hb_11)) es (hA.below (bt (bt hb_2 hb_4) hb_11))) ?_
    rintro e w_24 ⟨rfl, hb_25⟩; refine ⟨_, rfl, ?_⟩
    rw [lenP_utf ua_15, errV_zero]
    refine XL_run 5 [] [(0, .string s), (1, .int .i64 q_6), (2, .int .i64 j), (7, .int .i64 (nn : Int)), (8, .nilIface), (9, .string a_12), (10, .string b_13), (11, .int .i64 ((U.sc a_12).length : Int)), (12, .nilIface)] w_24 [] (by kernel_rfl) trivial ?_
    refine XL_nil ?_
    refine X_seq ?_
    refine X_region ?_
    refine XL_run 1 [] [(0, .string s), (1, .int .i64 q_6), (2, .int .i64 j), (7, .int .i64 (nn : Int)), (8, .nilIface), (9, .string a_12), (10, .string b_13), (11, .int .i64 ((U.sc a_12).length : Int)), (12, .nilIface), (50, .string b_13)] w_24 [] (by kernel_rfl) trivial ?_
    refine XL_call 25 rfl rfl rfl ent25 [.string b_13] (by kernel_rfl) (len_any b_13 _ (by omega) (hT.below (bt (bt (bt hb_2 hb_4) hb_11) hb_25)) es (hA.below (bt (bt (bt hb_2 hb_4) hb_11) hb_25))) ?_
    rintro e w_26 ⟨rfl, hb_27⟩; refine ⟨_, rfl, ?_⟩
    rw [lenP_utf ub_16, errV_zero]
    refine XL_run 5 [] [(0, .string s), (1, .int .i64 q_6), (2, .int .i64 j), (7, .int .i64 (nn : Int)), (8, .nilIface), (9, .string a_12), (10, .string b_13), (11, .int .i64 ((U.sc a_12).length : Int)), (12, .nilIface), (13, .int .i64 ((U.sc b_13).length : Int)), (14, .nilIface)] w_26 [] (by kernel_rfl) trivial ?_
    refine XL_nil ?_
    refine X_seq ?_
    refine X_seq ?_
    refine X_region ?_
    refine XL_run 29 [(67, .as (.string (a_12 ++ b_13))), (69, .eq (.bool false)), (74, .eq (.bool false)), (80, .eq (.int .i64 ((nn : Int) - q_6))), (81, .eq (.bool false))] [(0, .string s), (1, .int .i64 q_6), (2, .int .i64 j), (7, .int .i64 (nn : Int)), (9, .string a_12), (10, .string b_13), (82, .bool false)] w_26 [RunsAs Tryd.prog [(65, .string a_12), (66, .string b_13)] (Go.Op.binOp Go.BinOp.add 9 (Go.Operand.tmp 65) (Go.Operand.tmp 66) 9) 9 (.string (a_12 ++ b_13)) w_26, Value.bool (!(a_12 ++ b_13).toList == s.toList) = Value.bool false, Value.bool (((U.sc a_12).length : Int) != q_6) = Value.bool false, Value.int .i64 (IntKind.i64.wrap ((nn : Int) - q_6)) = Value.int .i64 ((nn : Int) - q_6), Value.bool (((U.sc b_13).length : Int) != (nn : Int) - q_6) = Value.bool false] (by kernel_rfl) ⟨runs_bin rfl rfl rfl (run_sadd (by omega)), congrArg Value.bool (strNeF (ab_19)), congrArg Value.bool (bneF ((by omega))), wr_i64 (by omega) (by omega), congrArg Value.bool (bneF ((by omega))), trivial⟩ ?_
    refine XL_nil ?_
    refine X_cond false rfl ?_
    refine X_skip ?_
    refine X_seq ?_
    refine X_region ?_
    obtain ⟨q_28, hq_29, hq0_30, hq1_31⟩ : ∃ q_ : Int, Int.tmod (IntKind.u64.wrap (j)) (((nn : Int) - q_6) + 1) = q_ ∧ 0 ≤ q_ ∧ q_ < ((nn : Int) - q_6) + 1 := ⟨_, rfl, (tm_bd (u64_nonneg _) (by omega)).1, (tm_bd (u64_nonneg _) (by omega)).2⟩
    refine XL_run 10 [(87, .eq (.int .i64 ((nn : Int) - q_6))), (88, .eq (.int .i64 (((nn : Int) - q_6) + 1))), (89, .eq (.int .u64 (((nn : Int) - q_6) + 1))), (90, .as (.int .u64 q_28)), (91, .eq (.int .i64 q_28))] [(0, .string s), (1, .int .i64 q_6), (2, .int .i64 q_28), (7, .int .i64 (nn : Int)), (9, .string a_12), (10, .string b_13)] w_26 [Value.int .i64 (IntKind.i64.wrap ((nn : Int) - q_6)) = Value.int .i64 ((nn : Int) - q_6), Value.int .i64 (IntKind.i64.wrap (((nn : Int) - q_6) + 1)) = Value.int .i64 (((nn : Int) - q_6) + 1), Value.int .u64 (IntKind.u64.wrap (((nn : Int) - q_6) + 1)) = Value.int .u64 (((nn : Int) - q_6) + 1), RunsAs Tryd.prog [(84, .int .u64 (IntKind.u64.wrap (j))), (89, .int .u64 (((nn : Int) - q_6) + 1))] (Go.Op.binOp Go.BinOp.rem 43 (Go.Operand.tmp 84) (Go.Operand.tmp 89) 43) 43 (.int .u64 q_28) w_26, Value.int .i64 (IntKind.i64.wrap (q_28)) = Value.int .i64 q_28] (by kernel_rfl) ⟨wr_i64 (by omega) (by omega), wr_i64 (by omega) (by omega), wr_u64 (by omega) (by omega), runs_bin rfl rfl rfl (by have h_ := run_rem (t := 43) (k := .u64) (a := (IntKind.u64.wrap (j))) (b := (((nn : Int) - q_6) + 1)) (by omega) w_26; rwa [hq_29] at h_), wr_i64 (by omega) (by omega), trivial⟩ ?_
    refine XL_nil ?_
    refine X_seq ?_
    refine X_region ?_
    refine XL_run 2 [] [(0, .string s), (1, .int .i64 q_6), (2, .int .i64 q_28), (7, .int .i64 (nn : Int)), (9, .string a_12), (93, .string b_13), (94, .int .i64 q_28)] w_26 [] (by kernel_rfl) trivial ?_
    have hB_32 : Below w.heap.size w w_26 := (bt (bt (bt (bt hb_2 hb_4) hb_11) hb_25) hb_27)
    refine XL_call 27 rfl rfl rfl ent27 [.string b_13, .int .i64 q_28] (by kernel_rfl) (cut_any b_13 q_28 _ (by omega) (by omega) (by omega) (hT.below hB_32) es (hA.below hB_32)) ?_
    rintro e w_33 ⟨rfl, hb_34⟩; refine ⟨_, rfl, ?_⟩
    obtain ⟨a_35, b_36, hc_37, ua_38, ub_39, sa_40, sb_41, ab_42, za_43, zb_44, la_45, lb_46⟩ := cut_ok (s := b_13) ub_16 (q := q_28) (by omega) (by omega)
    rw [hc_37, errV_zero]
    refine XL_run 7 [] [(0, .string s), (1, .int .i64 q_6), (2, .int .i64 q_28), (7, .int .i64 (nn : Int)), (8, .nilIface), (9, .string a_12), (15, .string a_35), (16, .string b_36)] w_33 [] (by kernel_rfl) trivial ?_
    refine XL_nil ?_
    refine X_seq ?_
    refine X_region ?_
    refine XL_run 4 [(103, .eq (.int .i64 (q_6 + q_28)))] [(0, .string s), (1, .int .i64 q_6), (2, .int .i64 q_28), (7, .int .i64 (nn : Int)), (8, .nilIface), (9, .string a_12), (15, .string a_35), (16, .string b_36), (100, .string s), (103, .int .i64 (q_6 + q_28))] w_33 [Value.int .i64 (IntKind.i64.wrap (q_6 + q_28)) = Value.int .i64 (q_6 + q_28)] (by kernel_rfl) ⟨wr_i64 (by omega) (by omega), trivial⟩ ?_
    refine XL_call 27 rfl rfl rfl ent27 [.string s, .int .i64 (q_6 + q_28)] (by kernel_rfl) (cut_any s (q_6 + q_28) _ (by omega) (by omega) (by omega) (hT.below (bt hB_32 hb_34)) es (hA.below (bt hB_32 hb_34))) ?_
    rintro e w_47 ⟨rfl, hb_48⟩; refine ⟨_, rfl, ?_⟩
    obtain ⟨a_49, b_50, hc_51, ua_52, ub_53, sa_54, sb_55, ab_56, za_57, zb_58, la_59, lb_60⟩ := cut_ok (s := s) hu (q := (q_6 + q_28)) (by omega) (by omega)
    rw [hc_51, errV_zero]
    refine XL_run 7 [] [(0, .string s), (1, .int .i64 q_6), (2, .int .i64 q_28), (7, .int .i64 (nn : Int)), (8, .nilIface), (9, .string a_12), (12, .nilIface), (15, .string a_35), (16, .string b_36), (17, .string a_49), (18, .string b_50)] w_47 [] (by kernel_rfl) trivial ?_
    refine XL_nil ?_
    refine X_seq ?_
    refine X_seq ?_
    refine X_region ?_
    refine XL_run 18 [(118, .as (.string (a_12 ++ a_35))), (119, .eq (.bool false)), (124, .eq (.bool false))] [(0, .string s), (1, .int .i64 q_6), (2, .int .i64 q_28), (7, .int .i64 (nn : Int)), (16, .string b_36), (125, .bool false)] w_47 [RunsAs Tryd.prog [(116, .string a_12), (117, .string a_35)] (Go.Op.binOp Go.BinOp.add 9 (Go.Operand.tmp 116) (Go.Operand.tmp 117) 9) 9 (.string (a_12 ++ a_35)) w_47, Value.bool (!a_49.toList == (a_12 ++ a_35).toList) = Value.bool false, Value.bool (!b_50.toList == b_36.toList) = Value.bool false] (by kernel_rfl) ⟨runs_bin rfl rfl rfl (run_sadd (by omega)), congrArg Value.bool (strNeF ((utf_eq ua_52 (utf_app ua_15 ua_38).1 (by rw [(utf_app ua_15 ua_38).2, sa_54, sa_17, sa_40, sb_18, Int.toNat_add (by omega) (by omega), List.take_add])))), congrArg Value.bool (strNeF ((utf_eq ub_53 ub_39 (by rw [sb_55, sb_41, sb_18, List.drop_drop, Int.toNat_add (by omega) (by omega)])))), trivial⟩ ?_
    refine XL_nil ?_
    refine X_cond false rfl ?_
    refine X_skip ?_
    refine X_seq ?_
    refine X_seq ?_
    refine X_region ?_
    refine XL_run 4 [(129, .eq (.int .i64 ((nn : Int) - q_6)))] [(0, .string s), (1, .int .i64 q_6), (2, .int .i64 q_28), (16, .string b_36), (126, .int .i64 q_28), (129, .int .i64 ((nn : Int) - q_6))] w_47 [Value.int .i64 (IntKind.i64.wrap ((nn : Int) - q_6)) = Value.int .i64 ((nn : Int) - q_6)] (by kernel_rfl) ⟨wr_i64 (by omega) (by omega), trivial⟩ ?_
    by_cases c_61 : q_28 = (nn : Int) - q_6
    · refine XL_run 1 [(130, .eq (.bool true))] [(0, .string s), (1, .int .i64 q_6), (2, .int .i64 q_28), (16, .string b_36), (130, .bool true)] w_47 [Value.bool (q_28 == (nn : Int) - q_6) = Value.bool true] (by kernel_rfl) ⟨congrArg Value.bool (beq_iff_eq.2 (c_61)), trivial⟩ ?_
      refine XL_nil ?_
      refine X_cond true rfl ?_
      refine X_seq ?_
      refine X_region ?_
      refine XL_run 3 [(132, .eq (.bool true))] [(6, .bool true)] w_47 [Value.bool (b_36.toList == (⟨#[]⟩ : ByteArray).toList) = Value.bool true] (by kernel_rfl) ⟨congrArg Value.bool (strEqT ((utf_none ub_39 (by omega)))), trivial⟩ ?_
      refine XL_nil ?_
      refine X_ret ?_
      refine RX.ret_ok (P := Tryd.prog) (fn := Tryd.f9) (N := 169) (R := R_) [.bool true] (by kernel_rfl) (hR_ _ _ ?_)
      exact ⟨rfl, (bt (bt hB_32 hb_34) hb_48)⟩
    · refine XL_run 1 [(130, .eq (.bool false))] [(0, .string s), (1, .int .i64 q_6), (2, .int .i64 q_28), (16, .string b_36), (130, .bool false)] w_47 [Value.bool (q_28 == (nn : Int) - q_6) = Value.bool false] (by kernel_rfl) ⟨congrArg Value.bool (beq_eq_false_iff_ne.2 (c_61)), trivial⟩ ?_
      refine XL_nil ?_
      refine X_cond false rfl ?_
      refine X_skip ?_
      refine X_seq ?_
      refine X_region ?_
      refine XL_run 4 [(137, .eq (.int .i64 (q_6 + q_28)))] [(16, .string b_36), (134, .string s), (137, .int .i64 (q_6 + q_28))] w_47 [Value.int .i64 (IntKind.i64.wrap (q_6 + q_28)) = Value.int .i64 (q_6 + q_28)] (by kernel_rfl) ⟨wr_i64 (by omega) (by omega), trivial⟩ ?_
      refine XL_call 28 rfl rfl rfl ent28 [.string s, .int .i64 (q_6 + q_28)] (by kernel_rfl) (scat_any s (q_6 + q_28) _ (by omega) (by omega) (by omega) (hT.below (bt (bt hB_32 hb_34) hb_48)) es (hA.below (bt (bt hB_32 hb_34) hb_48))) ?_
      rintro e w_62 ⟨rfl, hb_63⟩; refine ⟨_, rfl, ?_⟩
      rw [scAt_ok (s := s) hu (q := (q_6 + q_28)) (by omega) (by omega), errV_zero]
      have he_64 : (U.sc s).getD ((q_6 + q_28)).toNat 0 = (U.sc b_36).getD 0 0 := by rw [sb_41, sb_18, List.drop_drop, List.getD_eq_getElem?_getD, List.getD_eq_getElem?_getD, List.getElem?_drop, Nat.add_zero, Int.toNat_add (by omega) (by omega)]
      rw [he_64]
      have hwd := size_head (s := b_36) ub_39 (by omega)
      refine XL_run 5 [] [(8, .nilIface), (16, .string b_36), (19, .int .i32 ((U.sc b_36).getD 0 0 : Int))] w_62 [] (by kernel_rfl) trivial ?_
      refine XL_nil ?_
      refine X_seq ?_
      refine X_region ?_
      refine XL_run 1 [] [(8, .nilIface), (16, .string b_36), (19, .int .i32 ((U.sc b_36).getD 0 0 : Int)), (142, .string b_36)] w_62 [] (by kernel_rfl) trivial ?_
      refine XL_call 28 rfl rfl rfl ent28 [.string b_36, .int .i64 0] (by kernel_rfl) (scat_any b_36 (0 : Int) _ (by omega) (by omega) (by omega) (hT.below (bt (bt (bt hB_32 hb_34) hb_48) hb_63)) es (hA.below (bt (bt (bt hB_32 hb_34) hb_48) hb_63))) ?_
      rintro e w_65 ⟨rfl, hb_66⟩; refine ⟨_, rfl, ?_⟩
      rw [scAt_ok (s := b_36) ub_39 (q := (0 : Int)) (by omega) (by omega), errV_zero]
      rw [show Int.toNat (0 : Int) = 0 from rfl]
      refine XL_run 5 [] [(8, .nilIface), (12, .nilIface), (16, .string b_36), (19, .int .i32 ((U.sc b_36).getD 0 0 : Int)), (20, .int .i32 ((U.sc b_36).getD 0 0 : Int))] w_65 [] (by kernel_rfl) trivial ?_
      refine XL_nil ?_
      refine X_seq ?_
      refine X_region ?_
      refine XL_run 15 [(155, .eq (.bool true))] [(19, .int .i32 ((U.sc b_36).getD 0 0 : Int)), (157, .bool true), (159, .int .i64 (b_36.size : Int)), (160, .int .i32 ((U.sc b_36).getD 0 0 : Int))] w_65 [Value.bool (((U.sc b_36).getD 0 0 : Int) == ((U.sc b_36).getD 0 0 : Int)) = Value.bool true] (by kernel_rfl) ⟨congrArg Value.bool (beq_self_eq_true _), trivial⟩ ?_
      refine XL_call 14 rfl rfl rfl ent14 [.int .i32 ((U.sc b_36).getD 0 0 : Int)] (by kernel_rfl) (width_any ((U.sc b_36).getD 0 0 : Int) _) ?_
      rintro e w_67 ⟨rfl, hb_68⟩; refine ⟨_, rfl, ?_⟩
      refine XL_run 4 [(162, .eq (.bool true))] [(164, .bool true), (165, .int .i32 ((U.sc b_36).getD 0 0 : Int))] w_67 [Value.bool (decide ((b_36.size : Int) ≥ (U.widthP ((U.sc b_36).getD 0 0 : Int) : Int))) = Value.bool true] (by kernel_rfl) ⟨congrArg Value.bool (decide_eq_true ((by omega))), trivial⟩ ?_
      refine XL_call 14 rfl rfl rfl ent14 [.int .i32 ((U.sc b_36).getD 0 0 : Int)] (by kernel_rfl) (width_any ((U.sc b_36).getD 0 0 : Int) _) ?_
      rintro e w_69 ⟨rfl, hb_70⟩; refine ⟨_, rfl, ?_⟩
      refine XL_run 3 [(167, .eq (.bool true))] [(6, .bool true)] w_69 [Value.bool (decide ((U.widthP ((U.sc b_36).getD 0 0 : Int) : Int) ≥ 1)) = Value.bool true] (by kernel_rfl) ⟨congrArg Value.bool (decide_eq_true ((by omega))), trivial⟩ ?_
      refine XL_nil ?_
      refine X_ret ?_
      refine RX.ret_ok (P := Tryd.prog) (fn := Tryd.f9) (N := 169) (R := R_) [.bool true] (by kernel_rfl) (hR_ _ _ ?_)
      have hB_71 : Below w.heap.size w w_69 := (bt (bt (bt (bt (bt (bt hB_32 hb_34) hb_48) hb_63) hb_66) hb_68) hb_70)
      exact ⟨rfl, hB_71⟩
  · rw [errV_pos es ((U.lenP s).2) (Nat.pos_of_ne_zero c_5)]
    refine XL_run 1 [] [(0, .string s), (1, .int .i64 i), (2, .int .i64 j), (7, .int .i64 (nn : Int)), (29, .bool true)] w_3 [] (by kernel_rfl) trivial ?_
    refine XL_nil ?_
    refine X_cond true rfl ?_
    refine X_seq ?_
    refine X_region ?_
    refine XL_run 1 [] [(6, .bool true)] w_3 [] (by kernel_rfl) trivial ?_
    refine XL_nil ?_
    refine X_ret ?_
    refine RX.ret_ok (P := Tryd.prog) (fn := Tryd.f9) (N := 169) (R := R_) [.bool true] (by kernel_rfl) (hR_ _ _ ?_)
    exact ⟨rfl, (bt hb_2 hb_4)⟩
end Go.Proofs.YtlnfgkafnpbeeaaDoor
