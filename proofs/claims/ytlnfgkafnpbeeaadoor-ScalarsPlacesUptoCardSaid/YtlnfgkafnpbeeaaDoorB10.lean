/- ScalarsPlaces returns true. Conditions: sizes, the tables of utf8, the errors' variables. -/
import Derived.Test.YtlnfgkafnpbeeaaDoorB7b
set_option linter.unusedVariables false
set_option linter.unusedSimpArgs false
set_option maxRecDepth 100000
namespace Go.Proofs.YtlnfgkafnpbeeaaDoor
open Go Go.RowKit Go.Proofs.YtlnfgkafnpbeeaaDoorW.PrintWords RX
theorem cut_bad {s : ByteArray} (h : ¬ chkN s = 0) (i : Int) : U.cutP s i = (⟨#[]⟩, ⟨#[]⟩, 1) ∧ U.scAtP s i = (0, 1) := by
  have h0 : ¬ U.tl s = [] := fun e => h ((chkN_iff s).2 e)
  have ha : U.atP s i = (0, 1) := if_neg h0
  unfold U.cutP U.scAtP
  rw [ha]
  exact ⟨rfl, rfl⟩
theorem cut_oob {s : ByteArray} (h : chkN s = 0) {i : Int} (hi : i < 0 ∨ (U.sc s).length < i) : U.cutP s i = (⟨#[]⟩, ⟨#[]⟩, 12) ∧ U.scAtP s i = (0, 12) := by
  have h0 : U.tl s = [] := (chkN_iff s).1 h
  have ha : U.atP s i = (0, 12) := by
    unfold U.atP
    rw [if_pos h0]
    rcases hi with hi | hi
    · rw [if_pos hi]
    · rw [if_neg (by omega), if_neg (by omega)]
  unfold U.cutP U.scAtP
  rw [ha]
  exact ⟨rfl, rfl⟩
theorem cut_in {s : ByteArray} (h : chkN s = 0) {i : Int} (h0 : 0 ≤ i) (h1 : i ≤ (U.sc s).length) : (U.cutP s i).2.2 = 0 ∧ (U.cutP s i).1 = runesBytes (List.take i.toNat (U.scz s)) ∧ (U.cutP s i).2.1 = runesBytes (List.drop i.toNat (U.scz s)) := by
  have hu : U.utf s := (chkN_iff s).1 h
  obtain ⟨a, b, e, ha, hb, sa, sb, _⟩ := cut_ok hu h0 h1
  rw [e]
  refine ⟨rfl, ?_, ?_⟩
  · rw [← U.text_back ha, sa, List.map_take]; rfl
  · rw [← U.text_back hb, sb, List.map_drop]; rfl
theorem at_end {s : ByteArray} (h : chkN s = 0) {i : Int} (h1 : i = (U.sc s).length) : U.scAtP s i = (0, 12) := by
  have hu : U.utf s := (chkN_iff s).1 h
  unfold U.scAtP
  rw [atP_ok hu (by omega) (by omega)]
  simp only
  rw [if_pos trivial, show i.toNat = (U.sc s).length from by omega, U.pl_all hu, if_pos rfl]
theorem at_in {s : ByteArray} (h : chkN s = 0) {i : Int} (h0 : 0 ≤ i) (h1 : i < (U.sc s).length) : (U.scAtP s i).2 = 0 ∧ (U.scAtP s i).1 = rd (U.scz s) i := by
  rw [scAt_ok ((chkN_iff s).1 h) h0 h1]
  refine ⟨rfl, ?_⟩
  unfold rd U.scz
  have hlt : i.toNat < (U.sc s).length := by omega
  rw [List.getD_eq_getElem?_getD, List.getD_eq_getElem?_getD, List.getElem?_map, List.getElem?_eq_getElem hlt]
  rfl
theorem scz_len (s : ByteArray) : (U.scz s).length = (U.sc s).length := List.length_map ..
theorem refText_n (A : Option Addr) (n c : Nat) (xs : List Int) (w : World) (hx : (Kd.int .i32).C w A n xs) (hl : n ≤ 100000000) (hv : ∀ r ∈ xs, U.vz r) : Calls Tryd.prog 17 #[.slice A n c] w fun e w' => e = .returned (.string (runesBytes xs)) ∧ Below w.heap.size w w' := by
  have e := hx.1
  subst e
  exact refText_any A c xs w hx hl hv
set_option maxHeartbeats 4000000 in
theorem splaces_any (s : ByteArray) (i : Int) (w : World) (hs : s.size ≤ 1048576) (hi0 : -9223372036854775808 ≤ i) (hi1 : i ≤ 9223372036854775807) (hT : Tabs w) (es : List Addr) (hE : Errs w es) :
    Calls Tryd.prog 8 #[.string s, .int .i64 i] w fun e w' => e = .returned (.bool true) ∧ Below w.heap.size w w' := by
  have hA : ErrsA w es := hE.on (by decide)
  have hscl := U.sc_le s
  have hzl := scz_len s
  have hcl := chkN_le s
  have hvz : ∀ r ∈ U.scz s, U.vz r := U.sc_vz s
  refine RX.enter Tryd.func8 rfl 126 rfl [(0, .string s), (1, .int .i64 i)] rfl (by kernel_rfl) (fun R_ hR_ => ?_)
  refine X_seq ?_
  refine X_region ?_
  refine XL_run 1 [] [(0, .string s), (1, .int .i64 i)] w [] (by kernel_rfl) trivial ?_
  refine XL_nil ?_
  refine X_seq ?_
  refine X_seq ?_
  refine X_region ?_
  refine XL_call 11 rfl rfl rfl ent11 [] (by kernel_rfl) (lives_any _ (hT.below (Below.refl _ _)) es (hE.below (Below.refl _ _))) ?_
  rintro e w_1 ⟨rfl, hb_2⟩; refine ⟨_, rfl, ?_⟩
  refine XL_run 1 [] [(0, .string s), (1, .int .i64 i), (14, .bool false)] w_1 [] (by kernel_rfl) trivial ?_
  refine XL_nil ?_
  refine X_cond false rfl ?_
  refine X_skip ?_
  refine X_seq ?_
  refine X_region ?_
  refine XL_run 1 [] [(0, .string s), (1, .int .i64 i), (16, .string s)] w_1 [] (by kernel_rfl) trivial ?_
  refine XL_call 23 rfl rfl rfl ent23 [.string s] (by kernel_rfl) (rcheck_any s _ (by omega)) ?_
  rintro e w_3 ⟨rfl, hb_4⟩; refine ⟨_, rfl, ?_⟩
  refine XL_run 5 [] [(0, .string s), (1, .int .i64 i), (6, .int .i64 (chkN s : Int))] w_3 [] (by kernel_rfl) trivial ?_
  refine XL_nil ?_
  refine X_seq ?_
  refine X_region ?_
  refine XL_run 1 [] [(0, .string s), (1, .int .i64 i), (6, .int .i64 (chkN s : Int)), (20, .string s)] w_3 [] (by kernel_rfl) trivial ?_
  refine XL_call 24 rfl rfl rfl ent24 [.string s] (by kernel_rfl) (rlist_any s _ (by omega)) ?_
  rintro e w_9 ⟨A_5, c_6, rfl, hl_7, hr_8, hb_10⟩; refine ⟨_, rfl, ?_⟩
  refine XL_run 1 [] [(0, .string s), (1, .int .i64 i), (6, .int .i64 (chkN s : Int)), (7, .slice A_5 ((U.scz s).length) c_6)] w_9 [] (by kernel_rfl) trivial ?_
  refine XL_nil ?_
  refine X_seq ?_
  refine X_region ?_
  refine XL_run 2 [] [(0, .string s), (1, .int .i64 i), (6, .int .i64 (chkN s : Int)), (7, .slice A_5 ((U.scz s).length) c_6), (23, .string s), (24, .int .i64 i)] w_9 [] (by kernel_rfl) trivial ?_
  refine XL_call 27 rfl rfl rfl ent27 [.string s, .int .i64 i] (by kernel_rfl) (cut_any s i _ (by omega) (by omega) (by omega) (hT.below (bt (bt hb_2 hb_4) hb_10)) es (hA.below (bt (bt hb_2 hb_4) hb_10))) ?_
  rintro e w_11 ⟨rfl, hb_12⟩; refine ⟨_, rfl, ?_⟩
  refine XL_run 7 [] [(0, .string s), (1, .int .i64 i), (6, .int .i64 (chkN s : Int)), (7, .slice A_5 ((U.scz s).length) c_6), (8, .string ((U.cutP s i).1)), (9, .string ((U.cutP s i).2.1)), (10, errV es ((U.cutP s i).2.2))] w_11 [] (by kernel_rfl) trivial ?_
  refine XL_nil ?_
  refine X_seq ?_
  refine X_region ?_
  refine XL_run 2 [] [(1, .int .i64 i), (6, .int .i64 (chkN s : Int)), (7, .slice A_5 ((U.scz s).length) c_6), (8, .string ((U.cutP s i).1)), (9, .string ((U.cutP s i).2.1)), (10, errV es ((U.cutP s i).2.2)), (30, .string s), (31, .int .i64 i)] w_11 [] (by kernel_rfl) trivial ?_
  refine XL_call 28 rfl rfl rfl ent28 [.string s, .int .i64 i] (by kernel_rfl) (scat_any s i _ (by omega) (by omega) (by omega) (hT.below (bt (bt (bt hb_2 hb_4) hb_10) hb_12)) es (hA.below (bt (bt (bt hb_2 hb_4) hb_10) hb_12))) ?_
  rintro e w_13 ⟨rfl, hb_14⟩; refine ⟨_, rfl, ?_⟩
  refine XL_run 5 [] [(1, .int .i64 i), (6, .int .i64 (chkN s : Int)), (7, .slice A_5 ((U.scz s).length) c_6), (8, .string ((U.cutP s i).1)), (9, .string ((U.cutP s i).2.1)), (10, errV es ((U.cutP s i).2.2)), (11, .int .i32 ((U.scAtP s i).1)), (12, errV es ((U.scAtP s i).2))] w_13 [] (by kernel_rfl) trivial ?_
  refine XL_nil ?_
  refine X_seq ?_
  refine X_seq ?_
  refine X_region ?_
  refine XL_run 1 [] [(1, .int .i64 i), (6, .int .i64 (chkN s : Int)), (7, .slice A_5 ((U.scz s).length) c_6), (8, .string ((U.cutP s i).1)), (9, .string ((U.cutP s i).2.1)), (10, errV es ((U.cutP s i).2.2)), (11, .int .i32 ((U.scAtP s i).1)), (12, errV es ((U.scAtP s i).2)), (35, .int .i64 (chkN s : Int))] w_13 [] (by kernel_rfl) trivial ?_
  by_cases c_15 : (chkN s : Int) = 0
  · have hk0 : chkN s = 0 := by omega
    refine XL_run 1 [(36, .eq (.bool false))] [(1, .int .i64 i), (6, .int .i64 (chkN s : Int)), (7, .slice A_5 ((U.scz s).length) c_6), (8, .string ((U.cutP s i).1)), (9, .string ((U.cutP s i).2.1)), (10, errV es ((U.cutP s i).2.2)), (11, .int .i32 ((U.scAtP s i).1)), (12, errV es ((U.scAtP s i).2)), (36, .bool false)] w_13 [Value.bool ((chkN s : Int) != 0) = Value.bool false] (by kernel_rfl) ⟨congrArg Value.bool (bneF (c_15)), trivial⟩ ?_
    refine XL_nil ?_
    refine X_cond false rfl ?_
    refine X_skip ?_
    refine X_seq ?_
    refine X_seq ?_
    refine X_region ?_
    refine XL_run 1 [] [(1, .int .i64 i), (7, .slice A_5 ((U.scz s).length) c_6), (8, .string ((U.cutP s i).1)), (9, .string ((U.cutP s i).2.1)), (10, errV es ((U.cutP s i).2.2)), (11, .int .i32 ((U.scAtP s i).1)), (12, errV es ((U.scAtP s i).2)), (59, .int .i64 i)] w_13 [] (by kernel_rfl) trivial ?_
    by_cases c_16 : i < 0
    · have hcs := cut_oob hk0 (i := i) (by omega)
      have hc3 : (U.cutP s i).2.2 = 12 := by rw [hcs.1]
      have hs3 : (U.scAtP s i).2 = 12 := by rw [hcs.2]
      refine XL_run 7 [(60, .eq (.bool true))] [(1, .int .i64 i), (7, .slice A_5 ((U.scz s).length) c_6), (8, .string ((U.cutP s i).1)), (9, .string ((U.cutP s i).2.1)), (10, errV es ((U.cutP s i).2.2)), (11, .int .i32 ((U.scAtP s i).1)), (12, errV es ((U.scAtP s i).2)), (66, .bool true)] w_13 [Value.bool (decide (i < 0)) = Value.bool true] (by kernel_rfl) ⟨congrArg Value.bool (decide_eq_true (c_16)), trivial⟩ ?_
      refine XL_nil ?_
      refine X_cond true rfl ?_
      refine X_seq ?_
      refine X_region ?_
      refine XL_run 1 [] [(8, .string ((U.cutP s i).1)), (9, .string ((U.cutP s i).2.1)), (11, .int .i32 ((U.scAtP s i).1)), (12, errV es ((U.scAtP s i).2)), (67, errV es ((U.cutP s i).2.2))] w_13 [] (by kernel_rfl) trivial ?_
      have hB_17 : Below w.heap.size w w_13 := (bt (bt (bt (bt hb_2 hb_4) hb_10) hb_12) hb_14)
      refine XL_call 18 rfl rfl rfl ent18 [errV es ((U.cutP s i).2.2)] (by kernel_rfl) (num_any es ((U.cutP s i).2.2) (by omega) _ (hE.below hB_17)) ?_
      rintro e w_18 ⟨rfl, hb_19⟩; refine ⟨_, rfl, ?_⟩
      refine XL_run 3 [(69, .eq (.bool true))] [(8, .string ((U.cutP s i).1)), (9, .string ((U.cutP s i).2.1)), (11, .int .i32 ((U.scAtP s i).1)), (70, .bool true), (71, errV es ((U.scAtP s i).2))] w_18 [Value.bool ((((U.cutP s i).2.2) : Int) == 12) = Value.bool true] (by kernel_rfl) ⟨congrArg Value.bool (beq_iff_eq.2 ((by omega))), trivial⟩ ?_
      refine XL_call 18 rfl rfl rfl ent18 [errV es ((U.scAtP s i).2)] (by kernel_rfl) (num_any es ((U.scAtP s i).2) (by omega) _ (hE.below (bt hB_17 hb_19))) ?_
      rintro e w_20 ⟨rfl, hb_21⟩; refine ⟨_, rfl, ?_⟩
      refine XL_run 15 [(73, .eq (.bool true)), (77, .eq (.bool true)), (81, .eq (.bool true)), (85, .eq (.bool true))] [(4, .bool true)] w_20 [Value.bool ((((U.scAtP s i).2) : Int) == 12) = Value.bool true, Value.bool (((U.cutP s i).1).toList == (⟨#[]⟩ : ByteArray).toList) = Value.bool true, Value.bool (((U.cutP s i).2.1).toList == (⟨#[]⟩ : ByteArray).toList) = Value.bool true, Value.bool ((U.scAtP s i).1 == 0) = Value.bool true] (by kernel_rfl) ⟨congrArg Value.bool (beq_iff_eq.2 ((by omega))), congrArg Value.bool (strEqT ((by rw [hcs.1]))), congrArg Value.bool (strEqT ((by rw [hcs.1]))), congrArg Value.bool (beq_iff_eq.2 ((by rw [hcs.2]))), trivial⟩ ?_
      refine XL_nil ?_
      refine X_ret ?_
      refine RX.ret_ok (P := Tryd.prog) (fn := Tryd.f8) (N := 126) (R := R_) [.bool true] (by kernel_rfl) (hR_ _ _ ?_)
      exact ⟨rfl, (bt (bt hB_17 hb_19) hb_21)⟩
    · refine XL_run 5 [(60, .eq (.bool false))] [(1, .int .i64 i), (7, .slice A_5 ((U.scz s).length) c_6), (8, .string ((U.cutP s i).1)), (9, .string ((U.cutP s i).2.1)), (10, errV es ((U.cutP s i).2.2)), (11, .int .i32 ((U.scAtP s i).1)), (12, errV es ((U.scAtP s i).2)), (61, .bool false), (62, .int .i64 i), (64, .int .i64 ((U.scz s).length : Int))] w_13 [Value.bool (decide (i < 0)) = Value.bool false] (by kernel_rfl) ⟨congrArg Value.bool (decide_eq_false (c_16)), trivial⟩ ?_
      by_cases c_22 : i > ((U.scz s).length : Int)
      · have hcs := cut_oob hk0 (i := i) (by omega)
        have hc3 : (U.cutP s i).2.2 = 12 := by rw [hcs.1]
        have hs3 : (U.scAtP s i).2 = 12 := by rw [hcs.2]
        refine XL_run 2 [(65, .eq (.bool true))] [(1, .int .i64 i), (7, .slice A_5 ((U.scz s).length) c_6), (8, .string ((U.cutP s i).1)), (9, .string ((U.cutP s i).2.1)), (10, errV es ((U.cutP s i).2.2)), (11, .int .i32 ((U.scAtP s i).1)), (12, errV es ((U.scAtP s i).2)), (66, .bool true)] w_13 [Value.bool (decide (i > ((U.scz s).length : Int))) = Value.bool true] (by kernel_rfl) ⟨congrArg Value.bool (decide_eq_true (c_22)), trivial⟩ ?_
        refine XL_nil ?_
        refine X_cond true rfl ?_
        refine X_seq ?_
        refine X_region ?_
        refine XL_run 1 [] [(8, .string ((U.cutP s i).1)), (9, .string ((U.cutP s i).2.1)), (11, .int .i32 ((U.scAtP s i).1)), (12, errV es ((U.scAtP s i).2)), (67, errV es ((U.cutP s i).2.2))] w_13 [] (by kernel_rfl) trivial ?_
        have hB_23 : Below w.heap.size w w_13 := (bt (bt (bt (bt hb_2 hb_4) hb_10) hb_12) hb_14)
        refine XL_call 18 rfl rfl rfl ent18 [errV es ((U.cutP s i).2.2)] (by kernel_rfl) (num_any es ((U.cutP s i).2.2) (by omega) _ (hE.below hB_23)) ?_
        rintro e w_24 ⟨rfl, hb_25⟩; refine ⟨_, rfl, ?_⟩
        refine XL_run 3 [(69, .eq (.bool true))] [(8, .string ((U.cutP s i).1)), (9, .string ((U.cutP s i).2.1)), (11, .int .i32 ((U.scAtP s i).1)), (70, .bool true), (71, errV es ((U.scAtP s i).2))] w_24 [Value.bool ((((U.cutP s i).2.2) : Int) == 12) = Value.bool true] (by kernel_rfl) ⟨congrArg Value.bool (beq_iff_eq.2 ((by omega))), trivial⟩ ?_
        refine XL_call 18 rfl rfl rfl ent18 [errV es ((U.scAtP s i).2)] (by kernel_rfl) (num_any es ((U.scAtP s i).2) (by omega) _ (hE.below (bt hB_23 hb_25))) ?_
        rintro e w_26 ⟨rfl, hb_27⟩; refine ⟨_, rfl, ?_⟩
        refine XL_run 15 [(73, .eq (.bool true)), (77, .eq (.bool true)), (81, .eq (.bool true)), (85, .eq (.bool true))] [(4, .bool true)] w_26 [Value.bool ((((U.scAtP s i).2) : Int) == 12) = Value.bool true, Value.bool (((U.cutP s i).1).toList == (⟨#[]⟩ : ByteArray).toList) = Value.bool true, Value.bool (((U.cutP s i).2.1).toList == (⟨#[]⟩ : ByteArray).toList) = Value.bool true, Value.bool ((U.scAtP s i).1 == 0) = Value.bool true] (by kernel_rfl) ⟨congrArg Value.bool (beq_iff_eq.2 ((by omega))), congrArg Value.bool (strEqT ((by rw [hcs.1]))), congrArg Value.bool (strEqT ((by rw [hcs.1]))), congrArg Value.bool (beq_iff_eq.2 ((by rw [hcs.2]))), trivial⟩ ?_
        refine XL_nil ?_
        refine X_ret ?_
        refine RX.ret_ok (P := Tryd.prog) (fn := Tryd.f8) (N := 126) (R := R_) [.bool true] (by kernel_rfl) (hR_ _ _ ?_)
        exact ⟨rfl, (bt (bt hB_23 hb_25) hb_27)⟩
      · obtain ⟨hc3, ht1, ht2⟩ := cut_in hk0 (i := i) (by omega) (by omega)
        refine XL_run 2 [(65, .eq (.bool false))] [(1, .int .i64 i), (7, .slice A_5 ((U.scz s).length) c_6), (8, .string ((U.cutP s i).1)), (9, .string ((U.cutP s i).2.1)), (10, errV es ((U.cutP s i).2.2)), (11, .int .i32 ((U.scAtP s i).1)), (12, errV es ((U.scAtP s i).2)), (66, .bool false)] w_13 [Value.bool (decide (i > ((U.scz s).length : Int))) = Value.bool false] (by kernel_rfl) ⟨congrArg Value.bool (decide_eq_false (c_22)), trivial⟩ ?_
        refine XL_nil ?_
        refine X_cond false rfl ?_
        refine X_skip ?_
        refine X_seq ?_
        refine X_seq ?_
        refine X_region ?_
        refine XL_run 1 [] [(1, .int .i64 i), (7, .slice A_5 ((U.scz s).length) c_6), (8, .string ((U.cutP s i).1)), (9, .string ((U.cutP s i).2.1)), (11, .int .i32 ((U.scAtP s i).1)), (12, errV es ((U.scAtP s i).2)), (87, errV es ((U.cutP s i).2.2))] w_13 [] (by kernel_rfl) trivial ?_
        by_cases c_28 : (U.cutP s i).2.2 = 0
        · rw [show errV es ((U.cutP s i).2.2) = .nilIface from by rw [c_28]; rfl]
          have hC_29 := RX.Kd.C_take (m := i.toNat) (Kd.R_C (Kd.R_below hr_8 (bt hb_12 hb_14))) (by first | omega | (simp; done) | (simp; omega))
          refine XL_run 6 [(93, .as (.slice A_5 i.toNat c_6))] [(1, .int .i64 i), (7, .slice A_5 ((U.scz s).length) c_6), (9, .string ((U.cutP s i).2.1)), (11, .int .i32 ((U.scAtP s i).1)), (12, errV es ((U.scAtP s i).2)), (89, .bool false), (90, .string ((U.cutP s i).1)), (93, .slice A_5 i.toNat c_6)] w_13 [RunsAs Tryd.prog [(91, .slice A_5 ((U.scz s).length) c_6), (92, .int .i64 i)] (Go.Op.slice 22 (Go.Operand.tmp 91) none (some (Go.Operand.tmp 92)) none) 22 (.slice A_5 i.toNat c_6) w_13] (by kernel_rfl) ⟨runs_slice_h (h := i) rfl rfl rfl rfl (by omega) (by have h := hl_7; (try simp only [List.length_append, List.length_cons, List.length_nil] at h); omega), trivial⟩ ?_
          refine XL_call 17 rfl rfl rfl ent17 [.slice A_5 i.toNat c_6] (by kernel_rfl) (refText_n A_5 i.toNat c_6 (List.take i.toNat (U.scz s)) _ hC_29 (by omega) (fun r_ hr_ => hvz r_ (List.mem_of_mem_take hr_))) ?_
          rintro e w_30 ⟨rfl, hb_31⟩; refine ⟨_, rfl, ?_⟩
          obtain ⟨A_32, hA_33⟩ : ∃ A_, (if c_6 = i.toNat then A_5 else A_5.map (·.add (i.toNat * 1))) = A_ := ⟨_, rfl⟩
          have hC_34 : (Kd.int .i32).C w_30 A_32 (((U.scz s).length) - i.toNat) ((U.scz s).drop i.toNat) := by have h := RX.Kd.C_drop (Kd.R_C (Kd.R_below hr_8 (bt (bt hb_12 hb_14) hb_31))) (k := i.toNat) (cap := c_6) (by omega) (by omega); first | (rw [← hA_33]; exact h)
          refine XL_run 7 [(95, .eq (.bool false)), (101, .as (.slice A_32 ((U.scz s).length - i.toNat) (c_6 - i.toNat)))] [(1, .int .i64 i), (7, .slice A_5 ((U.scz s).length) c_6), (11, .int .i32 ((U.scAtP s i).1)), (12, errV es ((U.scAtP s i).2)), (97, .bool false), (98, .string ((U.cutP s i).2.1)), (101, .slice A_32 ((U.scz s).length - i.toNat) (c_6 - i.toNat))] w_30 [Value.bool (!((U.cutP s i).1).toList == (runesBytes (List.take i.toNat (U.scz s))).toList) = Value.bool false, RunsAs Tryd.prog [(99, .slice A_5 ((U.scz s).length) c_6), (100, .int .i64 i)] (Go.Op.slice 22 (Go.Operand.tmp 99) (some (Go.Operand.tmp 100)) none none) 22 (.slice A_32 ((U.scz s).length - i.toNat) (c_6 - i.toNat)) w_30] (by kernel_rfl) ⟨congrArg Value.bool (strNeF ((by rw [ht1]))), (hA_33 ▸ runs_slice_l (h := i) rfl rfl rfl rfl (by omega) (by omega) (by omega)), trivial⟩ ?_
          refine XL_call 17 rfl rfl rfl ent17 [.slice A_32 ((U.scz s).length - i.toNat) (c_6 - i.toNat)] (by kernel_rfl) (refText_n A_32 ((U.scz s).length - i.toNat) (c_6 - i.toNat) ((U.scz s).drop i.toNat) _ hC_34 (by omega) (fun r_ hr_ => hvz r_ (List.mem_of_mem_drop hr_))) ?_
          rintro e w_35 ⟨rfl, hb_36⟩; refine ⟨_, rfl, ?_⟩
          refine XL_run 2 [(103, .eq (.bool false))] [(1, .int .i64 i), (7, .slice A_5 ((U.scz s).length) c_6), (11, .int .i32 ((U.scAtP s i).1)), (12, errV es ((U.scAtP s i).2)), (104, .bool false)] w_35 [Value.bool (!((U.cutP s i).2.1).toList == (runesBytes ((U.scz s).drop i.toNat)).toList) = Value.bool false] (by kernel_rfl) ⟨congrArg Value.bool (strNeF ((by rw [ht2]))), trivial⟩ ?_
          refine XL_nil ?_
          refine X_cond false rfl ?_
          refine X_skip ?_
          refine X_seq ?_
          refine X_seq ?_
          refine X_region ?_
          refine XL_run 3 [] [(1, .int .i64 i), (7, .slice A_5 ((U.scz s).length) c_6), (11, .int .i32 ((U.scAtP s i).1)), (12, errV es ((U.scAtP s i).2)), (105, .int .i64 i), (107, .int .i64 ((U.scz s).length : Int))] w_35 [] (by kernel_rfl) trivial ?_
          by_cases c_37 : i = ((U.scz s).length : Int)
          · have hae := at_end hk0 (i := i) (by omega)
            have hs3 : (U.scAtP s i).2 = 12 := by rw [hae]
            refine XL_run 1 [(108, .eq (.bool true))] [(1, .int .i64 i), (7, .slice A_5 ((U.scz s).length) c_6), (11, .int .i32 ((U.scAtP s i).1)), (12, errV es ((U.scAtP s i).2)), (108, .bool true)] w_35 [Value.bool (i == ((U.scz s).length : Int)) = Value.bool true] (by kernel_rfl) ⟨congrArg Value.bool (beq_iff_eq.2 (c_37)), trivial⟩ ?_
            refine XL_nil ?_
            refine X_cond true rfl ?_
            refine X_seq ?_
            refine X_region ?_
            refine XL_run 1 [] [(11, .int .i32 ((U.scAtP s i).1)), (109, errV es ((U.scAtP s i).2))] w_35 [] (by kernel_rfl) trivial ?_
            have hB_38 : Below w.heap.size w w_35 := (bt (bt (bt (bt (bt (bt hb_2 hb_4) hb_10) hb_12) hb_14) hb_31) hb_36)
            refine XL_call 18 rfl rfl rfl ent18 [errV es ((U.scAtP s i).2)] (by kernel_rfl) (num_any es ((U.scAtP s i).2) (by omega) _ (hE.below hB_38)) ?_
            rintro e w_39 ⟨rfl, hb_40⟩; refine ⟨_, rfl, ?_⟩
            refine XL_run 6 [(111, .eq (.bool true)), (114, .eq (.bool true))] [(4, .bool true)] w_39 [Value.bool ((((U.scAtP s i).2) : Int) == 12) = Value.bool true, Value.bool ((U.scAtP s i).1 == 0) = Value.bool true] (by kernel_rfl) ⟨congrArg Value.bool (beq_iff_eq.2 ((by omega))), congrArg Value.bool (beq_iff_eq.2 ((by rw [hae]))), trivial⟩ ?_
            refine XL_nil ?_
            refine X_ret ?_
            refine RX.ret_ok (P := Tryd.prog) (fn := Tryd.f8) (N := 126) (R := R_) [.bool true] (by kernel_rfl) (hR_ _ _ ?_)
            exact ⟨rfl, (bt hB_38 hb_40)⟩
          · obtain ⟨hs3, hs4⟩ := at_in hk0 (i := i) (by omega) (by omega)
            refine XL_run 1 [(108, .eq (.bool false))] [(1, .int .i64 i), (7, .slice A_5 ((U.scz s).length) c_6), (11, .int .i32 ((U.scAtP s i).1)), (12, errV es ((U.scAtP s i).2)), (108, .bool false)] w_35 [Value.bool (i == ((U.scz s).length : Int)) = Value.bool false] (by kernel_rfl) ⟨congrArg Value.bool (beq_eq_false_iff_ne.2 (c_37)), trivial⟩ ?_
            refine XL_nil ?_
            refine X_cond false rfl ?_
            refine X_skip ?_
            refine X_seq ?_
            refine X_region ?_
            refine XL_run 1 [] [(1, .int .i64 i), (7, .slice A_5 ((U.scz s).length) c_6), (11, .int .i32 ((U.scAtP s i).1)), (116, errV es ((U.scAtP s i).2))] w_35 [] (by kernel_rfl) trivial ?_
            by_cases c_41 : (U.scAtP s i).2 = 0
            · rw [show errV es ((U.scAtP s i).2) = .nilIface from by rw [c_41]; rfl]
              refine XL_run 5 [] [(118, .bool true), (119, .int .i32 ((U.scAtP s i).1)), (120, .slice A_5 ((U.scz s).length) c_6), (121, .int .i64 i)] w_35 [] (by kernel_rfl) trivial ?_
              obtain ⟨ad_42, ha_43, hc_44⟩ := Kd.atI (Kd.R_C (Kd.R_below hr_8 (bt (bt (bt hb_12 hb_14) hb_31) hb_36))) (i := i) (by omega) (by omega)
              refine XL_run 5 [(122, .idx ad_42), (123, .load (.int .i32 (rd (U.scz s) i))), (124, .eq (.bool true))] [(4, .bool true)] w_35 [A_5 = some ad_42, (0 : Int) ≤ i, i < ((U.scz s).length : Int), LoadsAs Tryd.prog 21 (ad_42.add (i.toNat * 1)) (.int .i32 (rd (U.scz s) i)) w_35, Value.bool ((U.scAtP s i).1 == rd (U.scz s) i) = Value.bool true] (by kernel_rfl) ⟨ha_43, (by omega), (by omega), loads1 rfl (elem_cell hc_44 0 _ rfl), congrArg Value.bool (beq_iff_eq.2 (hs4)), trivial⟩ ?_
              refine XL_nil ?_
              refine X_ret ?_
              refine RX.ret_ok (P := Tryd.prog) (fn := Tryd.f8) (N := 126) (R := R_) [.bool true] (by kernel_rfl) (hR_ _ _ ?_)
              have hB_45 : Below w.heap.size w w_35 := (bt (bt (bt (bt (bt (bt hb_2 hb_4) hb_10) hb_12) hb_14) hb_31) hb_36)
              exact ⟨rfl, hB_45⟩
            · exfalso; omega
        · exfalso; omega
  · have hcs := cut_bad (s := s) (by omega) i
    have hk1 : chkN s = 1 := by omega
    have hc3 : (U.cutP s i).2.2 = 1 := by rw [hcs.1]
    have hs3 : (U.scAtP s i).2 = 1 := by rw [hcs.2]
    refine XL_run 1 [(36, .eq (.bool true))] [(1, .int .i64 i), (6, .int .i64 (chkN s : Int)), (7, .slice A_5 ((U.scz s).length) c_6), (8, .string ((U.cutP s i).1)), (9, .string ((U.cutP s i).2.1)), (10, errV es ((U.cutP s i).2.2)), (11, .int .i32 ((U.scAtP s i).1)), (12, errV es ((U.scAtP s i).2)), (36, .bool true)] w_13 [Value.bool ((chkN s : Int) != 0) = Value.bool true] (by kernel_rfl) ⟨congrArg Value.bool (bneT (c_15)), trivial⟩ ?_
    refine XL_nil ?_
    refine X_cond true rfl ?_
    refine X_seq ?_
    refine X_region ?_
    refine XL_run 1 [] [(6, .int .i64 (chkN s : Int)), (8, .string ((U.cutP s i).1)), (9, .string ((U.cutP s i).2.1)), (11, .int .i32 ((U.scAtP s i).1)), (12, errV es ((U.scAtP s i).2)), (37, errV es ((U.cutP s i).2.2))] w_13 [] (by kernel_rfl) trivial ?_
    have hB_46 : Below w.heap.size w w_13 := (bt (bt (bt (bt hb_2 hb_4) hb_10) hb_12) hb_14)
    refine XL_call 18 rfl rfl rfl ent18 [errV es ((U.cutP s i).2.2)] (by kernel_rfl) (num_any es ((U.cutP s i).2.2) (by omega) _ (hE.below hB_46)) ?_
    rintro e w_47 ⟨rfl, hb_48⟩; refine ⟨_, rfl, ?_⟩
    refine XL_run 4 [(40, .eq (.bool true))] [(6, .int .i64 (chkN s : Int)), (8, .string ((U.cutP s i).1)), (9, .string ((U.cutP s i).2.1)), (11, .int .i32 ((U.scAtP s i).1)), (41, .bool true), (42, errV es ((U.scAtP s i).2))] w_47 [Value.bool ((((U.cutP s i).2.2) : Int) == (chkN s : Int)) = Value.bool true] (by kernel_rfl) ⟨congrArg Value.bool (beq_iff_eq.2 ((by omega))), trivial⟩ ?_
    refine XL_call 18 rfl rfl rfl ent18 [errV es ((U.scAtP s i).2)] (by kernel_rfl) (num_any es ((U.scAtP s i).2) (by omega) _ (hE.below (bt hB_46 hb_48))) ?_
    rintro e w_49 ⟨rfl, hb_50⟩; refine ⟨_, rfl, ?_⟩
    refine XL_run 16 [(45, .eq (.bool true)), (49, .eq (.bool true)), (53, .eq (.bool true)), (57, .eq (.bool true))] [(4, .bool true)] w_49 [Value.bool ((((U.scAtP s i).2) : Int) == (chkN s : Int)) = Value.bool true, Value.bool (((U.cutP s i).1).toList == (⟨#[]⟩ : ByteArray).toList) = Value.bool true, Value.bool (((U.cutP s i).2.1).toList == (⟨#[]⟩ : ByteArray).toList) = Value.bool true, Value.bool ((U.scAtP s i).1 == 0) = Value.bool true] (by kernel_rfl) ⟨congrArg Value.bool (beq_iff_eq.2 ((by omega))), congrArg Value.bool (strEqT ((by rw [hcs.1]))), congrArg Value.bool (strEqT ((by rw [hcs.1]))), congrArg Value.bool (beq_iff_eq.2 ((by rw [hcs.2]))), trivial⟩ ?_
    refine XL_nil ?_
    refine X_ret ?_
    refine RX.ret_ok (P := Tryd.prog) (fn := Tryd.f8) (N := 126) (R := R_) [.bool true] (by kernel_rfl) (hR_ _ _ ?_)
    exact ⟨rfl, (bt (bt hB_46 hb_48) hb_50)⟩
end Go.Proofs.YtlnfgkafnpbeeaaDoor
