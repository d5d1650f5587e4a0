/- What the references of layers content and ops answer: what the program answers. Conditions: sizes, the tables of utf8. -/
import Derived.Test.YtekfdfafhfhfbaaDoorO2
import Derived.Test.YtekfdfafhfhfbaaDoorR1
set_option linter.unusedVariables false
set_option linter.unusedSimpArgs false
set_option maxRecDepth 100000
namespace Go.Proofs.YtekfdfafhfhfbaaDoor
open Go Go.RowKit Go.Proofs.YtekfdfafhfhfbaaDoorW.PrintWords RX
theorem ent46 : Ent Tryd.prog 46 := ent_of Tryd.func46 (by kernel_rfl) rfl
theorem ent54 : Ent Tryd.prog 54 := ent_of Tryd.func54 (by kernel_rfl) rfl
theorem ent65 : Ent Tryd.prog 65 := ent_of Tryd.func65 (by kernel_rfl) rfl
theorem ent68 : Ent Tryd.prog 68 := ent_of Tryd.func68 (by kernel_rfl) rfl
theorem ent19 : Ent Tryd.prog 19 := ent_of Tryd.func19 (by kernel_rfl) rfl
theorem ent71 : Ent Tryd.prog 71 := ent_of Tryd.func71 (by kernel_rfl) rfl
theorem ent70 : Ent Tryd.prog 70 := ent_of Tryd.func70 (by kernel_rfl) rfl
theorem ent21 : Ent Tryd.prog 21 := ent_of Tryd.func21 (by kernel_rfl) rfl
theorem ent73 : Ent Tryd.prog 73 := ent_of Tryd.func73 (by kernel_rfl) rfl
theorem ent23 : Ent Tryd.prog 23 := ent_of Tryd.func23 (by kernel_rfl) rfl
theorem ent76 : Ent Tryd.prog 76 := ent_of Tryd.func76 (by kernel_rfl) rfl
theorem ent25 : Ent Tryd.prog 25 := ent_of Tryd.func25 (by kernel_rfl) rfl
theorem opSz.b {o : OpA} (h : opSz o) : o.text.size ≤ 100000000 ∧ o.vt.size ≤ 100000000 := by have h1 := h.1; have h2 := h.2.1; omega
set_option maxHeartbeats 2000000 in
theorem r4refuse_any (o : OpA) (A : Option Addr) (c : Nat) (w : World) (hA : kAttr.C w A o.attrs.length o.attrs) (hz : opSz o) (hT : Tabs w) : Calls Tryd.prog 46 #[.agg #[.int .i64 o.kind, .string o.text, .int .i64 o.vk, .int .i64 o.vn, .string o.vt, .int .i64 o.count, .slice A o.attrs.length c]] w fun e w' => e = .returned (.int .i64 (refuseP o : Int)) ∧ Below w.heap.size w w' := by
  have hz1 := hz.b.1
  have hz2 := hz.b.2
  refine RX.enter Tryd.func46 rfl 65 rfl [(0, .agg #[.int .i64 o.kind, .string o.text, .int .i64 o.vk, .int .i64 o.vn, .string o.vt, .int .i64 o.count, .slice A o.attrs.length c])] rfl (by kernel_rfl) (fun R_ hR_ => ?_)
  refine X_seq ?_
  refine X_region ?_
  refine XL_run 1 [] [(1, .pointer (some ⟨w.heap.size, 0, none⟩))] (w.alloc (.cells #[.int .i64 o.kind, .string o.text, .int .i64 o.vk, .int .i64 o.vn, .string o.vt, .int .i64 o.count, .slice A o.attrs.length c] 33)) [] (by kernel_rfl) trivial ?_
  obtain ⟨w_1, hw_5, hb_2, hk_3, hz_4⟩ := new_world w #[.int .i64 o.kind, .string o.text, .int .i64 o.vk, .int .i64 o.vn, .string o.vt, .int .i64 o.count, .slice A o.attrs.length c] 33
  rw [hw_5]
  refine XL_run 1 [] [(1, .pointer (some ⟨w.heap.size, 0, none⟩))] w_1 [] (by kernel_rfl) trivial ?_
  refine XL_nil ?_
  refine X_seq ?_
  refine X_block ?_
  refine X_seq ?_
  refine X_region ?_
  refine XL_run 2 [(7, .load (.int .i64 o.kind))] [(1, .pointer (some ⟨w.heap.size, 0, none⟩)), (7, .int .i64 o.kind)] w_1 [LoadsAs Tryd.prog 3 (⟨w.heap.size, 0, none⟩) (.int .i64 o.kind) w_1] (by kernel_rfl) ⟨loads1 rfl (Blk.cell hk_3 0 _ rfl), trivial⟩ ?_
  by_cases c_6 : o.kind = 1
  · refine XL_run 7 [(8, .eq (.bool false))] [(1, .pointer (some ⟨w.heap.size, 0, none⟩)), (5, .bool false)] w_1 [Value.bool (o.kind != 1) = Value.bool false] (by kernel_rfl) ⟨congrArg Value.bool (bneF (c_6)), trivial⟩ ?_
    refine XL_nil ?_
    refine X_cond false rfl ?_
    refine X_seq ?_
    refine X_region ?_
    refine XL_run 2 [(16, .load (.int .i64 o.count))] [(1, .pointer (some ⟨w.heap.size, 0, none⟩)), (16, .int .i64 o.count)] w_1 [LoadsAs Tryd.prog 3 (⟨w.heap.size, 5, none⟩) (.int .i64 o.count) w_1] (by kernel_rfl) ⟨loads1 rfl (Blk.cell hk_3 5 _ rfl), trivial⟩ ?_
    by_cases c_7 : o.count = 0
    · refine XL_run 2 [(17, .eq (.bool false))] [(1, .pointer (some ⟨w.heap.size, 0, none⟩)), (14, .bool false)] w_1 [Value.bool (o.count != 0) = Value.bool false] (by kernel_rfl) ⟨congrArg Value.bool (bneF (c_7)), trivial⟩ ?_
      refine XL_nil ?_
      refine X_cond false rfl ?_
      refine X_seq ?_
      refine X_region ?_
      refine XL_run 6 [(20, .load (.int .i64 o.kind)), (21, .eq (.bool true)), (24, .load (.string o.text))] [(1, .pointer (some ⟨w.heap.size, 0, none⟩)), (22, .bool true), (24, .string o.text)] w_1 [LoadsAs Tryd.prog 3 (⟨w.heap.size, 0, none⟩) (.int .i64 o.kind) w_1, Value.bool (o.kind == 1) = Value.bool true, LoadsAs Tryd.prog 9 (⟨w.heap.size, 1, none⟩) (.string o.text) w_1] (by kernel_rfl) ⟨loads1 rfl (Blk.cell hk_3 0 _ rfl), congrArg Value.bool (beq_iff_eq.2 (c_6)), loads1 rfl (Blk.cell hk_3 1 _ rfl), trivial⟩ ?_
      by_cases c_8 : o.text = (⟨#[]⟩ : ByteArray)
      · refine XL_run 9 [(25, .eq (.bool true))] [(1, .pointer (some ⟨w.heap.size, 0, none⟩)), (18, .bool true)] w_1 [Value.bool (o.text.toList == (⟨#[]⟩ : ByteArray).toList) = Value.bool true] (by kernel_rfl) ⟨congrArg Value.bool (strEqT (c_8)), trivial⟩ ?_
        refine XL_nil ?_
        refine X_cond true rfl ?_
        refine X_seq ?_
        refine X_region ?_
        refine XL_run 1 [] [(2, .int .i64 9)] w_1 [] (by kernel_rfl) trivial ?_
        refine XL_nil ?_
        refine X_ret ?_
        refine RX.ret_ok (P := Tryd.prog) (fn := Tryd.f46) (N := 65) (R := R_) [.int .i64 9] (by kernel_rfl) (hR_ _ _ ?_)
        rw [show refuseP o = 9 from by unfold refuseP; simp_all <;> omega]
        exact ⟨rfl, hb_2⟩
      · refine XL_run 5 [(25, .eq (.bool false)), (28, .load (.agg #[.int .i64 o.vk, .int .i64 o.vn, .string o.vt]))] [(1, .pointer (some ⟨w.heap.size, 0, none⟩)), (22, .bool true), (26, .bool false), (28, .agg #[.int .i64 o.vk, .int .i64 o.vn, .string o.vt]), (29, .agg #[.int .i64 0, .int .i64 0, .string ByteArray.empty])] w_1 [Value.bool (o.text.toList == (⟨#[]⟩ : ByteArray).toList) = Value.bool false, LoadsAs Tryd.prog 30 (⟨w.heap.size, 2, none⟩) (.agg #[.int .i64 o.vk, .int .i64 o.vn, .string o.vt]) w_1] (by kernel_rfl) ⟨congrArg Value.bool (strEqF (c_8)), loadsB rfl rfl hk_3 2 ⟨by kernel_rfl, by kernel_rfl⟩, trivial⟩ ?_
        by_cases c_9 : (o.vk, o.vn, o.vt) = pl0
        · refine XL_run 4 [(30, .as (.bool false))] [(1, .pointer (some ⟨w.heap.size, 0, none⟩)), (18, .bool false)] w_1 [RunsAs Tryd.prog [(28, .agg #[.int .i64 o.vk, .int .i64 o.vn, .string o.vt]), (29, .agg #[.int .i64 0, .int .i64 0, .string ByteArray.empty])] (Go.Op.binOp Go.BinOp.neq 30 (Go.Operand.tmp 28) (Go.Operand.tmp 29) 30) 4 (.bool false) w_1] (by kernel_rfl) ⟨runs_bin rfl rfl (run_eqGuard_agg _ _ _ _ _ _ _ (by kernel_rfl)) (by have h := plain_neq (o.vk, o.vn, o.vt) pl0 w_1; rw [show ple (o.vk, o.vn, o.vt) pl0 = true from (ple_iff _ _).2 c_9] at h; exact h), trivial⟩ ?_
          refine XL_nil ?_
          refine X_cond false rfl ?_
          refine X_seq ?_
          refine X_region ?_
          refine XL_run 2 [(35, .load (.int .i64 o.kind))] [(1, .pointer (some ⟨w.heap.size, 0, none⟩)), (35, .int .i64 o.kind)] w_1 [LoadsAs Tryd.prog 3 (⟨w.heap.size, 0, none⟩) (.int .i64 o.kind) w_1] (by kernel_rfl) ⟨loads1 rfl (Blk.cell hk_3 0 _ rfl), trivial⟩ ?_
          by_cases c_10 : o.kind = 2
          · refine XL_run 9 [(36, .eq (.bool true)), (39, .load (.string o.text)), (40, .eq (.bool false)), (43, .load (.string o.text))] [(1, .pointer (some ⟨w.heap.size, 0, none⟩)), (37, .bool true), (41, .bool false), (44, .int .i64 (o.text.size : Int))] w_1 [Value.bool (o.kind == 2) = Value.bool true, LoadsAs Tryd.prog 9 (⟨w.heap.size, 1, none⟩) (.string o.text) w_1, Value.bool (o.text.toList == (⟨#[]⟩ : ByteArray).toList) = Value.bool false, LoadsAs Tryd.prog 9 (⟨w.heap.size, 1, none⟩) (.string o.text) w_1] (by kernel_rfl) ⟨congrArg Value.bool (beq_iff_eq.2 (c_10)), loads1 rfl (Blk.cell hk_3 1 _ rfl), congrArg Value.bool (strEqF (c_8)), loads1 rfl (Blk.cell hk_3 1 _ rfl), trivial⟩ ?_
            by_cases c_11 : (o.text.size : Int) > 64
            · refine XL_run 4 [(45, .eq (.bool true))] [(1, .pointer (some ⟨w.heap.size, 0, none⟩)), (33, .bool true)] w_1 [Value.bool (decide ((o.text.size : Int) > 64)) = Value.bool true] (by kernel_rfl) ⟨congrArg Value.bool (decide_eq_true (c_11)), trivial⟩ ?_
              refine XL_nil ?_
              refine X_cond true rfl ?_
              refine X_seq ?_
              refine X_region ?_
              refine XL_run 1 [] [(2, .int .i64 6)] w_1 [] (by kernel_rfl) trivial ?_
              refine XL_nil ?_
              refine X_ret ?_
              refine RX.ret_ok (P := Tryd.prog) (fn := Tryd.f46) (N := 65) (R := R_) [.int .i64 6] (by kernel_rfl) (hR_ _ _ ?_)
              rw [show refuseP o = 6 from by unfold refuseP; simp_all <;> omega]
              exact ⟨rfl, hb_2⟩
            · refine XL_run 4 [(45, .eq (.bool false))] [(1, .pointer (some ⟨w.heap.size, 0, none⟩)), (33, .bool false)] w_1 [Value.bool (decide ((o.text.size : Int) > 64)) = Value.bool false] (by kernel_rfl) ⟨congrArg Value.bool (decide_eq_false (c_11)), trivial⟩ ?_
              refine XL_nil ?_
              refine X_cond false rfl ?_
              refine X_skip ?_
              refine X_seq ?_
              refine X_region ?_
              refine XL_run 2 [(49, .load (.string o.text))] [(1, .pointer (some ⟨w.heap.size, 0, none⟩)), (49, .string o.text)] w_1 [LoadsAs Tryd.prog 9 (⟨w.heap.size, 1, none⟩) (.string o.text) w_1] (by kernel_rfl) ⟨loads1 rfl (Blk.cell hk_3 1 _ rfl), trivial⟩ ?_
              refine XL_call 94 rfl rfl rfl ent94 [.string o.text] (by kernel_rfl) (utf8_any o.text _ (by omega)) ?_
              rintro e w_12 ⟨rfl, hb_13⟩; refine ⟨_, rfl, ?_⟩
              refine XL_run 1 [] [(1, .pointer (some ⟨w.heap.size, 0, none⟩)), (3, .bool ((uchk o.text).2))] w_12 [] (by kernel_rfl) trivial ?_
              refine XL_nil ?_
              refine X_seq ?_
              refine X_seq ?_
              refine X_region ?_
              refine XL_run 1 [] [(1, .pointer (some ⟨w.heap.size, 0, none⟩)), (51, .bool ((uchk o.text).2))] w_12 [] (by kernel_rfl) trivial ?_
              by_cases c_14 : (uchk o.text).2 = true
              · rw [show ((uchk o.text).2 : Bool) = true from by simpa using c_14]
                refine XL_run 1 [] [(1, .pointer (some ⟨w.heap.size, 0, none⟩)), (52, .bool false)] w_12 [] (by kernel_rfl) trivial ?_
                refine XL_nil ?_
                refine X_cond false rfl ?_
                refine X_skip ?_
                refine X_seq ?_
                refine X_seq ?_
                refine X_region ?_
                refine XL_run 3 [(54, .load (.int .i64 o.kind)), (55, .eq (.bool true))] [(1, .pointer (some ⟨w.heap.size, 0, none⟩)), (55, .bool true)] w_12 [LoadsAs Tryd.prog 3 (⟨w.heap.size, 0, none⟩) (.int .i64 o.kind) w_12, Value.bool (o.kind == 2) = Value.bool true] (by kernel_rfl) ⟨loads1 rfl (Blk.cell (Blk.below hk_3 hb_13) 0 _ rfl), congrArg Value.bool (beq_iff_eq.2 (c_10)), trivial⟩ ?_
                refine XL_nil ?_
                refine X_cond true rfl ?_
                refine X_seq ?_
                refine X_region ?_
                refine XL_run 2 [(57, .load (.agg #[.int .i64 o.vk, .int .i64 o.vn, .string o.vt]))] [(1, .pointer (some ⟨w.heap.size, 0, none⟩)), (57, .agg #[.int .i64 o.vk, .int .i64 o.vn, .string o.vt])] w_12 [LoadsAs Tryd.prog 30 (⟨w.heap.size, 2, none⟩) (.agg #[.int .i64 o.vk, .int .i64 o.vn, .string o.vt]) w_12] (by kernel_rfl) ⟨loadsB rfl rfl (Blk.below hk_3 hb_13) 2 ⟨by kernel_rfl, by kernel_rfl⟩, trivial⟩ ?_
                refine XL_call 95 rfl rfl rfl ent95 [.agg #[.int .i64 o.vk, .int .i64 o.vn, .string o.vt]] (by kernel_rfl) (r2check_any o.vk o.vn o.vt _ (by omega)) ?_
                rintro e w_15 ⟨rfl, hb_16⟩; refine ⟨_, rfl, ?_⟩
                refine XL_run 1 [] [(1, .pointer (some ⟨w.heap.size, 0, none⟩)), (4, .int .i64 (plainErr o.vk o.vn o.vt : Int))] w_15 [] (by kernel_rfl) trivial ?_
                refine XL_nil ?_
                refine X_seq ?_
                refine X_region ?_
                refine XL_run 1 [] [(1, .pointer (some ⟨w.heap.size, 0, none⟩)), (4, .int .i64 (plainErr o.vk o.vn o.vt : Int)), (59, .int .i64 (plainErr o.vk o.vn o.vt : Int))] w_15 [] (by kernel_rfl) trivial ?_
                by_cases c_17 : (plainErr o.vk o.vn o.vt : Int) = 0
                · refine XL_run 1 [(60, .eq (.bool false))] [(1, .pointer (some ⟨w.heap.size, 0, none⟩)), (4, .int .i64 (plainErr o.vk o.vn o.vt : Int)), (60, .bool false)] w_15 [Value.bool ((plainErr o.vk o.vn o.vt : Int) != 0) = Value.bool false] (by kernel_rfl) ⟨congrArg Value.bool (bneF (c_17)), trivial⟩ ?_
                  refine XL_nil ?_
                  refine X_cond false rfl ?_
                  refine X_skip ?_
                  refine X_seq ?_
                  refine X_region ?_
                  refine XL_run 2 [(63, .load (.slice A o.attrs.length c))] [(63, .slice A o.attrs.length c)] w_15 [LoadsAs Tryd.prog 31 (⟨w.heap.size, 6, none⟩) (.slice A o.attrs.length c) w_15] (by kernel_rfl) ⟨loads1 rfl (Blk.cell (Blk.below hk_3 (bt hb_13 hb_16)) 6 _ rfl), trivial⟩ ?_
                  refine XL_call 30 rfl rfl rfl ent30 [.slice A o.attrs.length c, .bool false] (by kernel_rfl) (r3check_any _ _ o.attrs false _ (Kd.C_below hA (bt (bt hb_2 hb_13) hb_16)) hz.2.2.2 (hT.below (bt (bt hb_2 hb_13) hb_16))) ?_
                  rintro e w_18 ⟨rfl, hb_19⟩; refine ⟨_, rfl, ?_⟩
                  refine XL_run 1 [] [(2, .int .i64 (chkA false o.attrs : Int))] w_18 [] (by kernel_rfl) trivial ?_
                  refine XL_nil ?_
                  refine X_ret ?_
                  refine RX.ret_ok (P := Tryd.prog) (fn := Tryd.f46) (N := 65) (R := R_) [.int .i64 (chkA false o.attrs : Int)] (by kernel_rfl) (hR_ _ _ ?_)
                  rw [show refuseP o = chkA false o.attrs from by unfold refuseP; simp_all <;> omega]
                  exact ⟨rfl, (bt (bt (bt hb_2 hb_13) hb_16) hb_19)⟩
                · refine XL_run 1 [(60, .eq (.bool true))] [(1, .pointer (some ⟨w.heap.size, 0, none⟩)), (4, .int .i64 (plainErr o.vk o.vn o.vt : Int)), (60, .bool true)] w_15 [Value.bool ((plainErr o.vk o.vn o.vt : Int) != 0) = Value.bool true] (by kernel_rfl) ⟨congrArg Value.bool (bneT (c_17)), trivial⟩ ?_
                  refine XL_nil ?_
                  refine X_cond true rfl ?_
                  refine X_seq ?_
                  refine X_region ?_
                  refine XL_run 2 [] [(2, .int .i64 (plainErr o.vk o.vn o.vt : Int))] w_15 [] (by kernel_rfl) trivial ?_
                  refine XL_nil ?_
                  refine X_ret ?_
                  refine RX.ret_ok (P := Tryd.prog) (fn := Tryd.f46) (N := 65) (R := R_) [.int .i64 (plainErr o.vk o.vn o.vt : Int)] (by kernel_rfl) (hR_ _ _ ?_)
                  rw [show refuseP o = plainErr o.vk o.vn o.vt from by unfold refuseP; simp_all <;> omega]
                  exact ⟨rfl, (bt (bt hb_2 hb_13) hb_16)⟩
              · rw [show ((uchk o.text).2 : Bool) = false from by simpa using c_14]
                refine XL_run 1 [] [(1, .pointer (some ⟨w.heap.size, 0, none⟩)), (52, .bool true)] w_12 [] (by kernel_rfl) trivial ?_
                refine XL_nil ?_
                refine X_cond true rfl ?_
                refine X_seq ?_
                refine X_region ?_
                refine XL_run 1 [] [(2, .int .i64 1)] w_12 [] (by kernel_rfl) trivial ?_
                refine XL_nil ?_
                refine X_ret ?_
                refine RX.ret_ok (P := Tryd.prog) (fn := Tryd.f46) (N := 65) (R := R_) [.int .i64 1] (by kernel_rfl) (hR_ _ _ ?_)
                rw [show refuseP o = 1 from by unfold refuseP; simp_all <;> omega]
                exact ⟨rfl, (bt hb_2 hb_13)⟩
          · refine XL_run 13 [(36, .eq (.bool false))] [(1, .pointer (some ⟨w.heap.size, 0, none⟩)), (33, .bool false)] w_1 [Value.bool (o.kind == 2) = Value.bool false] (by kernel_rfl) ⟨congrArg Value.bool (beq_eq_false_iff_ne.2 (c_10)), trivial⟩ ?_
            refine XL_nil ?_
            refine X_cond false rfl ?_
            refine X_skip ?_
            refine X_seq ?_
            refine X_region ?_
            refine XL_run 2 [(49, .load (.string o.text))] [(1, .pointer (some ⟨w.heap.size, 0, none⟩)), (49, .string o.text)] w_1 [LoadsAs Tryd.prog 9 (⟨w.heap.size, 1, none⟩) (.string o.text) w_1] (by kernel_rfl) ⟨loads1 rfl (Blk.cell hk_3 1 _ rfl), trivial⟩ ?_
            refine XL_call 94 rfl rfl rfl ent94 [.string o.text] (by kernel_rfl) (utf8_any o.text _ (by omega)) ?_
            rintro e w_20 ⟨rfl, hb_21⟩; refine ⟨_, rfl, ?_⟩
            refine XL_run 1 [] [(1, .pointer (some ⟨w.heap.size, 0, none⟩)), (3, .bool ((uchk o.text).2))] w_20 [] (by kernel_rfl) trivial ?_
            refine XL_nil ?_
            refine X_seq ?_
            refine X_seq ?_
            refine X_region ?_
            refine XL_run 1 [] [(1, .pointer (some ⟨w.heap.size, 0, none⟩)), (51, .bool ((uchk o.text).2))] w_20 [] (by kernel_rfl) trivial ?_
            by_cases c_22 : (uchk o.text).2 = true
            · rw [show ((uchk o.text).2 : Bool) = true from by simpa using c_22]
              refine XL_run 1 [] [(1, .pointer (some ⟨w.heap.size, 0, none⟩)), (52, .bool false)] w_20 [] (by kernel_rfl) trivial ?_
              refine XL_nil ?_
              refine X_cond false rfl ?_
              refine X_skip ?_
              refine X_seq ?_
              refine X_seq ?_
              refine X_region ?_
              refine XL_run 3 [(54, .load (.int .i64 o.kind)), (55, .eq (.bool false))] [(1, .pointer (some ⟨w.heap.size, 0, none⟩)), (55, .bool false)] w_20 [LoadsAs Tryd.prog 3 (⟨w.heap.size, 0, none⟩) (.int .i64 o.kind) w_20, Value.bool (o.kind == 2) = Value.bool false] (by kernel_rfl) ⟨loads1 rfl (Blk.cell (Blk.below hk_3 hb_21) 0 _ rfl), congrArg Value.bool (beq_eq_false_iff_ne.2 (c_10)), trivial⟩ ?_
              refine XL_nil ?_
              refine X_cond false rfl ?_
              refine X_skip ?_
              refine X_seq ?_
              refine X_region ?_
              refine XL_run 2 [(63, .load (.slice A o.attrs.length c))] [(63, .slice A o.attrs.length c)] w_20 [LoadsAs Tryd.prog 31 (⟨w.heap.size, 6, none⟩) (.slice A o.attrs.length c) w_20] (by kernel_rfl) ⟨loads1 rfl (Blk.cell (Blk.below hk_3 hb_21) 6 _ rfl), trivial⟩ ?_
              refine XL_call 30 rfl rfl rfl ent30 [.slice A o.attrs.length c, .bool false] (by kernel_rfl) (r3check_any _ _ o.attrs false _ (Kd.C_below hA (bt hb_2 hb_21)) hz.2.2.2 (hT.below (bt hb_2 hb_21))) ?_
              rintro e w_23 ⟨rfl, hb_24⟩; refine ⟨_, rfl, ?_⟩
              refine XL_run 1 [] [(2, .int .i64 (chkA false o.attrs : Int))] w_23 [] (by kernel_rfl) trivial ?_
              refine XL_nil ?_
              refine X_ret ?_
              refine RX.ret_ok (P := Tryd.prog) (fn := Tryd.f46) (N := 65) (R := R_) [.int .i64 (chkA false o.attrs : Int)] (by kernel_rfl) (hR_ _ _ ?_)
              rw [show refuseP o = chkA false o.attrs from by unfold refuseP; simp_all <;> omega]
              exact ⟨rfl, (bt (bt hb_2 hb_21) hb_24)⟩
            · rw [show ((uchk o.text).2 : Bool) = false from by simpa using c_22]
              refine XL_run 1 [] [(1, .pointer (some ⟨w.heap.size, 0, none⟩)), (52, .bool true)] w_20 [] (by kernel_rfl) trivial ?_
              refine XL_nil ?_
              refine X_cond true rfl ?_
              refine X_seq ?_
              refine X_region ?_
              refine XL_run 1 [] [(2, .int .i64 1)] w_20 [] (by kernel_rfl) trivial ?_
              refine XL_nil ?_
              refine X_ret ?_
              refine RX.ret_ok (P := Tryd.prog) (fn := Tryd.f46) (N := 65) (R := R_) [.int .i64 1] (by kernel_rfl) (hR_ _ _ ?_)
              rw [show refuseP o = 1 from by unfold refuseP; simp_all <;> omega]
              exact ⟨rfl, (bt hb_2 hb_21)⟩
        · refine XL_run 4 [(30, .as (.bool true))] [(1, .pointer (some ⟨w.heap.size, 0, none⟩)), (18, .bool true)] w_1 [RunsAs Tryd.prog [(28, .agg #[.int .i64 o.vk, .int .i64 o.vn, .string o.vt]), (29, .agg #[.int .i64 0, .int .i64 0, .string ByteArray.empty])] (Go.Op.binOp Go.BinOp.neq 30 (Go.Operand.tmp 28) (Go.Operand.tmp 29) 30) 4 (.bool true) w_1] (by kernel_rfl) ⟨runs_bin rfl rfl (run_eqGuard_agg _ _ _ _ _ _ _ (by kernel_rfl)) (by have h := plain_neq (o.vk, o.vn, o.vt) pl0 w_1; rw [show ple (o.vk, o.vn, o.vt) pl0 = false from Bool.eq_false_iff.2 (fun k => c_9 ((ple_iff _ _).1 k))] at h; exact h), trivial⟩ ?_
          refine XL_nil ?_
          refine X_cond true rfl ?_
          refine X_seq ?_
          refine X_region ?_
          refine XL_run 1 [] [(2, .int .i64 9)] w_1 [] (by kernel_rfl) trivial ?_
          refine XL_nil ?_
          refine X_ret ?_
          refine RX.ret_ok (P := Tryd.prog) (fn := Tryd.f46) (N := 65) (R := R_) [.int .i64 9] (by kernel_rfl) (hR_ _ _ ?_)
          rw [show refuseP o = 9 from by unfold refuseP; simp_all <;> omega]
          exact ⟨rfl, hb_2⟩
    · refine XL_run 2 [(17, .eq (.bool true))] [(1, .pointer (some ⟨w.heap.size, 0, none⟩)), (14, .bool true)] w_1 [Value.bool (o.count != 0) = Value.bool true] (by kernel_rfl) ⟨congrArg Value.bool (bneT (c_7)), trivial⟩ ?_
      refine XL_nil ?_
      refine X_cond true rfl ?_
      refine X_seq ?_
      refine X_region ?_
      refine XL_run 1 [] [(2, .int .i64 9)] w_1 [] (by kernel_rfl) trivial ?_
      refine XL_nil ?_
      refine X_ret ?_
      refine RX.ret_ok (P := Tryd.prog) (fn := Tryd.f46) (N := 65) (R := R_) [.int .i64 9] (by kernel_rfl) (hR_ _ _ ?_)
      rw [show refuseP o = 9 from by unfold refuseP; simp_all <;> omega]
      exact ⟨rfl, hb_2⟩
  · refine XL_run 4 [(8, .eq (.bool true)), (11, .load (.int .i64 o.kind))] [(1, .pointer (some ⟨w.heap.size, 0, none⟩)), (9, .bool true), (11, .int .i64 o.kind)] w_1 [Value.bool (o.kind != 1) = Value.bool true, LoadsAs Tryd.prog 3 (⟨w.heap.size, 0, none⟩) (.int .i64 o.kind) w_1] (by kernel_rfl) ⟨congrArg Value.bool (bneT (c_6)), loads1 rfl (Blk.cell hk_3 0 _ rfl), trivial⟩ ?_
    by_cases c_25 : o.kind = 2
    · refine XL_run 3 [(12, .eq (.bool false))] [(1, .pointer (some ⟨w.heap.size, 0, none⟩)), (5, .bool false)] w_1 [Value.bool (o.kind != 2) = Value.bool false] (by kernel_rfl) ⟨congrArg Value.bool (bneF (c_25)), trivial⟩ ?_
      refine XL_nil ?_
      refine X_cond false rfl ?_
      refine X_seq ?_
      refine X_region ?_
      refine XL_run 2 [(16, .load (.int .i64 o.count))] [(1, .pointer (some ⟨w.heap.size, 0, none⟩)), (16, .int .i64 o.count)] w_1 [LoadsAs Tryd.prog 3 (⟨w.heap.size, 5, none⟩) (.int .i64 o.count) w_1] (by kernel_rfl) ⟨loads1 rfl (Blk.cell hk_3 5 _ rfl), trivial⟩ ?_
      by_cases c_26 : o.count = 0
      · refine XL_run 2 [(17, .eq (.bool false))] [(1, .pointer (some ⟨w.heap.size, 0, none⟩)), (14, .bool false)] w_1 [Value.bool (o.count != 0) = Value.bool false] (by kernel_rfl) ⟨congrArg Value.bool (bneF (c_26)), trivial⟩ ?_
        refine XL_nil ?_
        refine X_cond false rfl ?_
        refine X_seq ?_
        refine X_region ?_
        refine XL_run 15 [(20, .load (.int .i64 o.kind)), (21, .eq (.bool false))] [(1, .pointer (some ⟨w.heap.size, 0, none⟩)), (18, .bool false)] w_1 [LoadsAs Tryd.prog 3 (⟨w.heap.size, 0, none⟩) (.int .i64 o.kind) w_1, Value.bool (o.kind == 1) = Value.bool false] (by kernel_rfl) ⟨loads1 rfl (Blk.cell hk_3 0 _ rfl), congrArg Value.bool (beq_eq_false_iff_ne.2 (c_6)), trivial⟩ ?_
        refine XL_nil ?_
        refine X_cond false rfl ?_
        refine X_seq ?_
        refine X_region ?_
        refine XL_run 6 [(35, .load (.int .i64 o.kind)), (36, .eq (.bool true)), (39, .load (.string o.text))] [(1, .pointer (some ⟨w.heap.size, 0, none⟩)), (37, .bool true), (39, .string o.text)] w_1 [LoadsAs Tryd.prog 3 (⟨w.heap.size, 0, none⟩) (.int .i64 o.kind) w_1, Value.bool (o.kind == 2) = Value.bool true, LoadsAs Tryd.prog 9 (⟨w.heap.size, 1, none⟩) (.string o.text) w_1] (by kernel_rfl) ⟨loads1 rfl (Blk.cell hk_3 0 _ rfl), congrArg Value.bool (beq_iff_eq.2 (c_25)), loads1 rfl (Blk.cell hk_3 1 _ rfl), trivial⟩ ?_
        by_cases c_27 : o.text = (⟨#[]⟩ : ByteArray)
        · refine XL_run 9 [(40, .eq (.bool true))] [(1, .pointer (some ⟨w.heap.size, 0, none⟩)), (33, .bool true)] w_1 [Value.bool (o.text.toList == (⟨#[]⟩ : ByteArray).toList) = Value.bool true] (by kernel_rfl) ⟨congrArg Value.bool (strEqT (c_27)), trivial⟩ ?_
          refine XL_nil ?_
          refine X_cond true rfl ?_
          refine X_seq ?_
          refine X_region ?_
          refine XL_run 1 [] [(2, .int .i64 6)] w_1 [] (by kernel_rfl) trivial ?_
          refine XL_nil ?_
          refine X_ret ?_
          refine RX.ret_ok (P := Tryd.prog) (fn := Tryd.f46) (N := 65) (R := R_) [.int .i64 6] (by kernel_rfl) (hR_ _ _ ?_)
          rw [show refuseP o = 6 from by unfold refuseP; simp_all <;> omega]
          exact ⟨rfl, hb_2⟩
        · refine XL_run 5 [(40, .eq (.bool false)), (43, .load (.string o.text))] [(1, .pointer (some ⟨w.heap.size, 0, none⟩)), (37, .bool true), (41, .bool false), (44, .int .i64 (o.text.size : Int))] w_1 [Value.bool (o.text.toList == (⟨#[]⟩ : ByteArray).toList) = Value.bool false, LoadsAs Tryd.prog 9 (⟨w.heap.size, 1, none⟩) (.string o.text) w_1] (by kernel_rfl) ⟨congrArg Value.bool (strEqF (c_27)), loads1 rfl (Blk.cell hk_3 1 _ rfl), trivial⟩ ?_
          by_cases c_28 : (o.text.size : Int) > 64
          · refine XL_run 4 [(45, .eq (.bool true))] [(1, .pointer (some ⟨w.heap.size, 0, none⟩)), (33, .bool true)] w_1 [Value.bool (decide ((o.text.size : Int) > 64)) = Value.bool true] (by kernel_rfl) ⟨congrArg Value.bool (decide_eq_true (c_28)), trivial⟩ ?_
            refine XL_nil ?_
            refine X_cond true rfl ?_
            refine X_seq ?_
            refine X_region ?_
            refine XL_run 1 [] [(2, .int .i64 6)] w_1 [] (by kernel_rfl) trivial ?_
            refine XL_nil ?_
            refine X_ret ?_
            refine RX.ret_ok (P := Tryd.prog) (fn := Tryd.f46) (N := 65) (R := R_) [.int .i64 6] (by kernel_rfl) (hR_ _ _ ?_)
            rw [show refuseP o = 6 from by unfold refuseP; simp_all <;> omega]
            exact ⟨rfl, hb_2⟩
          · refine XL_run 4 [(45, .eq (.bool false))] [(1, .pointer (some ⟨w.heap.size, 0, none⟩)), (33, .bool false)] w_1 [Value.bool (decide ((o.text.size : Int) > 64)) = Value.bool false] (by kernel_rfl) ⟨congrArg Value.bool (decide_eq_false (c_28)), trivial⟩ ?_
            refine XL_nil ?_
            refine X_cond false rfl ?_
            refine X_skip ?_
            refine X_seq ?_
            refine X_region ?_
            refine XL_run 2 [(49, .load (.string o.text))] [(1, .pointer (some ⟨w.heap.size, 0, none⟩)), (49, .string o.text)] w_1 [LoadsAs Tryd.prog 9 (⟨w.heap.size, 1, none⟩) (.string o.text) w_1] (by kernel_rfl) ⟨loads1 rfl (Blk.cell hk_3 1 _ rfl), trivial⟩ ?_
            refine XL_call 94 rfl rfl rfl ent94 [.string o.text] (by kernel_rfl) (utf8_any o.text _ (by omega)) ?_
            rintro e w_29 ⟨rfl, hb_30⟩; refine ⟨_, rfl, ?_⟩
            refine XL_run 1 [] [(1, .pointer (some ⟨w.heap.size, 0, none⟩)), (3, .bool ((uchk o.text).2))] w_29 [] (by kernel_rfl) trivial ?_
            refine XL_nil ?_
            refine X_seq ?_
            refine X_seq ?_
            refine X_region ?_
            refine XL_run 1 [] [(1, .pointer (some ⟨w.heap.size, 0, none⟩)), (51, .bool ((uchk o.text).2))] w_29 [] (by kernel_rfl) trivial ?_
            by_cases c_31 : (uchk o.text).2 = true
            · rw [show ((uchk o.text).2 : Bool) = true from by simpa using c_31]
              refine XL_run 1 [] [(1, .pointer (some ⟨w.heap.size, 0, none⟩)), (52, .bool false)] w_29 [] (by kernel_rfl) trivial ?_
              refine XL_nil ?_
              refine X_cond false rfl ?_
              refine X_skip ?_
              refine X_seq ?_
              refine X_seq ?_
              refine X_region ?_
              refine XL_run 3 [(54, .load (.int .i64 o.kind)), (55, .eq (.bool true))] [(1, .pointer (some ⟨w.heap.size, 0, none⟩)), (55, .bool true)] w_29 [LoadsAs Tryd.prog 3 (⟨w.heap.size, 0, none⟩) (.int .i64 o.kind) w_29, Value.bool (o.kind == 2) = Value.bool true] (by kernel_rfl) ⟨loads1 rfl (Blk.cell (Blk.below hk_3 hb_30) 0 _ rfl), congrArg Value.bool (beq_iff_eq.2 (c_25)), trivial⟩ ?_
              refine XL_nil ?_
              refine X_cond true rfl ?_
              refine X_seq ?_
              refine X_region ?_
              refine XL_run 2 [(57, .load (.agg #[.int .i64 o.vk, .int .i64 o.vn, .string o.vt]))] [(1, .pointer (some ⟨w.heap.size, 0, none⟩)), (57, .agg #[.int .i64 o.vk, .int .i64 o.vn, .string o.vt])] w_29 [LoadsAs Tryd.prog 30 (⟨w.heap.size, 2, none⟩) (.agg #[.int .i64 o.vk, .int .i64 o.vn, .string o.vt]) w_29] (by kernel_rfl) ⟨loadsB rfl rfl (Blk.below hk_3 hb_30) 2 ⟨by kernel_rfl, by kernel_rfl⟩, trivial⟩ ?_
              refine XL_call 95 rfl rfl rfl ent95 [.agg #[.int .i64 o.vk, .int .i64 o.vn, .string o.vt]] (by kernel_rfl) (r2check_any o.vk o.vn o.vt _ (by omega)) ?_
              rintro e w_32 ⟨rfl, hb_33⟩; refine ⟨_, rfl, ?_⟩
              refine XL_run 1 [] [(1, .pointer (some ⟨w.heap.size, 0, none⟩)), (4, .int .i64 (plainErr o.vk o.vn o.vt : Int))] w_32 [] (by kernel_rfl) trivial ?_
              refine XL_nil ?_
              refine X_seq ?_
              refine X_region ?_
              refine XL_run 1 [] [(1, .pointer (some ⟨w.heap.size, 0, none⟩)), (4, .int .i64 (plainErr o.vk o.vn o.vt : Int)), (59, .int .i64 (plainErr o.vk o.vn o.vt : Int))] w_32 [] (by kernel_rfl) trivial ?_
              by_cases c_34 : (plainErr o.vk o.vn o.vt : Int) = 0
              · refine XL_run 1 [(60, .eq (.bool false))] [(1, .pointer (some ⟨w.heap.size, 0, none⟩)), (4, .int .i64 (plainErr o.vk o.vn o.vt : Int)), (60, .bool false)] w_32 [Value.bool ((plainErr o.vk o.vn o.vt : Int) != 0) = Value.bool false] (by kernel_rfl) ⟨congrArg Value.bool (bneF (c_34)), trivial⟩ ?_
                refine XL_nil ?_
                refine X_cond false rfl ?_
                refine X_skip ?_
                refine X_seq ?_
                refine X_region ?_
                refine XL_run 2 [(63, .load (.slice A o.attrs.length c))] [(63, .slice A o.attrs.length c)] w_32 [LoadsAs Tryd.prog 31 (⟨w.heap.size, 6, none⟩) (.slice A o.attrs.length c) w_32] (by kernel_rfl) ⟨loads1 rfl (Blk.cell (Blk.below hk_3 (bt hb_30 hb_33)) 6 _ rfl), trivial⟩ ?_
                refine XL_call 30 rfl rfl rfl ent30 [.slice A o.attrs.length c, .bool false] (by kernel_rfl) (r3check_any _ _ o.attrs false _ (Kd.C_below hA (bt (bt hb_2 hb_30) hb_33)) hz.2.2.2 (hT.below (bt (bt hb_2 hb_30) hb_33))) ?_
                rintro e w_35 ⟨rfl, hb_36⟩; refine ⟨_, rfl, ?_⟩
                refine XL_run 1 [] [(2, .int .i64 (chkA false o.attrs : Int))] w_35 [] (by kernel_rfl) trivial ?_
                refine XL_nil ?_
                refine X_ret ?_
                refine RX.ret_ok (P := Tryd.prog) (fn := Tryd.f46) (N := 65) (R := R_) [.int .i64 (chkA false o.attrs : Int)] (by kernel_rfl) (hR_ _ _ ?_)
                rw [show refuseP o = chkA false o.attrs from by unfold refuseP; simp_all <;> omega]
                exact ⟨rfl, (bt (bt (bt hb_2 hb_30) hb_33) hb_36)⟩
              · refine XL_run 1 [(60, .eq (.bool true))] [(1, .pointer (some ⟨w.heap.size, 0, none⟩)), (4, .int .i64 (plainErr o.vk o.vn o.vt : Int)), (60, .bool true)] w_32 [Value.bool ((plainErr o.vk o.vn o.vt : Int) != 0) = Value.bool true] (by kernel_rfl) ⟨congrArg Value.bool (bneT (c_34)), trivial⟩ ?_
                refine XL_nil ?_
                refine X_cond true rfl ?_
                refine X_seq ?_
                refine X_region ?_
                refine XL_run 2 [] [(2, .int .i64 (plainErr o.vk o.vn o.vt : Int))] w_32 [] (by kernel_rfl) trivial ?_
                refine XL_nil ?_
                refine X_ret ?_
                refine RX.ret_ok (P := Tryd.prog) (fn := Tryd.f46) (N := 65) (R := R_) [.int .i64 (plainErr o.vk o.vn o.vt : Int)] (by kernel_rfl) (hR_ _ _ ?_)
                rw [show refuseP o = plainErr o.vk o.vn o.vt from by unfold refuseP; simp_all <;> omega]
                exact ⟨rfl, (bt (bt hb_2 hb_30) hb_33)⟩
            · rw [show ((uchk o.text).2 : Bool) = false from by simpa using c_31]
              refine XL_run 1 [] [(1, .pointer (some ⟨w.heap.size, 0, none⟩)), (52, .bool true)] w_29 [] (by kernel_rfl) trivial ?_
              refine XL_nil ?_
              refine X_cond true rfl ?_
              refine X_seq ?_
              refine X_region ?_
              refine XL_run 1 [] [(2, .int .i64 1)] w_29 [] (by kernel_rfl) trivial ?_
              refine XL_nil ?_
              refine X_ret ?_
              refine RX.ret_ok (P := Tryd.prog) (fn := Tryd.f46) (N := 65) (R := R_) [.int .i64 1] (by kernel_rfl) (hR_ _ _ ?_)
              rw [show refuseP o = 1 from by unfold refuseP; simp_all <;> omega]
              exact ⟨rfl, (bt hb_2 hb_30)⟩
      · refine XL_run 2 [(17, .eq (.bool true))] [(1, .pointer (some ⟨w.heap.size, 0, none⟩)), (14, .bool true)] w_1 [Value.bool (o.count != 0) = Value.bool true] (by kernel_rfl) ⟨congrArg Value.bool (bneT (c_26)), trivial⟩ ?_
        refine XL_nil ?_
        refine X_cond true rfl ?_
        refine X_seq ?_
        refine X_region ?_
        refine XL_run 1 [] [(2, .int .i64 9)] w_1 [] (by kernel_rfl) trivial ?_
        refine XL_nil ?_
        refine X_ret ?_
        refine RX.ret_ok (P := Tryd.prog) (fn := Tryd.f46) (N := 65) (R := R_) [.int .i64 9] (by kernel_rfl) (hR_ _ _ ?_)
        rw [show refuseP o = 9 from by unfold refuseP; simp_all <;> omega]
        exact ⟨rfl, hb_2⟩
    · refine XL_run 3 [(12, .eq (.bool true))] [(1, .pointer (some ⟨w.heap.size, 0, none⟩)), (5, .bool true)] w_1 [Value.bool (o.kind != 2) = Value.bool true] (by kernel_rfl) ⟨congrArg Value.bool (bneT (c_25)), trivial⟩ ?_
      refine XL_nil ?_
      refine X_cond true rfl ?_
      refine X_seq ?_
      refine X_region ?_
      refine XL_run 1 [] [(2, .int .i64 5)] w_1 [] (by kernel_rfl) trivial ?_
      refine XL_nil ?_
      refine X_ret ?_
      refine RX.ret_ok (P := Tryd.prog) (fn := Tryd.f46) (N := 65) (R := R_) [.int .i64 5] (by kernel_rfl) (hR_ _ _ ?_)
      rw [show refuseP o = 5 from by unfold refuseP; simp_all <;> omega]
      exact ⟨rfl, hb_2⟩
noncomputable def len4 (o : OpA) : Int := if o.kind = 2 then 1 else ((U.sc o.text).length : Int)
theorem len4_op {o : OpA} (h : o.kind = 1 ∨ o.kind = 2) : len4 o = opLen o := by
  unfold len4 opLen
  by_cases h2 : o.kind = 2
  · rw [if_pos h2, if_neg (by omega), if_pos h2]
  · rw [if_neg h2, if_pos (by omega)]
theorem r4len_any (o : OpA) (A : Option Addr) (c : Nat) (w : World) (hA : kAttr.C w A o.attrs.length o.attrs) (hz : opSz o) : Calls Tryd.prog 54 #[.agg #[.int .i64 o.kind, .string o.text, .int .i64 o.vk, .int .i64 o.vn, .string o.vt, .int .i64 o.count, .slice A o.attrs.length c]] w fun e w' => e = .returned (.int .i64 (len4 o)) ∧ Below w.heap.size w w' := by
  have hz1 := hz.b.1
  refine RX.enter Tryd.func54 rfl 10 rfl [(0, .agg #[.int .i64 o.kind, .string o.text, .int .i64 o.vk, .int .i64 o.vn, .string o.vt, .int .i64 o.count, .slice A o.attrs.length c])] rfl (by kernel_rfl) (fun R_ hR_ => ?_)
  refine X_seq ?_
  refine X_region ?_
  refine XL_run 1 [] [(1, .pointer (some ⟨w.heap.size, 0, none⟩))] (w.alloc (.cells #[.int .i64 o.kind, .string o.text, .int .i64 o.vk, .int .i64 o.vn, .string o.vt, .int .i64 o.count, .slice A o.attrs.length c] 33)) [] (by kernel_rfl) trivial ?_
  obtain ⟨w_1, hw_5, hb_2, hk_3, hz_4⟩ := new_world w #[.int .i64 o.kind, .string o.text, .int .i64 o.vk, .int .i64 o.vn, .string o.vt, .int .i64 o.count, .slice A o.attrs.length c] 33
  rw [hw_5]
  refine XL_run 1 [] [(1, .pointer (some ⟨w.heap.size, 0, none⟩))] w_1 [] (by kernel_rfl) trivial ?_
  refine XL_nil ?_
  refine X_seq ?_
  refine X_seq ?_
  refine X_region ?_
  refine XL_run 2 [(4, .load (.int .i64 o.kind))] [(1, .pointer (some ⟨w.heap.size, 0, none⟩)), (4, .int .i64 o.kind)] w_1 [LoadsAs Tryd.prog 3 (⟨w.heap.size, 0, none⟩) (.int .i64 o.kind) w_1] (by kernel_rfl) ⟨loads1 rfl (Blk.cell hk_3 0 _ rfl), trivial⟩ ?_
  by_cases c_6 : o.kind = 2
  · refine XL_run 1 [(5, .eq (.bool true))] [(1, .pointer (some ⟨w.heap.size, 0, none⟩)), (5, .bool true)] w_1 [Value.bool (o.kind == 2) = Value.bool true] (by kernel_rfl) ⟨congrArg Value.bool (beq_iff_eq.2 (c_6)), trivial⟩ ?_
    refine XL_nil ?_
    refine X_cond true rfl ?_
    refine X_seq ?_
    refine X_region ?_
    refine XL_run 1 [] [(2, .int .i64 1)] w_1 [] (by kernel_rfl) trivial ?_
    refine XL_nil ?_
    refine X_ret ?_
    refine RX.ret_ok (P := Tryd.prog) (fn := Tryd.f54) (N := 10) (R := R_) [.int .i64 1] (by kernel_rfl) (hR_ _ _ ?_)
    rw [show len4 o = 1 from by unfold len4; simp_all]
    exact ⟨rfl, hb_2⟩
  · refine XL_run 1 [(5, .eq (.bool false))] [(1, .pointer (some ⟨w.heap.size, 0, none⟩)), (5, .bool false)] w_1 [Value.bool (o.kind == 2) = Value.bool false] (by kernel_rfl) ⟨congrArg Value.bool (beq_eq_false_iff_ne.2 (c_6)), trivial⟩ ?_
    refine XL_nil ?_
    refine X_cond false rfl ?_
    refine X_skip ?_
    refine X_seq ?_
    refine X_region ?_
    refine XL_run 2 [(7, .load (.string o.text))] [(7, .string o.text)] w_1 [LoadsAs Tryd.prog 9 (⟨w.heap.size, 1, none⟩) (.string o.text) w_1] (by kernel_rfl) ⟨loads1 rfl (Blk.cell hk_3 1 _ rfl), trivial⟩ ?_
    refine XL_call 104 rfl rfl rfl ent104 [.string o.text] (by kernel_rfl) (rlist_any o.text _ (by omega)) ?_
    rintro e w_11 ⟨A_7, c_8, rfl, hl_9, hr_10, hb_12⟩; refine ⟨_, rfl, ?_⟩
    refine XL_run 2 [] [(2, .int .i64 ((U.scz o.text).length : Int))] w_11 [] (by kernel_rfl) trivial ?_
    refine XL_nil ?_
    refine X_ret ?_
    refine RX.ret_ok (P := Tryd.prog) (fn := Tryd.f54) (N := 10) (R := R_) [.int .i64 ((U.scz o.text).length : Int)] (by kernel_rfl) (hR_ _ _ ?_)
    rw [show len4 o = ((U.scz o.text).length : Int) from by unfold len4; rw [if_neg c_6, show U.scz o.text = (U.sc o.text).map (fun (r_ : Nat) => (r_ : Int)) from rfl, List.length_map]]
    exact ⟨rfl, (bt hb_2 hb_12)⟩
theorem sattrs_any (A A' : Option Addr) (c c' : Nat) (xs ys : List At) (w : World) (hx : kAttr.C w A xs.length xs) (hy : kAttr.C w A' ys.length ys) :
    Calls Tryd.prog 65 #[.slice A xs.length c, .slice A' ys.length c'] w fun e w' => e = .returned (.bool (decide (xs = ys))) ∧ Below w.heap.size w w' := by
  have hpl : xs.length ≤ 9223372036854775807 := hx.2.1
  refine RX.enter Tryd.func65 rfl 26 rfl [(0, .slice A xs.length c), (1, .slice A' ys.length c')] rfl (by kernel_rfl) (fun R_ hR_ => ?_)
  refine X_seq ?_
  refine X_region ?_
  refine XL_run 1 [] [(0, .slice A xs.length c), (1, .slice A' ys.length c')] w [] (by kernel_rfl) trivial ?_
  refine XL_nil ?_
  refine X_seq ?_
  refine X_seq ?_
  refine X_region ?_
  refine XL_run 4 [] [(0, .slice A xs.length c), (1, .slice A' ys.length c'), (7, .int .i64 (xs.length : Int)), (9, .int .i64 (ys.length : Int))] w [] (by kernel_rfl) trivial ?_
  by_cases c_1 : (xs.length : Int) = (ys.length : Int)
  · refine XL_run 1 [(10, .eq (.bool false))] [(0, .slice A xs.length c), (1, .slice A' ys.length c'), (10, .bool false)] w [Value.bool ((xs.length : Int) != (ys.length : Int)) = Value.bool false] (by kernel_rfl) ⟨congrArg Value.bool (bneF (c_1)), trivial⟩ ?_
    refine XL_nil ?_
    refine X_cond false rfl ?_
    refine X_skip ?_
    refine X_seq ?_
    refine X_seq ?_
    refine X_region ?_
    refine XL_run 3 [] [(0, .slice A xs.length c), (1, .slice A' ys.length c'), (12, .int .i64 (xs.length : Int)), (13, .int .i64 0)] w [] (by kernel_rfl) trivial ?_
    refine XL_nil ?_
    refine X_block ?_
    refine X_loop (ι := Nat) (fun i => [(0, .slice A xs.length c), (1, .slice A' ys.length c'), (12, .int .i64 (xs.length : Int)), (13, .int .i64 (i : Int))]) (fun i wl => i ≤ xs.length ∧ xs.length = ys.length ∧ (∀ q, q < i → xs.getD q at0 = ys.getD q at0) ∧ Below w.heap.size w wl) (fun i => xs.length - i) 0 ⟨by omega, by omega, fun q hq => by omega, (Below.refl _ _)⟩ (by kernel_rfl) ?_
    rintro i wl ⟨hi, hlen, hq0, HB⟩
    refine X_seq ?_
    refine X_region ?_
    by_cases c_2 : (i : Int) < (xs.length : Int)
    · refine XL_run 1 [(14, .eq (.bool true))] [(0, .slice A xs.length c), (1, .slice A' ys.length c'), (12, .int .i64 (xs.length : Int)), (13, .int .i64 (i : Int)), (14, .bool true)] wl [Value.bool (decide ((i : Int) < (xs.length : Int))) = Value.bool true] (by kernel_rfl) ⟨congrArg Value.bool (decide_eq_true (c_2)), trivial⟩ ?_
      refine XL_nil ?_
      refine X_seq ?_
      refine X_cond true rfl ?_
      refine X_skip ?_
      refine X_seq ?_
      refine X_block ?_
      refine X_seq ?_
      refine X_region ?_
      refine XL_run 2 [] [(0, .slice A xs.length c), (1, .slice A' ys.length c'), (5, .int .i64 (i : Int)), (12, .int .i64 (xs.length : Int)), (13, .int .i64 (i : Int))] wl [] (by kernel_rfl) trivial ?_
      refine XL_nil ?_
      refine X_seq ?_
      refine X_still (by kernel_rfl) (by kernel_rfl) (fun wd_3 hb_4 hh_5 => ?_)
      refine XS_run 2 [] [.slice A xs.length c, .int .i64 (i : Int)] [(0, .slice A xs.length c), (1, .slice A' ys.length c'), (5, .int .i64 (i : Int)), (12, .int .i64 (xs.length : Int)), (13, .int .i64 (i : Int)), (16, .slice A xs.length c), (17, .int .i64 (i : Int))] [] (by kernel_rfl) (by kernel_rfl) trivial ?_
      obtain ⟨ad_6, ha_7, hc_8⟩ := Kd.atAttr (Kd.C_below hx (bt HB hb_4)) (i := (i : Int)) (by omega) (by omega)
      replace hc_8 : CellsAt wd_3 (ad_6.add ((i : Int).toNat * 4)) [.string ((xs.getD i at0).1), .int .i64 ((xs.getD i at0).2.1), .int .i64 ((xs.getD i at0).2.2.1), .string ((xs.getD i at0).2.2.2)] := hc_8
      refine XS_run 4 [(18, .idx ad_6), (19, .load (.agg #[.string ((xs.getD i at0).1), .int .i64 ((xs.getD i at0).2.1), .int .i64 ((xs.getD i at0).2.2.1), .string ((xs.getD i at0).2.2.2)]))] [.pointer (some (ad_6.add ((i : Int).toNat * 4))), .agg #[.string ((xs.getD i at0).1), .int .i64 ((xs.getD i at0).2.1), .int .i64 ((xs.getD i at0).2.2.1), .string ((xs.getD i at0).2.2.2)], .slice A' ys.length c', .int .i64 (i : Int)] [(0, .slice A xs.length c), (1, .slice A' ys.length c'), (12, .int .i64 (xs.length : Int)), (13, .int .i64 (i : Int)), (19, .agg #[.string ((xs.getD i at0).1), .int .i64 ((xs.getD i at0).2.1), .int .i64 ((xs.getD i at0).2.2.1), .string ((xs.getD i at0).2.2.2)]), (20, .slice A' ys.length c'), (21, .int .i64 (i : Int))] [A = some ad_6, (0 : Int) ≤ (i : Int), (i : Int) < (xs.length : Int), LoadsAs Tryd.prog 79 (ad_6.add ((i : Int).toNat * 4)) (.agg #[.string ((xs.getD i at0).1), .int .i64 ((xs.getD i at0).2.1), .int .i64 ((xs.getD i at0).2.2.1), .string ((xs.getD i at0).2.2.2)]) wd_3] (by kernel_rfl) (by kernel_rfl) ⟨ha_7, (by omega), (by omega), loadsE rfl rfl hc_8 0 ⟨by kernel_rfl, by kernel_rfl⟩, trivial⟩ ?_
      obtain ⟨ad_9, ha_10, hc_11⟩ := Kd.atAttr (Kd.C_below hy (bt HB hb_4)) (i := (i : Int)) (by omega) (by omega)
      replace hc_11 : CellsAt wd_3 (ad_9.add ((i : Int).toNat * 4)) [.string ((ys.getD i at0).1), .int .i64 ((ys.getD i at0).2.1), .int .i64 ((ys.getD i at0).2.2.1), .string ((ys.getD i at0).2.2.2)] := hc_11
      refine XS_run 2 [(22, .idx ad_9), (23, .load (.agg #[.string ((ys.getD i at0).1), .int .i64 ((ys.getD i at0).2.1), .int .i64 ((ys.getD i at0).2.2.1), .string ((ys.getD i at0).2.2.2)]))] [.pointer (some (ad_9.add ((i : Int).toNat * 4))), .agg #[.string ((ys.getD i at0).1), .int .i64 ((ys.getD i at0).2.1), .int .i64 ((ys.getD i at0).2.2.1), .string ((ys.getD i at0).2.2.2)]] [(0, .slice A xs.length c), (1, .slice A' ys.length c'), (12, .int .i64 (xs.length : Int)), (13, .int .i64 (i : Int)), (19, .agg #[.string ((xs.getD i at0).1), .int .i64 ((xs.getD i at0).2.1), .int .i64 ((xs.getD i at0).2.2.1), .string ((xs.getD i at0).2.2.2)]), (23, .agg #[.string ((ys.getD i at0).1), .int .i64 ((ys.getD i at0).2.1), .int .i64 ((ys.getD i at0).2.2.1), .string ((ys.getD i at0).2.2.2)])] [A' = some ad_9, (0 : Int) ≤ (i : Int), (i : Int) < (ys.length : Int), LoadsAs Tryd.prog 79 (ad_9.add ((i : Int).toNat * 4)) (.agg #[.string ((ys.getD i at0).1), .int .i64 ((ys.getD i at0).2.1), .int .i64 ((ys.getD i at0).2.2.1), .string ((ys.getD i at0).2.2.2)]) wd_3] (by kernel_rfl) (by kernel_rfl) ⟨ha_10, (by omega), (by omega), loadsE rfl rfl hc_11 0 ⟨by kernel_rfl, by kernel_rfl⟩, trivial⟩ ?_
      by_cases c_12 : (xs.getD i at0) = (ys.getD i at0)
      · refine XS_run 1 [(24, .as (.bool false))] [.bool false] [(0, .slice A xs.length c), (1, .slice A' ys.length c'), (12, .int .i64 (xs.length : Int)), (13, .int .i64 (i : Int)), (24, .bool false)] [RunsAs Tryd.prog [(19, .agg #[.string ((xs.getD i at0).1), .int .i64 ((xs.getD i at0).2.1), .int .i64 ((xs.getD i at0).2.2.1), .string ((xs.getD i at0).2.2.2)]), (23, .agg #[.string ((ys.getD i at0).1), .int .i64 ((ys.getD i at0).2.1), .int .i64 ((ys.getD i at0).2.2.1), .string ((ys.getD i at0).2.2.2)])] (Go.Op.binOp Go.BinOp.neq 79 (Go.Operand.tmp 19) (Go.Operand.tmp 23) 79) 4 (.bool false) wd_3] (by kernel_rfl) (by kernel_rfl) ⟨runs_bin rfl rfl (run_eqGuard_agg _ _ _ _ _ _ _ (by kernel_rfl)) (by have h := attr_neq (xs.getD i at0) (ys.getD i at0) wd_3; rw [show atEq (xs.getD i at0) (ys.getD i at0) = true from (atEq_iff _ _).2 c_12] at h; exact h), trivial⟩ ?_
        refine XS_nil ?_
        refine X_cond false rfl ?_
        refine X_skip ?_
        refine X_region ?_
        refine XL_run 2 [(25, .eq (.int .i64 ((i : Int) + 1)))] [(0, .slice A xs.length c), (1, .slice A' ys.length c'), (12, .int .i64 (xs.length : Int)), (13, .int .i64 ((i : Int) + 1))] wd_3 [Value.int .i64 (IntKind.i64.wrap ((i : Int) + 1)) = Value.int .i64 ((i : Int) + 1)] (by kernel_rfl) ⟨wr_i64 (by omega) (by omega), trivial⟩ ?_
        refine XL_nil ?_
        refine ⟨(i + 1), by kernel_rfl, ?_, ?_⟩
        · exact ⟨by omega, by omega, fun q hq => by by_cases e : q = i; (· subst e; exact c_12); (· exact hq0 q (by omega)), (bt HB hb_4)⟩
        · (try dsimp only); omega
      · refine XS_run 1 [(24, .as (.bool true))] [.bool true] [(0, .slice A xs.length c), (1, .slice A' ys.length c'), (12, .int .i64 (xs.length : Int)), (13, .int .i64 (i : Int)), (24, .bool true)] [RunsAs Tryd.prog [(19, .agg #[.string ((xs.getD i at0).1), .int .i64 ((xs.getD i at0).2.1), .int .i64 ((xs.getD i at0).2.2.1), .string ((xs.getD i at0).2.2.2)]), (23, .agg #[.string ((ys.getD i at0).1), .int .i64 ((ys.getD i at0).2.1), .int .i64 ((ys.getD i at0).2.2.1), .string ((ys.getD i at0).2.2.2)])] (Go.Op.binOp Go.BinOp.neq 79 (Go.Operand.tmp 19) (Go.Operand.tmp 23) 79) 4 (.bool true) wd_3] (by kernel_rfl) (by kernel_rfl) ⟨runs_bin rfl rfl (run_eqGuard_agg _ _ _ _ _ _ _ (by kernel_rfl)) (by have h := attr_neq (xs.getD i at0) (ys.getD i at0) wd_3; rw [show atEq (xs.getD i at0) (ys.getD i at0) = false from Bool.eq_false_iff.2 (fun k => c_12 ((atEq_iff _ _).1 k))] at h; exact h), trivial⟩ ?_
        refine XS_nil ?_
        refine X_cond true rfl ?_
        refine X_seq ?_
        refine X_region ?_
        refine XL_run 1 [] [(4, .bool false)] wd_3 [] (by kernel_rfl) trivial ?_
        refine XL_nil ?_
        refine X_ret ?_
        refine RX.ret_ok (P := Tryd.prog) (fn := Tryd.f65) (N := 26) (R := R_) [.bool false] (by kernel_rfl) (hR_ _ _ ?_)
        rw [decide_eq_false (fun e => c_12 (by rw [e]))]
        exact ⟨rfl, (bt HB hb_4)⟩
    · refine XL_run 1 [(14, .eq (.bool false))] [(0, .slice A xs.length c), (1, .slice A' ys.length c'), (12, .int .i64 (xs.length : Int)), (13, .int .i64 (i : Int)), (14, .bool false)] wl [Value.bool (decide ((i : Int) < (xs.length : Int))) = Value.bool false] (by kernel_rfl) ⟨congrArg Value.bool (decide_eq_false (c_2)), trivial⟩ ?_
      refine XL_nil ?_
      refine X_seq ?_
      refine X_cond false rfl ?_
      refine X_exit ?_
      refine X_seq ?_
      refine X_region ?_
      refine XL_run 1 [] [(4, .bool true)] wl [] (by kernel_rfl) trivial ?_
      refine XL_nil ?_
      refine X_ret ?_
      refine RX.ret_ok (P := Tryd.prog) (fn := Tryd.f65) (N := 26) (R := R_) [.bool true] (by kernel_rfl) (hR_ _ _ ?_)
      rw [decide_eq_true (show xs = ys from List.ext_getElem hlen fun q h1 h2 => by have := hq0 q (by omega); simpa [List.getD_eq_getElem?_getD, List.getElem?_eq_getElem h1, List.getElem?_eq_getElem h2] using this)]
      exact ⟨rfl, HB⟩
  · refine XL_run 1 [(10, .eq (.bool true))] [(0, .slice A xs.length c), (1, .slice A' ys.length c'), (10, .bool true)] w [Value.bool ((xs.length : Int) != (ys.length : Int)) = Value.bool true] (by kernel_rfl) ⟨congrArg Value.bool (bneT (c_1)), trivial⟩ ?_
    refine XL_nil ?_
    refine X_cond true rfl ?_
    refine X_seq ?_
    refine X_region ?_
    refine XL_run 1 [] [(4, .bool false)] w [] (by kernel_rfl) trivial ?_
    refine XL_nil ?_
    refine X_ret ?_
    refine RX.ret_ok (P := Tryd.prog) (fn := Tryd.f65) (N := 26) (R := R_) [.bool false] (by kernel_rfl) (hR_ _ _ ?_)
    rw [decide_eq_false (show ¬ xs = ys from fun e => by subst e; omega)]
    exact ⟨rfl, (Below.refl _ _)⟩
set_option maxHeartbeats 2000000 in
theorem r5empty_any (o : OpA) (A : Option Addr) (c : Nat) (w : World) (hA : kAttr.C w A o.attrs.length o.attrs) (hz : opSz o) : Calls Tryd.prog 68 #[.agg #[.int .i64 o.kind, .string o.text, .int .i64 o.vk, .int .i64 o.vn, .string o.vt, .int .i64 o.count, .slice A o.attrs.length c]] w fun e w' => e = .returned (.bool (hasP o)) ∧ Below w.heap.size w w' := by
  refine RX.enter Tryd.func68 rfl 49 rfl [(0, .agg #[.int .i64 o.kind, .string o.text, .int .i64 o.vk, .int .i64 o.vn, .string o.vt, .int .i64 o.count, .slice A o.attrs.length c])] rfl (by kernel_rfl) (fun R_ hR_ => ?_)
  refine X_seq ?_
  refine X_region ?_
  refine XL_run 1 [] [(1, .pointer (some ⟨w.heap.size, 0, none⟩))] (w.alloc (.cells #[.int .i64 o.kind, .string o.text, .int .i64 o.vk, .int .i64 o.vn, .string o.vt, .int .i64 o.count, .slice A o.attrs.length c] 33)) [] (by kernel_rfl) trivial ?_
  obtain ⟨w_1, hw_5, hb_2, hk_3, hz_4⟩ := new_world w #[.int .i64 o.kind, .string o.text, .int .i64 o.vk, .int .i64 o.vn, .string o.vt, .int .i64 o.count, .slice A o.attrs.length c] 33
  rw [hw_5]
  refine XL_run 1 [] [(1, .pointer (some ⟨w.heap.size, 0, none⟩))] w_1 [] (by kernel_rfl) trivial ?_
  refine XL_nil ?_
  refine X_seq ?_
  refine X_seq ?_
  refine X_region ?_
  refine XL_run 2 [(4, .load (.int .i64 o.kind))] [(1, .pointer (some ⟨w.heap.size, 0, none⟩)), (4, .int .i64 o.kind)] w_1 [LoadsAs Tryd.prog 3 (⟨w.heap.size, 0, none⟩) (.int .i64 o.kind) w_1] (by kernel_rfl) ⟨loads1 rfl (Blk.cell hk_3 0 _ rfl), trivial⟩ ?_
  refine XL_nil ?_
  refine X_block ?_
  refine X_seq ?_
  refine X_region ?_
  by_cases c_6 : o.kind = 1
  · refine XL_run 2 [(6, .eq (.bool true))] [(1, .pointer (some ⟨w.heap.size, 0, none⟩)), (4, .int .i64 o.kind), (5, .bool true)] w_1 [Value.bool (o.kind == 1) = Value.bool true] (by kernel_rfl) ⟨congrArg Value.bool (beq_iff_eq.2 (c_6)), trivial⟩ ?_
    refine XL_nil ?_
    refine X_cond true rfl ?_
    refine X_seq ?_
    refine X_region ?_
    refine XL_run 2 [(8, .load (.int .i64 o.count))] [(1, .pointer (some ⟨w.heap.size, 0, none⟩)), (8, .int .i64 o.count)] w_1 [LoadsAs Tryd.prog 3 (⟨w.heap.size, 5, none⟩) (.int .i64 o.count) w_1] (by kernel_rfl) ⟨loads1 rfl (Blk.cell hk_3 5 _ rfl), trivial⟩ ?_
    by_cases c_7 : o.count = 0
    · refine XL_run 5 [(9, .eq (.bool true)), (12, .load (.agg #[.int .i64 o.vk, .int .i64 o.vn, .string o.vt]))] [(10, .bool true), (12, .agg #[.int .i64 o.vk, .int .i64 o.vn, .string o.vt]), (13, .agg #[.int .i64 0, .int .i64 0, .string ByteArray.empty])] w_1 [Value.bool (o.count == 0) = Value.bool true, LoadsAs Tryd.prog 30 (⟨w.heap.size, 2, none⟩) (.agg #[.int .i64 o.vk, .int .i64 o.vn, .string o.vt]) w_1] (by kernel_rfl) ⟨congrArg Value.bool (beq_iff_eq.2 (c_7)), loadsB rfl rfl hk_3 2 ⟨by kernel_rfl, by kernel_rfl⟩, trivial⟩ ?_
      by_cases c_8 : (o.vk, o.vn, o.vt) = pl0
      · refine XL_run 3 [(14, .as (.bool true))] [(2, .bool true)] w_1 [RunsAs Tryd.prog [(12, .agg #[.int .i64 o.vk, .int .i64 o.vn, .string o.vt]), (13, .agg #[.int .i64 0, .int .i64 0, .string ByteArray.empty])] (Go.Op.binOp Go.BinOp.eql 30 (Go.Operand.tmp 12) (Go.Operand.tmp 13) 30) 4 (.bool true) w_1] (by kernel_rfl) ⟨runs_bin rfl rfl (run_eqGuard_agg _ _ _ _ _ _ _ (by kernel_rfl)) (by have h := plain_eqb (o.vk, o.vn, o.vt) pl0 w_1; rw [show ple (o.vk, o.vn, o.vt) pl0 = true from (ple_iff _ _).2 c_8] at h; exact h), trivial⟩ ?_
        refine XL_nil ?_
        refine X_ret ?_
        refine RX.ret_ok (P := Tryd.prog) (fn := Tryd.f68) (N := 49) (R := R_) [.bool true] (by kernel_rfl) (hR_ _ _ ?_)
        rw [show hasP o = true from by unfold hasP; simp_all]
        exact ⟨rfl, hb_2⟩
      · refine XL_run 3 [(14, .as (.bool false))] [(2, .bool false)] w_1 [RunsAs Tryd.prog [(12, .agg #[.int .i64 o.vk, .int .i64 o.vn, .string o.vt]), (13, .agg #[.int .i64 0, .int .i64 0, .string ByteArray.empty])] (Go.Op.binOp Go.BinOp.eql 30 (Go.Operand.tmp 12) (Go.Operand.tmp 13) 30) 4 (.bool false) w_1] (by kernel_rfl) ⟨runs_bin rfl rfl (run_eqGuard_agg _ _ _ _ _ _ _ (by kernel_rfl)) (by have h := plain_eqb (o.vk, o.vn, o.vt) pl0 w_1; rw [show ple (o.vk, o.vn, o.vt) pl0 = false from Bool.eq_false_iff.2 (fun k => c_8 ((ple_iff _ _).1 k))] at h; exact h), trivial⟩ ?_
        refine XL_nil ?_
        refine X_ret ?_
        refine RX.ret_ok (P := Tryd.prog) (fn := Tryd.f68) (N := 49) (R := R_) [.bool false] (by kernel_rfl) (hR_ _ _ ?_)
        rw [show hasP o = false from by unfold hasP; simp_all]
        exact ⟨rfl, hb_2⟩
    · refine XL_run 8 [(9, .eq (.bool false))] [(2, .bool false)] w_1 [Value.bool (o.count == 0) = Value.bool false] (by kernel_rfl) ⟨congrArg Value.bool (beq_eq_false_iff_ne.2 (c_7)), trivial⟩ ?_
      refine XL_nil ?_
      refine X_ret ?_
      refine RX.ret_ok (P := Tryd.prog) (fn := Tryd.f68) (N := 49) (R := R_) [.bool false] (by kernel_rfl) (hR_ _ _ ?_)
      rw [show hasP o = false from by unfold hasP; simp_all]
      exact ⟨rfl, hb_2⟩
  · refine XL_run 2 [(6, .eq (.bool false))] [(1, .pointer (some ⟨w.heap.size, 0, none⟩)), (4, .int .i64 o.kind), (5, .bool false)] w_1 [Value.bool (o.kind == 1) = Value.bool false] (by kernel_rfl) ⟨congrArg Value.bool (beq_eq_false_iff_ne.2 (c_6)), trivial⟩ ?_
    refine XL_nil ?_
    refine X_cond false rfl ?_
    refine X_seq ?_
    refine X_region ?_
    by_cases c_9 : o.kind = 2
    · refine XL_run 2 [(17, .eq (.bool true))] [(1, .pointer (some ⟨w.heap.size, 0, none⟩)), (4, .int .i64 o.kind), (16, .bool true)] w_1 [Value.bool (o.kind == 2) = Value.bool true] (by kernel_rfl) ⟨congrArg Value.bool (beq_iff_eq.2 (c_9)), trivial⟩ ?_
      refine XL_nil ?_
      refine X_cond true rfl ?_
      refine X_seq ?_
      refine X_region ?_
      refine XL_run 2 [(19, .load (.int .i64 o.count))] [(19, .int .i64 o.count)] w_1 [LoadsAs Tryd.prog 3 (⟨w.heap.size, 5, none⟩) (.int .i64 o.count) w_1] (by kernel_rfl) ⟨loads1 rfl (Blk.cell hk_3 5 _ rfl), trivial⟩ ?_
      by_cases c_10 : o.count = 0
      · refine XL_run 2 [(20, .eq (.bool true))] [(2, .bool true)] w_1 [Value.bool (o.count == 0) = Value.bool true] (by kernel_rfl) ⟨congrArg Value.bool (beq_iff_eq.2 (c_10)), trivial⟩ ?_
        refine XL_nil ?_
        refine X_ret ?_
        refine RX.ret_ok (P := Tryd.prog) (fn := Tryd.f68) (N := 49) (R := R_) [.bool true] (by kernel_rfl) (hR_ _ _ ?_)
        rw [show hasP o = true from by unfold hasP; simp_all]
        exact ⟨rfl, hb_2⟩
      · refine XL_run 2 [(20, .eq (.bool false))] [(2, .bool false)] w_1 [Value.bool (o.count == 0) = Value.bool false] (by kernel_rfl) ⟨congrArg Value.bool (beq_eq_false_iff_ne.2 (c_10)), trivial⟩ ?_
        refine XL_nil ?_
        refine X_ret ?_
        refine RX.ret_ok (P := Tryd.prog) (fn := Tryd.f68) (N := 49) (R := R_) [.bool false] (by kernel_rfl) (hR_ _ _ ?_)
        rw [show hasP o = false from by unfold hasP; simp_all]
        exact ⟨rfl, hb_2⟩
    · refine XL_run 2 [(17, .eq (.bool false))] [(1, .pointer (some ⟨w.heap.size, 0, none⟩)), (4, .int .i64 o.kind), (16, .bool false)] w_1 [Value.bool (o.kind == 2) = Value.bool false] (by kernel_rfl) ⟨congrArg Value.bool (beq_eq_false_iff_ne.2 (c_9)), trivial⟩ ?_
      refine XL_nil ?_
      refine X_cond false rfl ?_
      refine X_seq ?_
      refine X_region ?_
      by_cases c_11 : o.kind = 3
      · refine XL_run 2 [(22, .eq (.bool true))] [(1, .pointer (some ⟨w.heap.size, 0, none⟩)), (4, .int .i64 o.kind), (21, .bool true)] w_1 [Value.bool (o.kind == 3) = Value.bool true] (by kernel_rfl) ⟨congrArg Value.bool (beq_iff_eq.2 (c_11)), trivial⟩ ?_
        refine XL_nil ?_
        refine X_cond true rfl ?_
        refine X_seq ?_
        refine X_region ?_
        refine XL_run 2 [(24, .load (.string o.text))] [(1, .pointer (some ⟨w.heap.size, 0, none⟩)), (24, .string o.text)] w_1 [LoadsAs Tryd.prog 9 (⟨w.heap.size, 1, none⟩) (.string o.text) w_1] (by kernel_rfl) ⟨loads1 rfl (Blk.cell hk_3 1 _ rfl), trivial⟩ ?_
        by_cases c_12 : o.text = (⟨#[]⟩ : ByteArray)
        · refine XL_run 5 [(25, .eq (.bool true)), (28, .load (.agg #[.int .i64 o.vk, .int .i64 o.vn, .string o.vt]))] [(26, .bool true), (28, .agg #[.int .i64 o.vk, .int .i64 o.vn, .string o.vt]), (29, .agg #[.int .i64 0, .int .i64 0, .string ByteArray.empty])] w_1 [Value.bool (o.text.toList == (⟨#[]⟩ : ByteArray).toList) = Value.bool true, LoadsAs Tryd.prog 30 (⟨w.heap.size, 2, none⟩) (.agg #[.int .i64 o.vk, .int .i64 o.vn, .string o.vt]) w_1] (by kernel_rfl) ⟨congrArg Value.bool (strEqT (c_12)), loadsB rfl rfl hk_3 2 ⟨by kernel_rfl, by kernel_rfl⟩, trivial⟩ ?_
          by_cases c_13 : (o.vk, o.vn, o.vt) = pl0
          · refine XL_run 3 [(30, .as (.bool true))] [(2, .bool true)] w_1 [RunsAs Tryd.prog [(28, .agg #[.int .i64 o.vk, .int .i64 o.vn, .string o.vt]), (29, .agg #[.int .i64 0, .int .i64 0, .string ByteArray.empty])] (Go.Op.binOp Go.BinOp.eql 30 (Go.Operand.tmp 28) (Go.Operand.tmp 29) 30) 4 (.bool true) w_1] (by kernel_rfl) ⟨runs_bin rfl rfl (run_eqGuard_agg _ _ _ _ _ _ _ (by kernel_rfl)) (by have h := plain_eqb (o.vk, o.vn, o.vt) pl0 w_1; rw [show ple (o.vk, o.vn, o.vt) pl0 = true from (ple_iff _ _).2 c_13] at h; exact h), trivial⟩ ?_
            refine XL_nil ?_
            refine X_ret ?_
            refine RX.ret_ok (P := Tryd.prog) (fn := Tryd.f68) (N := 49) (R := R_) [.bool true] (by kernel_rfl) (hR_ _ _ ?_)
            rw [show hasP o = true from by unfold hasP; simp_all]
            exact ⟨rfl, hb_2⟩
          · refine XL_run 3 [(30, .as (.bool false))] [(2, .bool false)] w_1 [RunsAs Tryd.prog [(28, .agg #[.int .i64 o.vk, .int .i64 o.vn, .string o.vt]), (29, .agg #[.int .i64 0, .int .i64 0, .string ByteArray.empty])] (Go.Op.binOp Go.BinOp.eql 30 (Go.Operand.tmp 28) (Go.Operand.tmp 29) 30) 4 (.bool false) w_1] (by kernel_rfl) ⟨runs_bin rfl rfl (run_eqGuard_agg _ _ _ _ _ _ _ (by kernel_rfl)) (by have h := plain_eqb (o.vk, o.vn, o.vt) pl0 w_1; rw [show ple (o.vk, o.vn, o.vt) pl0 = false from Bool.eq_false_iff.2 (fun k => c_13 ((ple_iff _ _).1 k))] at h; exact h), trivial⟩ ?_
            refine XL_nil ?_
            refine X_ret ?_
            refine RX.ret_ok (P := Tryd.prog) (fn := Tryd.f68) (N := 49) (R := R_) [.bool false] (by kernel_rfl) (hR_ _ _ ?_)
            rw [show hasP o = false from by unfold hasP; simp_all]
            exact ⟨rfl, hb_2⟩
        · refine XL_run 8 [(25, .eq (.bool false))] [(2, .bool false)] w_1 [Value.bool (o.text.toList == (⟨#[]⟩ : ByteArray).toList) = Value.bool false] (by kernel_rfl) ⟨congrArg Value.bool (strEqF (c_12)), trivial⟩ ?_
          refine XL_nil ?_
          refine X_ret ?_
          refine RX.ret_ok (P := Tryd.prog) (fn := Tryd.f68) (N := 49) (R := R_) [.bool false] (by kernel_rfl) (hR_ _ _ ?_)
          rw [show hasP o = false from by unfold hasP; simp_all]
          exact ⟨rfl, hb_2⟩
      · refine XL_run 2 [(22, .eq (.bool false))] [(1, .pointer (some ⟨w.heap.size, 0, none⟩)), (4, .int .i64 o.kind), (21, .bool false)] w_1 [Value.bool (o.kind == 3) = Value.bool false] (by kernel_rfl) ⟨congrArg Value.bool (beq_eq_false_iff_ne.2 (c_11)), trivial⟩ ?_
        refine XL_nil ?_
        refine X_cond false rfl ?_
        refine X_seq ?_
        refine X_region ?_
        by_cases c_14 : o.kind = 4
        · refine XL_run 2 [(33, .eq (.bool true))] [(1, .pointer (some ⟨w.heap.size, 0, none⟩)), (32, .bool true)] w_1 [Value.bool (o.kind == 4) = Value.bool true] (by kernel_rfl) ⟨congrArg Value.bool (beq_iff_eq.2 (c_14)), trivial⟩ ?_
          refine XL_nil ?_
          refine X_cond true rfl ?_
          refine X_seq ?_
          refine X_region ?_
          refine XL_run 2 [(35, .load (.string o.text))] [(1, .pointer (some ⟨w.heap.size, 0, none⟩)), (35, .string o.text)] w_1 [LoadsAs Tryd.prog 9 (⟨w.heap.size, 1, none⟩) (.string o.text) w_1] (by kernel_rfl) ⟨loads1 rfl (Blk.cell hk_3 1 _ rfl), trivial⟩ ?_
          by_cases c_15 : o.text = (⟨#[]⟩ : ByteArray)
          · refine XL_run 5 [(36, .eq (.bool true)), (39, .load (.agg #[.int .i64 o.vk, .int .i64 o.vn, .string o.vt]))] [(1, .pointer (some ⟨w.heap.size, 0, none⟩)), (37, .bool true), (39, .agg #[.int .i64 o.vk, .int .i64 o.vn, .string o.vt]), (40, .agg #[.int .i64 0, .int .i64 0, .string ByteArray.empty])] w_1 [Value.bool (o.text.toList == (⟨#[]⟩ : ByteArray).toList) = Value.bool true, LoadsAs Tryd.prog 30 (⟨w.heap.size, 2, none⟩) (.agg #[.int .i64 o.vk, .int .i64 o.vn, .string o.vt]) w_1] (by kernel_rfl) ⟨congrArg Value.bool (strEqT (c_15)), loadsB rfl rfl hk_3 2 ⟨by kernel_rfl, by kernel_rfl⟩, trivial⟩ ?_
            by_cases c_16 : (o.vk, o.vn, o.vt) = pl0
            · refine XL_run 6 [(41, .as (.bool true)), (45, .load (.slice A o.attrs.length c))] [(43, .bool true), (46, .int .i64 (o.attrs.length : Int))] w_1 [RunsAs Tryd.prog [(39, .agg #[.int .i64 o.vk, .int .i64 o.vn, .string o.vt]), (40, .agg #[.int .i64 0, .int .i64 0, .string ByteArray.empty])] (Go.Op.binOp Go.BinOp.eql 30 (Go.Operand.tmp 39) (Go.Operand.tmp 40) 30) 4 (.bool true) w_1, LoadsAs Tryd.prog 31 (⟨w.heap.size, 6, none⟩) (.slice A o.attrs.length c) w_1] (by kernel_rfl) ⟨runs_bin rfl rfl (run_eqGuard_agg _ _ _ _ _ _ _ (by kernel_rfl)) (by have h := plain_eqb (o.vk, o.vn, o.vt) pl0 w_1; rw [show ple (o.vk, o.vn, o.vt) pl0 = true from (ple_iff _ _).2 c_16] at h; exact h), loads1 rfl (Blk.cell hk_3 6 _ rfl), trivial⟩ ?_
              by_cases c_17 : (o.attrs.length : Int) = 0
              · refine XL_run 3 [(47, .eq (.bool true))] [(2, .bool true)] w_1 [Value.bool ((o.attrs.length : Int) == 0) = Value.bool true] (by kernel_rfl) ⟨congrArg Value.bool (beq_iff_eq.2 (c_17)), trivial⟩ ?_
                refine XL_nil ?_
                refine X_ret ?_
                refine RX.ret_ok (P := Tryd.prog) (fn := Tryd.f68) (N := 49) (R := R_) [.bool true] (by kernel_rfl) (hR_ _ _ ?_)
                rw [show hasP o = true from by unfold hasP; simp_all]
                exact ⟨rfl, hb_2⟩
              · refine XL_run 3 [(47, .eq (.bool false))] [(2, .bool false)] w_1 [Value.bool ((o.attrs.length : Int) == 0) = Value.bool false] (by kernel_rfl) ⟨congrArg Value.bool (beq_eq_false_iff_ne.2 (c_17)), trivial⟩ ?_
                refine XL_nil ?_
                refine X_ret ?_
                refine RX.ret_ok (P := Tryd.prog) (fn := Tryd.f68) (N := 49) (R := R_) [.bool false] (by kernel_rfl) (hR_ _ _ ?_)
                rw [show hasP o = false from by unfold hasP; simp_all]
                exact ⟨rfl, hb_2⟩
            · refine XL_run 9 [(41, .as (.bool false))] [(2, .bool false)] w_1 [RunsAs Tryd.prog [(39, .agg #[.int .i64 o.vk, .int .i64 o.vn, .string o.vt]), (40, .agg #[.int .i64 0, .int .i64 0, .string ByteArray.empty])] (Go.Op.binOp Go.BinOp.eql 30 (Go.Operand.tmp 39) (Go.Operand.tmp 40) 30) 4 (.bool false) w_1] (by kernel_rfl) ⟨runs_bin rfl rfl (run_eqGuard_agg _ _ _ _ _ _ _ (by kernel_rfl)) (by have h := plain_eqb (o.vk, o.vn, o.vt) pl0 w_1; rw [show ple (o.vk, o.vn, o.vt) pl0 = false from Bool.eq_false_iff.2 (fun k => c_16 ((ple_iff _ _).1 k))] at h; exact h), trivial⟩ ?_
              refine XL_nil ?_
              refine X_ret ?_
              refine RX.ret_ok (P := Tryd.prog) (fn := Tryd.f68) (N := 49) (R := R_) [.bool false] (by kernel_rfl) (hR_ _ _ ?_)
              rw [show hasP o = false from by unfold hasP; simp_all]
              exact ⟨rfl, hb_2⟩
          · refine XL_run 14 [(36, .eq (.bool false))] [(2, .bool false)] w_1 [Value.bool (o.text.toList == (⟨#[]⟩ : ByteArray).toList) = Value.bool false] (by kernel_rfl) ⟨congrArg Value.bool (strEqF (c_15)), trivial⟩ ?_
            refine XL_nil ?_
            refine X_ret ?_
            refine RX.ret_ok (P := Tryd.prog) (fn := Tryd.f68) (N := 49) (R := R_) [.bool false] (by kernel_rfl) (hR_ _ _ ?_)
            rw [show hasP o = false from by unfold hasP; simp_all]
            exact ⟨rfl, hb_2⟩
        · refine XL_run 2 [(33, .eq (.bool false))] [(1, .pointer (some ⟨w.heap.size, 0, none⟩)), (32, .bool false)] w_1 [Value.bool (o.kind == 4) = Value.bool false] (by kernel_rfl) ⟨congrArg Value.bool (beq_eq_false_iff_ne.2 (c_14)), trivial⟩ ?_
          refine XL_nil ?_
          refine X_cond false rfl ?_
          refine X_skip ?_
          refine X_seq ?_
          refine X_region ?_
          refine XL_run 1 [] [(2, .bool false)] w_1 [] (by kernel_rfl) trivial ?_
          refine XL_nil ?_
          refine X_ret ?_
          refine RX.ret_ok (P := Tryd.prog) (fn := Tryd.f68) (N := 49) (R := R_) [.bool false] (by kernel_rfl) (hR_ _ _ ?_)
          rw [show hasP o = false from by unfold hasP; simp_all]
          exact ⟨rfl, hb_2⟩
theorem r5check_any (o : OpA) (A : Option Addr) (c : Nat) (w : World) (hA : kAttr.C w A o.attrs.length o.attrs) (hz : opSz o) (hT : Tabs w) : Calls Tryd.prog 19 #[.agg #[.int .i64 o.kind, .string o.text, .int .i64 o.vk, .int .i64 o.vn, .string o.vt, .int .i64 o.count, .slice A o.attrs.length c]] w fun e w' => e = .returned (.int .i64 (pErr o : Int)) ∧ Below w.heap.size w w' := by
  refine RX.enter Tryd.func19 rfl 28 rfl [(0, .agg #[.int .i64 o.kind, .string o.text, .int .i64 o.vk, .int .i64 o.vn, .string o.vt, .int .i64 o.count, .slice A o.attrs.length c])] rfl (by kernel_rfl) (fun R_ hR_ => ?_)
  refine X_seq ?_
  refine X_region ?_
  refine XL_run 1 [] [(1, .pointer (some ⟨w.heap.size, 0, none⟩))] (w.alloc (.cells #[.int .i64 o.kind, .string o.text, .int .i64 o.vk, .int .i64 o.vn, .string o.vt, .int .i64 o.count, .slice A o.attrs.length c] 33)) [] (by kernel_rfl) trivial ?_
  obtain ⟨w_1, hw_5, hb_2, hk_3, hz_4⟩ := new_world w #[.int .i64 o.kind, .string o.text, .int .i64 o.vk, .int .i64 o.vn, .string o.vt, .int .i64 o.count, .slice A o.attrs.length c] 33
  rw [hw_5]
  refine XL_run 1 [] [(1, .pointer (some ⟨w.heap.size, 0, none⟩))] w_1 [] (by kernel_rfl) trivial ?_
  refine XL_nil ?_
  refine X_seq ?_
  refine X_seq ?_
  refine X_region ?_
  refine XL_run 1 [(3, .load (.agg #[.int .i64 o.kind, .string o.text, .int .i64 o.vk, .int .i64 o.vn, .string o.vt, .int .i64 o.count, .slice A o.attrs.length c]))] [(1, .pointer (some ⟨w.heap.size, 0, none⟩)), (3, .agg #[.int .i64 o.kind, .string o.text, .int .i64 o.vk, .int .i64 o.vn, .string o.vt, .int .i64 o.count, .slice A o.attrs.length c])] w_1 [LoadsAs Tryd.prog 33 (⟨w.heap.size, 0, none⟩) (.agg #[.int .i64 o.kind, .string o.text, .int .i64 o.vk, .int .i64 o.vn, .string o.vt, .int .i64 o.count, .slice A o.attrs.length c]) w_1] (by kernel_rfl) ⟨loadsB rfl rfl hk_3 0 ⟨by kernel_rfl, by kernel_rfl⟩, trivial⟩ ?_
  refine XL_call 68 rfl rfl rfl ent68 [.agg #[.int .i64 o.kind, .string o.text, .int .i64 o.vk, .int .i64 o.vn, .string o.vt, .int .i64 o.count, .slice A o.attrs.length c]] (by kernel_rfl) (r5empty_any o _ _ _ (Kd.C_below hA hb_2) hz) ?_
  rintro e w_6 ⟨rfl, hb_7⟩; refine ⟨_, rfl, ?_⟩
  by_cases c_8 : hasP o = true
  · rw [show (hasP o : Bool) = true from by simpa using c_8]
    refine XL_run 1 [] [(1, .pointer (some ⟨w.heap.size, 0, none⟩)), (5, .bool false)] w_6 [] (by kernel_rfl) trivial ?_
    refine XL_nil ?_
    refine X_cond false rfl ?_
    refine X_skip ?_
    refine X_seq ?_
    refine X_seq ?_
    refine X_region ?_
    refine XL_run 2 [(7, .load (.int .i64 o.kind))] [(1, .pointer (some ⟨w.heap.size, 0, none⟩)), (7, .int .i64 o.kind)] w_6 [LoadsAs Tryd.prog 3 (⟨w.heap.size, 0, none⟩) (.int .i64 o.kind) w_6] (by kernel_rfl) ⟨loads1 rfl (Blk.cell (Blk.below hk_3 hb_7) 0 _ rfl), trivial⟩ ?_
    by_cases c_9 : o.kind = 1
    · refine XL_run 6 [(8, .eq (.bool true))] [(1, .pointer (some ⟨w.heap.size, 0, none⟩)), (13, .bool true)] w_6 [Value.bool (o.kind == 1) = Value.bool true] (by kernel_rfl) ⟨congrArg Value.bool (beq_iff_eq.2 (c_9)), trivial⟩ ?_
      refine XL_nil ?_
      refine X_cond true rfl ?_
      refine X_seq ?_
      refine X_region ?_
      refine XL_run 1 [(14, .load (.agg #[.int .i64 o.kind, .string o.text, .int .i64 o.vk, .int .i64 o.vn, .string o.vt, .int .i64 o.count, .slice A o.attrs.length c]))] [(14, .agg #[.int .i64 o.kind, .string o.text, .int .i64 o.vk, .int .i64 o.vn, .string o.vt, .int .i64 o.count, .slice A o.attrs.length c])] w_6 [LoadsAs Tryd.prog 33 (⟨w.heap.size, 0, none⟩) (.agg #[.int .i64 o.kind, .string o.text, .int .i64 o.vk, .int .i64 o.vn, .string o.vt, .int .i64 o.count, .slice A o.attrs.length c]) w_6] (by kernel_rfl) ⟨loadsB rfl rfl (Blk.below hk_3 hb_7) 0 ⟨by kernel_rfl, by kernel_rfl⟩, trivial⟩ ?_
      refine XL_call 46 rfl rfl rfl ent46 [.agg #[.int .i64 o.kind, .string o.text, .int .i64 o.vk, .int .i64 o.vn, .string o.vt, .int .i64 o.count, .slice A o.attrs.length c]] (by kernel_rfl) (r4refuse_any o _ _ _ (Kd.C_below hA (bt hb_2 hb_7)) hz (hT.below (bt hb_2 hb_7))) ?_
      rintro e w_10 ⟨rfl, hb_11⟩; refine ⟨_, rfl, ?_⟩
      refine XL_run 1 [] [(2, .int .i64 (refuseP o : Int))] w_10 [] (by kernel_rfl) trivial ?_
      refine XL_nil ?_
      refine X_ret ?_
      refine RX.ret_ok (P := Tryd.prog) (fn := Tryd.f19) (N := 28) (R := R_) [.int .i64 (refuseP o : Int)] (by kernel_rfl) (hR_ _ _ ?_)
      have hpe : pErr o = refuseP o := by unfold pErr; simp_all
      rw [hpe]
      exact ⟨rfl, (bt (bt hb_2 hb_7) hb_11)⟩
    · refine XL_run 4 [(8, .eq (.bool false)), (11, .load (.int .i64 o.kind))] [(1, .pointer (some ⟨w.heap.size, 0, none⟩)), (9, .bool false), (11, .int .i64 o.kind)] w_6 [Value.bool (o.kind == 1) = Value.bool false, LoadsAs Tryd.prog 3 (⟨w.heap.size, 0, none⟩) (.int .i64 o.kind) w_6] (by kernel_rfl) ⟨congrArg Value.bool (beq_eq_false_iff_ne.2 (c_9)), loads1 rfl (Blk.cell (Blk.below hk_3 hb_7) 0 _ rfl), trivial⟩ ?_
      by_cases c_12 : o.kind = 2
      · refine XL_run 2 [(12, .eq (.bool true))] [(1, .pointer (some ⟨w.heap.size, 0, none⟩)), (13, .bool true)] w_6 [Value.bool (o.kind == 2) = Value.bool true] (by kernel_rfl) ⟨congrArg Value.bool (beq_iff_eq.2 (c_12)), trivial⟩ ?_
        refine XL_nil ?_
        refine X_cond true rfl ?_
        refine X_seq ?_
        refine X_region ?_
        refine XL_run 1 [(14, .load (.agg #[.int .i64 o.kind, .string o.text, .int .i64 o.vk, .int .i64 o.vn, .string o.vt, .int .i64 o.count, .slice A o.attrs.length c]))] [(14, .agg #[.int .i64 o.kind, .string o.text, .int .i64 o.vk, .int .i64 o.vn, .string o.vt, .int .i64 o.count, .slice A o.attrs.length c])] w_6 [LoadsAs Tryd.prog 33 (⟨w.heap.size, 0, none⟩) (.agg #[.int .i64 o.kind, .string o.text, .int .i64 o.vk, .int .i64 o.vn, .string o.vt, .int .i64 o.count, .slice A o.attrs.length c]) w_6] (by kernel_rfl) ⟨loadsB rfl rfl (Blk.below hk_3 hb_7) 0 ⟨by kernel_rfl, by kernel_rfl⟩, trivial⟩ ?_
        refine XL_call 46 rfl rfl rfl ent46 [.agg #[.int .i64 o.kind, .string o.text, .int .i64 o.vk, .int .i64 o.vn, .string o.vt, .int .i64 o.count, .slice A o.attrs.length c]] (by kernel_rfl) (r4refuse_any o _ _ _ (Kd.C_below hA (bt hb_2 hb_7)) hz (hT.below (bt hb_2 hb_7))) ?_
        rintro e w_13 ⟨rfl, hb_14⟩; refine ⟨_, rfl, ?_⟩
        refine XL_run 1 [] [(2, .int .i64 (refuseP o : Int))] w_13 [] (by kernel_rfl) trivial ?_
        refine XL_nil ?_
        refine X_ret ?_
        refine RX.ret_ok (P := Tryd.prog) (fn := Tryd.f19) (N := 28) (R := R_) [.int .i64 (refuseP o : Int)] (by kernel_rfl) (hR_ _ _ ?_)
        have hpe : pErr o = refuseP o := by unfold pErr; simp_all
        rw [hpe]
        exact ⟨rfl, (bt (bt hb_2 hb_7) hb_14)⟩
      · refine XL_run 2 [(12, .eq (.bool false))] [(1, .pointer (some ⟨w.heap.size, 0, none⟩)), (13, .bool false)] w_6 [Value.bool (o.kind == 2) = Value.bool false] (by kernel_rfl) ⟨congrArg Value.bool (beq_eq_false_iff_ne.2 (c_12)), trivial⟩ ?_
        refine XL_nil ?_
        refine X_cond false rfl ?_
        refine X_skip ?_
        refine X_seq ?_
        refine X_seq ?_
        refine X_region ?_
        refine XL_run 2 [(17, .load (.int .i64 o.count))] [(1, .pointer (some ⟨w.heap.size, 0, none⟩)), (17, .int .i64 o.count)] w_6 [LoadsAs Tryd.prog 3 (⟨w.heap.size, 5, none⟩) (.int .i64 o.count) w_6] (by kernel_rfl) ⟨loads1 rfl (Blk.cell (Blk.below hk_3 hb_7) 5 _ rfl), trivial⟩ ?_
        by_cases c_15 : o.count < 1
        · refine XL_run 1 [(18, .eq (.bool true))] [(1, .pointer (some ⟨w.heap.size, 0, none⟩)), (18, .bool true)] w_6 [Value.bool (decide (o.count < 1)) = Value.bool true] (by kernel_rfl) ⟨congrArg Value.bool (decide_eq_true (c_15)), trivial⟩ ?_
          refine XL_nil ?_
          refine X_cond true rfl ?_
          refine X_seq ?_
          refine X_region ?_
          refine XL_run 1 [] [(2, .int .i64 9)] w_6 [] (by kernel_rfl) trivial ?_
          refine XL_nil ?_
          refine X_ret ?_
          refine RX.ret_ok (P := Tryd.prog) (fn := Tryd.f19) (N := 28) (R := R_) [.int .i64 9] (by kernel_rfl) (hR_ _ _ ?_)
          have hpe : pErr o = 9 := by rw [pErr_small c_8 c_9 c_12]; first | (rw [if_pos (by omega)]; done) | (rw [if_neg (by omega), if_pos (by omega)]; done) | (rw [if_neg (by omega), if_neg (by omega), if_pos (by omega)]; done) | (rw [if_neg (by omega), if_neg (by omega), if_neg (by omega)])
          rw [hpe]
          exact ⟨rfl, (bt hb_2 hb_7)⟩
        · refine XL_run 1 [(18, .eq (.bool false))] [(1, .pointer (some ⟨w.heap.size, 0, none⟩)), (18, .bool false)] w_6 [Value.bool (decide (o.count < 1)) = Value.bool false] (by kernel_rfl) ⟨congrArg Value.bool (decide_eq_false (c_15)), trivial⟩ ?_
          refine XL_nil ?_
          refine X_cond false rfl ?_
          refine X_skip ?_
          refine X_seq ?_
          refine X_seq ?_
          refine X_region ?_
          refine XL_run 2 [(20, .load (.int .i64 o.count))] [(1, .pointer (some ⟨w.heap.size, 0, none⟩)), (20, .int .i64 o.count)] w_6 [LoadsAs Tryd.prog 3 (⟨w.heap.size, 5, none⟩) (.int .i64 o.count) w_6] (by kernel_rfl) ⟨loads1 rfl (Blk.cell (Blk.below hk_3 hb_7) 5 _ rfl), trivial⟩ ?_
          by_cases c_16 : o.count > 1099511627776
          · refine XL_run 1 [(21, .eq (.bool true))] [(1, .pointer (some ⟨w.heap.size, 0, none⟩)), (21, .bool true)] w_6 [Value.bool (decide (o.count > 1099511627776)) = Value.bool true] (by kernel_rfl) ⟨congrArg Value.bool (decide_eq_true (c_16)), trivial⟩ ?_
            refine XL_nil ?_
            refine X_cond true rfl ?_
            refine X_seq ?_
            refine X_region ?_
            refine XL_run 1 [] [(2, .int .i64 11)] w_6 [] (by kernel_rfl) trivial ?_
            refine XL_nil ?_
            refine X_ret ?_
            refine RX.ret_ok (P := Tryd.prog) (fn := Tryd.f19) (N := 28) (R := R_) [.int .i64 11] (by kernel_rfl) (hR_ _ _ ?_)
            have hpe : pErr o = 11 := by rw [pErr_small c_8 c_9 c_12]; first | (rw [if_pos (by omega)]; done) | (rw [if_neg (by omega), if_pos (by omega)]; done) | (rw [if_neg (by omega), if_neg (by omega), if_pos (by omega)]; done) | (rw [if_neg (by omega), if_neg (by omega), if_neg (by omega)])
            rw [hpe]
            exact ⟨rfl, (bt hb_2 hb_7)⟩
          · refine XL_run 1 [(21, .eq (.bool false))] [(1, .pointer (some ⟨w.heap.size, 0, none⟩)), (21, .bool false)] w_6 [Value.bool (decide (o.count > 1099511627776)) = Value.bool false] (by kernel_rfl) ⟨congrArg Value.bool (decide_eq_false (c_16)), trivial⟩ ?_
            refine XL_nil ?_
            refine X_cond false rfl ?_
            refine X_skip ?_
            refine X_seq ?_
            refine X_seq ?_
            refine X_region ?_
            refine XL_run 2 [(23, .load (.int .i64 o.kind))] [(1, .pointer (some ⟨w.heap.size, 0, none⟩)), (23, .int .i64 o.kind)] w_6 [LoadsAs Tryd.prog 3 (⟨w.heap.size, 0, none⟩) (.int .i64 o.kind) w_6] (by kernel_rfl) ⟨loads1 rfl (Blk.cell (Blk.below hk_3 hb_7) 0 _ rfl), trivial⟩ ?_
            by_cases c_17 : o.kind = 3
            · refine XL_run 1 [(24, .eq (.bool true))] [(1, .pointer (some ⟨w.heap.size, 0, none⟩)), (24, .bool true)] w_6 [Value.bool (o.kind == 3) = Value.bool true] (by kernel_rfl) ⟨congrArg Value.bool (beq_iff_eq.2 (c_17)), trivial⟩ ?_
              refine XL_nil ?_
              refine X_cond true rfl ?_
              refine X_seq ?_
              refine X_region ?_
              refine XL_run 2 [(26, .load (.slice A o.attrs.length c))] [(26, .slice A o.attrs.length c)] w_6 [LoadsAs Tryd.prog 31 (⟨w.heap.size, 6, none⟩) (.slice A o.attrs.length c) w_6] (by kernel_rfl) ⟨loads1 rfl (Blk.cell (Blk.below hk_3 hb_7) 6 _ rfl), trivial⟩ ?_
              refine XL_call 30 rfl rfl rfl ent30 [.slice A o.attrs.length c, .bool true] (by kernel_rfl) (r3check_any _ _ o.attrs true _ (Kd.C_below hA (bt hb_2 hb_7)) hz.2.2.2 (hT.below (bt hb_2 hb_7))) ?_
              rintro e w_18 ⟨rfl, hb_19⟩; refine ⟨_, rfl, ?_⟩
              refine XL_run 1 [] [(2, .int .i64 (chkA true o.attrs : Int))] w_18 [] (by kernel_rfl) trivial ?_
              refine XL_nil ?_
              refine X_ret ?_
              refine RX.ret_ok (P := Tryd.prog) (fn := Tryd.f19) (N := 28) (R := R_) [.int .i64 (chkA true o.attrs : Int)] (by kernel_rfl) (hR_ _ _ ?_)
              have hk4 : ¬ o.kind = 4 := by omega
              have hpe : pErr o = chkA true o.attrs := by rw [pErr_small c_8 c_9 c_12]; first | (rw [if_pos (by omega)]; done) | (rw [if_neg (by omega), if_pos (by omega)]; done) | (rw [if_neg (by omega), if_neg (by omega), if_pos (by omega)]; done) | (rw [if_neg (by omega), if_neg (by omega), if_neg (by omega)])
              rw [hpe]
              exact ⟨rfl, (bt (bt hb_2 hb_7) hb_19)⟩
            · refine XL_run 1 [(24, .eq (.bool false))] [(1, .pointer (some ⟨w.heap.size, 0, none⟩)), (24, .bool false)] w_6 [Value.bool (o.kind == 3) = Value.bool false] (by kernel_rfl) ⟨congrArg Value.bool (beq_eq_false_iff_ne.2 (c_17)), trivial⟩ ?_
              refine XL_nil ?_
              refine X_cond false rfl ?_
              refine X_skip ?_
              refine X_seq ?_
              refine X_region ?_
              refine XL_run 1 [] [(2, .int .i64 0)] w_6 [] (by kernel_rfl) trivial ?_
              refine XL_nil ?_
              refine X_ret ?_
              refine RX.ret_ok (P := Tryd.prog) (fn := Tryd.f19) (N := 28) (R := R_) [.int .i64 0] (by kernel_rfl) (hR_ _ _ ?_)
              have hk4 : o.kind = 4 := by have h_ := pErr_k3 c_8; omega
              have hpe : pErr o = 0 := by rw [pErr_small c_8 c_9 c_12]; first | (rw [if_pos (by omega)]; done) | (rw [if_neg (by omega), if_pos (by omega)]; done) | (rw [if_neg (by omega), if_neg (by omega), if_pos (by omega)]; done) | (rw [if_neg (by omega), if_neg (by omega), if_neg (by omega)])
              rw [hpe]
              exact ⟨rfl, (bt hb_2 hb_7)⟩
  · rw [show (hasP o : Bool) = false from by simpa using c_8]
    refine XL_run 1 [] [(1, .pointer (some ⟨w.heap.size, 0, none⟩)), (5, .bool true)] w_6 [] (by kernel_rfl) trivial ?_
    refine XL_nil ?_
    refine X_cond true rfl ?_
    refine X_seq ?_
    refine X_region ?_
    refine XL_run 1 [] [(2, .int .i64 9)] w_6 [] (by kernel_rfl) trivial ?_
    refine XL_nil ?_
    refine X_ret ?_
    refine RX.ret_ok (P := Tryd.prog) (fn := Tryd.f19) (N := 28) (R := R_) [.int .i64 9] (by kernel_rfl) (hR_ _ _ ?_)
    have hpe : pErr o = 9 := pErr_has (Bool.eq_false_iff.2 c_8)
    rw [hpe]
    exact ⟨rfl, (bt hb_2 hb_7)⟩
theorem r5len_any (o : OpA) (A : Option Addr) (c : Nat) (w : World) (hA : kAttr.C w A o.attrs.length o.attrs) (hz : opSz o) : Calls Tryd.prog 71 #[.agg #[.int .i64 o.kind, .string o.text, .int .i64 o.vk, .int .i64 o.vn, .string o.vt, .int .i64 o.count, .slice A o.attrs.length c]] w fun e w' => e = .returned (.int .i64 (opLen o)) ∧ Below w.heap.size w w' := by
  refine RX.enter Tryd.func71 rfl 15 rfl [(0, .agg #[.int .i64 o.kind, .string o.text, .int .i64 o.vk, .int .i64 o.vn, .string o.vt, .int .i64 o.count, .slice A o.attrs.length c])] rfl (by kernel_rfl) (fun R_ hR_ => ?_)
  refine X_seq ?_
  refine X_region ?_
  refine XL_run 1 [] [(1, .pointer (some ⟨w.heap.size, 0, none⟩))] (w.alloc (.cells #[.int .i64 o.kind, .string o.text, .int .i64 o.vk, .int .i64 o.vn, .string o.vt, .int .i64 o.count, .slice A o.attrs.length c] 33)) [] (by kernel_rfl) trivial ?_
  obtain ⟨w_1, hw_5, hb_2, hk_3, hz_4⟩ := new_world w #[.int .i64 o.kind, .string o.text, .int .i64 o.vk, .int .i64 o.vn, .string o.vt, .int .i64 o.count, .slice A o.attrs.length c] 33
  rw [hw_5]
  refine XL_run 1 [] [(1, .pointer (some ⟨w.heap.size, 0, none⟩))] w_1 [] (by kernel_rfl) trivial ?_
  refine XL_nil ?_
  refine X_seq ?_
  refine X_seq ?_
  refine X_region ?_
  refine XL_run 2 [(4, .load (.int .i64 o.kind))] [(1, .pointer (some ⟨w.heap.size, 0, none⟩)), (4, .int .i64 o.kind)] w_1 [LoadsAs Tryd.prog 3 (⟨w.heap.size, 0, none⟩) (.int .i64 o.kind) w_1] (by kernel_rfl) ⟨loads1 rfl (Blk.cell hk_3 0 _ rfl), trivial⟩ ?_
  by_cases c_6 : o.kind = 1
  · refine XL_run 6 [(5, .eq (.bool true))] [(1, .pointer (some ⟨w.heap.size, 0, none⟩)), (10, .bool true)] w_1 [Value.bool (o.kind == 1) = Value.bool true] (by kernel_rfl) ⟨congrArg Value.bool (beq_iff_eq.2 (c_6)), trivial⟩ ?_
    refine XL_nil ?_
    refine X_cond true rfl ?_
    refine X_seq ?_
    refine X_region ?_
    refine XL_run 1 [(11, .load (.agg #[.int .i64 o.kind, .string o.text, .int .i64 o.vk, .int .i64 o.vn, .string o.vt, .int .i64 o.count, .slice A o.attrs.length c]))] [(11, .agg #[.int .i64 o.kind, .string o.text, .int .i64 o.vk, .int .i64 o.vn, .string o.vt, .int .i64 o.count, .slice A o.attrs.length c])] w_1 [LoadsAs Tryd.prog 33 (⟨w.heap.size, 0, none⟩) (.agg #[.int .i64 o.kind, .string o.text, .int .i64 o.vk, .int .i64 o.vn, .string o.vt, .int .i64 o.count, .slice A o.attrs.length c]) w_1] (by kernel_rfl) ⟨loadsB rfl rfl hk_3 0 ⟨by kernel_rfl, by kernel_rfl⟩, trivial⟩ ?_
    refine XL_call 54 rfl rfl rfl ent54 [.agg #[.int .i64 o.kind, .string o.text, .int .i64 o.vk, .int .i64 o.vn, .string o.vt, .int .i64 o.count, .slice A o.attrs.length c]] (by kernel_rfl) (r4len_any o _ _ _ (Kd.C_below hA hb_2) hz) ?_
    rintro e w_7 ⟨rfl, hb_8⟩; refine ⟨_, rfl, ?_⟩
    refine XL_run 1 [] [(2, .int .i64 (len4 o))] w_7 [] (by kernel_rfl) trivial ?_
    refine XL_nil ?_
    refine X_ret ?_
    refine RX.ret_ok (P := Tryd.prog) (fn := Tryd.f71) (N := 15) (R := R_) [.int .i64 (len4 o)] (by kernel_rfl) (hR_ _ _ ?_)
    rw [← len4_op (by omega)]
    exact ⟨rfl, (bt hb_2 hb_8)⟩
  · refine XL_run 4 [(5, .eq (.bool false)), (8, .load (.int .i64 o.kind))] [(1, .pointer (some ⟨w.heap.size, 0, none⟩)), (6, .bool false), (8, .int .i64 o.kind)] w_1 [Value.bool (o.kind == 1) = Value.bool false, LoadsAs Tryd.prog 3 (⟨w.heap.size, 0, none⟩) (.int .i64 o.kind) w_1] (by kernel_rfl) ⟨congrArg Value.bool (beq_eq_false_iff_ne.2 (c_6)), loads1 rfl (Blk.cell hk_3 0 _ rfl), trivial⟩ ?_
    by_cases c_9 : o.kind = 2
    · refine XL_run 2 [(9, .eq (.bool true))] [(1, .pointer (some ⟨w.heap.size, 0, none⟩)), (10, .bool true)] w_1 [Value.bool (o.kind == 2) = Value.bool true] (by kernel_rfl) ⟨congrArg Value.bool (beq_iff_eq.2 (c_9)), trivial⟩ ?_
      refine XL_nil ?_
      refine X_cond true rfl ?_
      refine X_seq ?_
      refine X_region ?_
      refine XL_run 1 [(11, .load (.agg #[.int .i64 o.kind, .string o.text, .int .i64 o.vk, .int .i64 o.vn, .string o.vt, .int .i64 o.count, .slice A o.attrs.length c]))] [(11, .agg #[.int .i64 o.kind, .string o.text, .int .i64 o.vk, .int .i64 o.vn, .string o.vt, .int .i64 o.count, .slice A o.attrs.length c])] w_1 [LoadsAs Tryd.prog 33 (⟨w.heap.size, 0, none⟩) (.agg #[.int .i64 o.kind, .string o.text, .int .i64 o.vk, .int .i64 o.vn, .string o.vt, .int .i64 o.count, .slice A o.attrs.length c]) w_1] (by kernel_rfl) ⟨loadsB rfl rfl hk_3 0 ⟨by kernel_rfl, by kernel_rfl⟩, trivial⟩ ?_
      refine XL_call 54 rfl rfl rfl ent54 [.agg #[.int .i64 o.kind, .string o.text, .int .i64 o.vk, .int .i64 o.vn, .string o.vt, .int .i64 o.count, .slice A o.attrs.length c]] (by kernel_rfl) (r4len_any o _ _ _ (Kd.C_below hA hb_2) hz) ?_
      rintro e w_10 ⟨rfl, hb_11⟩; refine ⟨_, rfl, ?_⟩
      refine XL_run 1 [] [(2, .int .i64 (len4 o))] w_10 [] (by kernel_rfl) trivial ?_
      refine XL_nil ?_
      refine X_ret ?_
      refine RX.ret_ok (P := Tryd.prog) (fn := Tryd.f71) (N := 15) (R := R_) [.int .i64 (len4 o)] (by kernel_rfl) (hR_ _ _ ?_)
      rw [← len4_op (by omega)]
      exact ⟨rfl, (bt hb_2 hb_11)⟩
    · refine XL_run 2 [(9, .eq (.bool false))] [(1, .pointer (some ⟨w.heap.size, 0, none⟩)), (10, .bool false)] w_1 [Value.bool (o.kind == 2) = Value.bool false] (by kernel_rfl) ⟨congrArg Value.bool (beq_eq_false_iff_ne.2 (c_9)), trivial⟩ ?_
      refine XL_nil ?_
      refine X_cond false rfl ?_
      refine X_skip ?_
      refine X_seq ?_
      refine X_region ?_
      refine XL_run 3 [(14, .load (.int .i64 o.count))] [(2, .int .i64 o.count)] w_1 [LoadsAs Tryd.prog 3 (⟨w.heap.size, 5, none⟩) (.int .i64 o.count) w_1] (by kernel_rfl) ⟨loads1 rfl (Blk.cell hk_3 5 _ rfl), trivial⟩ ?_
      refine XL_nil ?_
      refine X_ret ?_
      refine RX.ret_ok (P := Tryd.prog) (fn := Tryd.f71) (N := 15) (R := R_) [.int .i64 o.count] (by kernel_rfl) (hR_ _ _ ?_)
      rw [show opLen o = o.count from by unfold opLen; simp_all]
      exact ⟨rfl, hb_2⟩
theorem r5bad_any (A : Option Addr) (c : Nat) (xs : List OpA) (w : World) (hx : kOp.C w A xs.length xs) (hn : xs.length ≤ 100000000) (hz : ∀ i, i < xs.length → opSz (xs.getD i op0)) (hT : Tabs w) : Calls Tryd.prog 70 #[.slice A xs.length c] w fun e w' => e = .returned (.tuple #[.int .i64 (badI xs : Int), .int .i64 (badE xs : Int)]) ∧ Below w.heap.size w w' := by
  have hpl : xs.length ≤ 9223372036854775807 := hx.2.1
  refine RX.enter Tryd.func70 rfl 21 rfl [(0, .slice A xs.length c)] rfl (by kernel_rfl) (fun R_ hR_ => ?_)
  refine X_seq ?_
  refine X_region ?_
  refine XL_run 2 [] [(0, .slice A xs.length c)] w [] (by kernel_rfl) trivial ?_
  refine XL_nil ?_
  refine X_seq ?_
  refine X_seq ?_
  refine X_region ?_
  refine XL_run 1 [] [(0, .slice A xs.length c), (4, .int .i64 0)] w [] (by kernel_rfl) trivial ?_
  refine XL_nil ?_
  refine X_block ?_
  refine X_loop (ι := Nat) (fun i => [(0, .slice A xs.length c), (4, .int .i64 (i : Int))]) (fun i wl => i ≤ xs.length ∧ badE (xs.take i) = 0 ∧ Below w.heap.size w wl) (fun i => xs.length - i) 0 ⟨by omega, rfl, (Below.refl _ _)⟩ (by kernel_rfl) ?_
  rintro i wl ⟨hi, hb0, HB⟩
  refine X_seq ?_
  refine X_seq ?_
  refine X_region ?_
  refine XL_run 3 [] [(0, .slice A xs.length c), (4, .int .i64 (i : Int)), (6, .int .i64 (i : Int)), (8, .int .i64 (xs.length : Int))] wl [] (by kernel_rfl) trivial ?_
  by_cases c_1 : (i : Int) < (xs.length : Int)
  · refine XL_run 1 [(9, .eq (.bool true))] [(0, .slice A xs.length c), (4, .int .i64 (i : Int)), (9, .bool true)] wl [Value.bool (decide ((i : Int) < (xs.length : Int))) = Value.bool true] (by kernel_rfl) ⟨congrArg Value.bool (decide_eq_true (c_1)), trivial⟩ ?_
    refine XL_nil ?_
    refine X_cond true rfl ?_
    refine X_skip ?_
    refine X_seq ?_
    refine X_block ?_
    refine X_seq ?_
    refine X_region ?_
    refine XL_run 2 [] [(0, .slice A xs.length c), (4, .int .i64 (i : Int)), (12, .slice A xs.length c), (13, .int .i64 (i : Int))] wl [] (by kernel_rfl) trivial ?_
    obtain ⟨ad_2, B_5, c_6, ha_3, hc_4, hl_7, hC_8⟩ := Kd.atOp (Kd.C_below hx HB) (i := (i : Int)) (by omega) (by omega)
    replace hc_4 : CellsAt wl (ad_2.add ((i : Int).toNat * 7)) [.int .i64 ((xs.getD i op0).kind), .string ((xs.getD i op0).text), .int .i64 ((xs.getD i op0).vk), .int .i64 ((xs.getD i op0).vn), .string ((xs.getD i op0).vt), .int .i64 ((xs.getD i op0).count), .slice B_5 ((xs.getD i op0).attrs.length) c_6] := hc_4
    replace hl_7 : (xs.getD i op0).attrs.length ≤ c_6 := hl_7
    replace hC_8 : kAttr.C wl B_5 ((xs.getD i op0).attrs.length) (xs.getD i op0).attrs := hC_8
    refine XL_run 2 [(14, .idx ad_2), (15, .load (.agg #[.int .i64 ((xs.getD i op0).kind), .string ((xs.getD i op0).text), .int .i64 ((xs.getD i op0).vk), .int .i64 ((xs.getD i op0).vn), .string ((xs.getD i op0).vt), .int .i64 ((xs.getD i op0).count), .slice B_5 ((xs.getD i op0).attrs.length) c_6]))] [(0, .slice A xs.length c), (4, .int .i64 (i : Int)), (15, .agg #[.int .i64 ((xs.getD i op0).kind), .string ((xs.getD i op0).text), .int .i64 ((xs.getD i op0).vk), .int .i64 ((xs.getD i op0).vn), .string ((xs.getD i op0).vt), .int .i64 ((xs.getD i op0).count), .slice B_5 ((xs.getD i op0).attrs.length) c_6])] wl [A = some ad_2, (0 : Int) ≤ (i : Int), (i : Int) < (xs.length : Int), LoadsAs Tryd.prog 33 (ad_2.add ((i : Int).toNat * 7)) (.agg #[.int .i64 ((xs.getD i op0).kind), .string ((xs.getD i op0).text), .int .i64 ((xs.getD i op0).vk), .int .i64 ((xs.getD i op0).vn), .string ((xs.getD i op0).vt), .int .i64 ((xs.getD i op0).count), .slice B_5 ((xs.getD i op0).attrs.length) c_6]) wl] (by kernel_rfl) ⟨ha_3, (by omega), (by omega), loadsE rfl rfl hc_4 0 ⟨by kernel_rfl, by kernel_rfl⟩, trivial⟩ ?_
    refine XL_call 19 rfl rfl rfl ent19 [.agg #[.int .i64 ((xs.getD i op0).kind), .string ((xs.getD i op0).text), .int .i64 ((xs.getD i op0).vk), .int .i64 ((xs.getD i op0).vn), .string ((xs.getD i op0).vt), .int .i64 ((xs.getD i op0).count), .slice B_5 ((xs.getD i op0).attrs.length) c_6]] (by kernel_rfl) (r5check_any (xs.getD i op0) _ _ _ hC_8 (hz i (by omega)) (hT.below HB)) ?_
    rintro e w_9 ⟨rfl, hb_10⟩; refine ⟨_, rfl, ?_⟩
    refine XL_run 1 [] [(0, .slice A xs.length c), (4, .int .i64 (i : Int)), (5, .int .i64 (pErr (xs.getD i op0) : Int))] w_9 [] (by kernel_rfl) trivial ?_
    refine XL_nil ?_
    refine X_seq ?_
    refine X_region ?_
    refine XL_run 1 [] [(0, .slice A xs.length c), (4, .int .i64 (i : Int)), (5, .int .i64 (pErr (xs.getD i op0) : Int)), (17, .int .i64 (pErr (xs.getD i op0) : Int))] w_9 [] (by kernel_rfl) trivial ?_
    by_cases c_11 : (pErr (xs.getD i op0) : Int) = 0
    · refine XL_run 1 [(18, .eq (.bool false))] [(0, .slice A xs.length c), (4, .int .i64 (i : Int)), (5, .int .i64 (pErr (xs.getD i op0) : Int)), (18, .bool false)] w_9 [Value.bool ((pErr (xs.getD i op0) : Int) != 0) = Value.bool false] (by kernel_rfl) ⟨congrArg Value.bool (bneF (c_11)), trivial⟩ ?_
      refine XL_nil ?_
      refine X_cond false rfl ?_
      refine X_skip ?_
      refine X_region ?_
      refine XL_run 3 [(11, .eq (.int .i64 ((i : Int) + 1)))] [(0, .slice A xs.length c), (4, .int .i64 ((i : Int) + 1))] w_9 [Value.int .i64 (IntKind.i64.wrap ((i : Int) + 1)) = Value.int .i64 ((i : Int) + 1)] (by kernel_rfl) ⟨wr_i64 (by omega) (by omega), trivial⟩ ?_
      refine XL_nil ?_
      refine ⟨(i + 1), by kernel_rfl, ?_, ?_⟩
      · exact ⟨by omega, badE_succ (by omega) hb0 (by omega), (bt HB hb_10)⟩
      · (try dsimp only); omega
    · refine XL_run 1 [(18, .eq (.bool true))] [(0, .slice A xs.length c), (4, .int .i64 (i : Int)), (5, .int .i64 (pErr (xs.getD i op0) : Int)), (18, .bool true)] w_9 [Value.bool ((pErr (xs.getD i op0) : Int) != 0) = Value.bool true] (by kernel_rfl) ⟨congrArg Value.bool (bneT (c_11)), trivial⟩ ?_
      refine XL_nil ?_
      refine X_cond true rfl ?_
      refine X_seq ?_
      refine X_region ?_
      refine XL_run 4 [] [(2, .int .i64 (i : Int)), (3, .int .i64 (pErr (xs.getD i op0) : Int))] w_9 [] (by kernel_rfl) trivial ?_
      refine XL_nil ?_
      refine X_ret ?_
      refine RX.ret_ok (P := Tryd.prog) (fn := Tryd.f70) (N := 21) (R := R_) [.int .i64 (i : Int), .int .i64 (pErr (xs.getD i op0) : Int)] (by kernel_rfl) (hR_ _ _ ?_)
      have hne : pErr (xs.getD i op0) ≠ 0 := by omega
      rw [badE_stop (xs := xs) (i := i) (by omega) hb0 hne, badI_stop (xs := xs) (i := i) (by omega) hb0 hne]
      exact ⟨rfl, (bt HB hb_10)⟩
  · refine XL_run 1 [(9, .eq (.bool false))] [(0, .slice A xs.length c), (4, .int .i64 (i : Int)), (9, .bool false)] wl [Value.bool (decide ((i : Int) < (xs.length : Int))) = Value.bool false] (by kernel_rfl) ⟨congrArg Value.bool (decide_eq_false (c_1)), trivial⟩ ?_
    refine XL_nil ?_
    refine X_cond false rfl ?_
    refine X_exit ?_
    refine X_seq ?_
    refine X_region ?_
    refine XL_run 2 [] [(2, .int .i64 0), (3, .int .i64 0)] wl [] (by kernel_rfl) trivial ?_
    refine XL_nil ?_
    refine X_ret ?_
    refine RX.ret_ok (P := Tryd.prog) (fn := Tryd.f70) (N := 21) (R := R_) [.int .i64 0, .int .i64 0] (by kernel_rfl) (hR_ _ _ ?_)
    have hxi : xs.take i = xs := List.take_of_length_le (by omega)
    rw [hxi] at hb0
    rw [hb0, badI_none hb0]
    exact ⟨rfl, HB⟩
set_option maxHeartbeats 2000000 in
theorem r5lens_any (A : Option Addr) (c : Nat) (xs : List OpA) (w : World) (hx : kOp.C w A xs.length xs) (hn : xs.length ≤ 100000000) (hz : ∀ i, i < xs.length → opSz (xs.getD i op0)) (hT : Tabs w) : Calls Tryd.prog 21 #[.slice A xs.length c] w fun e w' => e = .returned (.tuple #[.int .i64 (lenP xs).1, .int .i64 (lenP xs).2.1, .int .i64 ((lenP xs).2.2 : Int)]) ∧ Below w.heap.size w w' := by
  have hpl : xs.length ≤ 9223372036854775807 := hx.2.1
  refine RX.enter Tryd.func21 rfl 64 rfl [(0, .slice A xs.length c)] rfl (by kernel_rfl) (fun R_ hR_ => ?_)
  refine X_seq ?_
  refine X_region ?_
  refine XL_run 3 [] [(0, .slice A xs.length c)] w [] (by kernel_rfl) trivial ?_
  refine XL_nil ?_
  refine X_seq ?_
  refine X_region ?_
  refine XL_run 1 [] [(0, .slice A xs.length c), (12, .slice A xs.length c)] w [] (by kernel_rfl) trivial ?_
  refine XL_call 70 rfl rfl rfl ent70 [.slice A xs.length c] (by kernel_rfl) (r5bad_any _ _ xs _ hx hn hz (hT.below (Below.refl _ _))) ?_
  rintro e w_1 ⟨rfl, hb_2⟩; refine ⟨_, rfl, ?_⟩
  refine XL_run 5 [] [(0, .slice A xs.length c), (6, .int .i64 (badE xs : Int))] w_1 [] (by kernel_rfl) trivial ?_
  refine XL_nil ?_
  refine X_seq ?_
  refine X_seq ?_
  refine X_region ?_
  refine XL_run 1 [] [(0, .slice A xs.length c), (6, .int .i64 (badE xs : Int)), (16, .int .i64 (badE xs : Int))] w_1 [] (by kernel_rfl) trivial ?_
  by_cases c_3 : (badE xs : Int) = 0
  · refine XL_run 1 [(17, .eq (.bool false))] [(0, .slice A xs.length c), (6, .int .i64 (badE xs : Int)), (17, .bool false)] w_1 [Value.bool ((badE xs : Int) != 0) = Value.bool false] (by kernel_rfl) ⟨congrArg Value.bool (bneF (c_3)), trivial⟩ ?_
    refine XL_nil ?_
    refine X_cond false rfl ?_
    refine X_skip ?_
    refine X_seq ?_
    refine X_region ?_
    refine XL_run 2 [] [(0, .slice A xs.length c), (7, .int .i64 0), (8, .int .i64 0)] w_1 [] (by kernel_rfl) trivial ?_
    refine XL_nil ?_
    refine X_seq ?_
    refine X_seq ?_
    refine X_region ?_
    refine XL_run 1 [] [(0, .slice A xs.length c), (7, .int .i64 0), (8, .int .i64 0), (9, .int .i64 0)] w_1 [] (by kernel_rfl) trivial ?_
    refine XL_nil ?_
    refine X_block ?_
    have hbe : badE xs = 0 := by omega
    refine X_loop (ι := Nat × Int × Int) (fun ⟨i, b, r⟩ => [(0, .slice A xs.length c), (7, .int .i64 b), (8, .int .i64 r), (9, .int .i64 (i : Int))]) (fun ⟨i, b, r⟩ wl => i ≤ xs.length ∧ b = sB (xs.take i) ∧ r = sR (xs.take i) ∧ b ≤ 1099511627776 ∧ r ≤ 1099511627776 ∧ Below w.heap.size w wl) (fun ⟨i, b, r⟩ => xs.length - i) (0, 0, 0) ⟨by omega, rfl, rfl, by omega, by omega, hb_2⟩ (by kernel_rfl) ?_
    rintro ⟨i, b, r⟩ wl ⟨hi, hbb, hrr, hbl, hrl, HB⟩
    have hs0 := sB_ok (badE_take hbe i)
    have hs1 := sR_ok (badE_take hbe i)
    refine X_seq ?_
    refine X_seq ?_
    refine X_region ?_
    refine XL_run 3 [] [(0, .slice A xs.length c), (7, .int .i64 b), (8, .int .i64 r), (9, .int .i64 (i : Int)), (19, .int .i64 (i : Int)), (21, .int .i64 (xs.length : Int))] wl [] (by kernel_rfl) trivial ?_
    by_cases c_4 : (i : Int) < (xs.length : Int)
    · refine XL_run 1 [(22, .eq (.bool true))] [(0, .slice A xs.length c), (7, .int .i64 b), (8, .int .i64 r), (9, .int .i64 (i : Int)), (22, .bool true)] wl [Value.bool (decide ((i : Int) < (xs.length : Int))) = Value.bool true] (by kernel_rfl) ⟨congrArg Value.bool (decide_eq_true (c_4)), trivial⟩ ?_
      refine XL_nil ?_
      refine X_cond true rfl ?_
      refine X_skip ?_
      refine X_seq ?_
      refine X_block ?_
      refine X_seq ?_
      refine X_region ?_
      refine XL_run 2 [] [(0, .slice A xs.length c), (7, .int .i64 b), (8, .int .i64 r), (9, .int .i64 (i : Int)), (25, .slice A xs.length c), (26, .int .i64 (i : Int))] wl [] (by kernel_rfl) trivial ?_
      obtain ⟨ad_5, B_8, c_9, ha_6, hc_7, hl_10, hC_11⟩ := Kd.atOp (Kd.C_below hx HB) (i := (i : Int)) (by omega) (by omega)
      replace hc_7 : CellsAt wl (ad_5.add ((i : Int).toNat * 7)) [.int .i64 ((xs.getD i op0).kind), .string ((xs.getD i op0).text), .int .i64 ((xs.getD i op0).vk), .int .i64 ((xs.getD i op0).vn), .string ((xs.getD i op0).vt), .int .i64 ((xs.getD i op0).count), .slice B_8 ((xs.getD i op0).attrs.length) c_9] := hc_7
      replace hl_10 : (xs.getD i op0).attrs.length ≤ c_9 := hl_10
      replace hC_11 : kAttr.C wl B_8 ((xs.getD i op0).attrs.length) (xs.getD i op0).attrs := hC_11
      refine XL_run 2 [(27, .idx ad_5), (28, .load (.agg #[.int .i64 ((xs.getD i op0).kind), .string ((xs.getD i op0).text), .int .i64 ((xs.getD i op0).vk), .int .i64 ((xs.getD i op0).vn), .string ((xs.getD i op0).vt), .int .i64 ((xs.getD i op0).count), .slice B_8 ((xs.getD i op0).attrs.length) c_9]))] [(0, .slice A xs.length c), (7, .int .i64 b), (8, .int .i64 r), (9, .int .i64 (i : Int)), (28, .agg #[.int .i64 ((xs.getD i op0).kind), .string ((xs.getD i op0).text), .int .i64 ((xs.getD i op0).vk), .int .i64 ((xs.getD i op0).vn), .string ((xs.getD i op0).vt), .int .i64 ((xs.getD i op0).count), .slice B_8 ((xs.getD i op0).attrs.length) c_9])] wl [A = some ad_5, (0 : Int) ≤ (i : Int), (i : Int) < (xs.length : Int), LoadsAs Tryd.prog 33 (ad_5.add ((i : Int).toNat * 7)) (.agg #[.int .i64 ((xs.getD i op0).kind), .string ((xs.getD i op0).text), .int .i64 ((xs.getD i op0).vk), .int .i64 ((xs.getD i op0).vn), .string ((xs.getD i op0).vt), .int .i64 ((xs.getD i op0).count), .slice B_8 ((xs.getD i op0).attrs.length) c_9]) wl] (by kernel_rfl) ⟨ha_6, (by omega), (by omega), loadsE rfl rfl hc_7 0 ⟨by kernel_rfl, by kernel_rfl⟩, trivial⟩ ?_
      refine XL_call 71 rfl rfl rfl ent71 [.agg #[.int .i64 ((xs.getD i op0).kind), .string ((xs.getD i op0).text), .int .i64 ((xs.getD i op0).vk), .int .i64 ((xs.getD i op0).vn), .string ((xs.getD i op0).vt), .int .i64 ((xs.getD i op0).count), .slice B_8 ((xs.getD i op0).attrs.length) c_9]] (by kernel_rfl) (r5len_any (xs.getD i op0) _ _ _ hC_11 (hz i (by omega))) ?_
      rintro e w_12 ⟨rfl, hb_13⟩; refine ⟨_, rfl, ?_⟩
      have hpe := badE_getD hbe (show i < xs.length by omega)
      have hol := opLen_ok hpe
      have hol2 : opLen (xs.getD i op0) ≤ 1099511627776 := by have h1_ := (hz i (by omega)).1; have h2_ := U.sc_le (xs.getD i op0).text; have h3_ := fun hk_ => count_of_ok hpe hk_; have h4_ := kind_of_ok hpe; unfold opLen; by_cases k1_ : (xs.getD i op0).kind = 1; (· rw [if_pos k1_]; omega); (· rw [if_neg k1_]; by_cases k2_ : (xs.getD i op0).kind = 2; (· rw [if_pos k2_]; omega); (· rw [if_neg k2_]; exact (h3_ (by omega)).2))
      have hst1 := sumI_take opB xs i (by omega)
      have hst2 := sumI_take opR xs i (by omega)
      have hob : opB (xs.getD i op0) = if (xs.getD i op0).kind = 3 ∨ (xs.getD i op0).kind = 4 then opLen (xs.getD i op0) else 0 := rfl
      have hor : opR (xs.getD i op0) = if (xs.getD i op0).kind = 4 then 0 else opLen (xs.getD i op0) := rfl
      have hstl := sum_take_le hbe (i + 1)
      refine XL_run 1 [] [(0, .slice A xs.length c), (7, .int .i64 b), (8, .int .i64 r), (9, .int .i64 (i : Int)), (10, .int .i64 (opLen (xs.getD i op0)))] w_12 [] (by kernel_rfl) trivial ?_
      refine XL_nil ?_
      refine X_seq ?_
      refine X_seq ?_
      refine X_region ?_
      refine XL_run 2 [] [(0, .slice A xs.length c), (7, .int .i64 b), (8, .int .i64 r), (9, .int .i64 (i : Int)), (10, .int .i64 (opLen (xs.getD i op0))), (30, .slice A xs.length c), (31, .int .i64 (i : Int))] w_12 [] (by kernel_rfl) trivial ?_
      obtain ⟨ad_14, B_17, c_18, ha_15, hc_16, hl_19, hC_20⟩ := Kd.atOp (Kd.C_below hx (bt HB hb_13)) (i := (i : Int)) (by omega) (by omega)
      replace hc_16 : CellsAt w_12 (ad_14.add ((i : Int).toNat * 7)) [.int .i64 ((xs.getD i op0).kind), .string ((xs.getD i op0).text), .int .i64 ((xs.getD i op0).vk), .int .i64 ((xs.getD i op0).vn), .string ((xs.getD i op0).vt), .int .i64 ((xs.getD i op0).count), .slice B_17 ((xs.getD i op0).attrs.length) c_18] := hc_16
      replace hl_19 : (xs.getD i op0).attrs.length ≤ c_18 := hl_19
      replace hC_20 : kAttr.C w_12 B_17 ((xs.getD i op0).attrs.length) (xs.getD i op0).attrs := hC_20
      refine XL_run 3 [(32, .idx ad_14), (34, .load (.int .i64 ((xs.getD i op0).kind)))] [(0, .slice A xs.length c), (7, .int .i64 b), (8, .int .i64 r), (9, .int .i64 (i : Int)), (10, .int .i64 (opLen (xs.getD i op0))), (34, .int .i64 ((xs.getD i op0).kind))] w_12 [A = some ad_14, (0 : Int) ≤ (i : Int), (i : Int) < (xs.length : Int), LoadsAs Tryd.prog 3 (ad_14.add ((i : Int).toNat * 7)) (.int .i64 ((xs.getD i op0).kind)) w_12] (by kernel_rfl) ⟨ha_15, (by omega), (by omega), loads1 rfl (elem_cell hc_16 0 _ rfl), trivial⟩ ?_
      by_cases c_21 : (xs.getD i op0).kind = 3
      · refine XL_run 9 [(35, .eq (.bool true))] [(0, .slice A xs.length c), (7, .int .i64 b), (8, .int .i64 r), (9, .int .i64 (i : Int)), (10, .int .i64 (opLen (xs.getD i op0))), (43, .bool true)] w_12 [Value.bool ((xs.getD i op0).kind == 3) = Value.bool true] (by kernel_rfl) ⟨congrArg Value.bool (beq_iff_eq.2 (c_21)), trivial⟩ ?_
        refine XL_nil ?_
        refine X_cond true rfl ?_
        refine X_region ?_
        refine XL_run 4 [(46, .eq (.int .i64 (b + (opLen (xs.getD i op0)))))] [(0, .slice A xs.length c), (7, .int .i64 (b + (opLen (xs.getD i op0)))), (8, .int .i64 r), (9, .int .i64 (i : Int)), (10, .int .i64 (opLen (xs.getD i op0)))] w_12 [Value.int .i64 (IntKind.i64.wrap (b + (opLen (xs.getD i op0)))) = Value.int .i64 (b + (opLen (xs.getD i op0)))] (by kernel_rfl) ⟨wr_i64 (by omega) (by omega), trivial⟩ ?_
        refine XL_nil ?_
        refine X_seq ?_
        refine X_seq ?_
        refine X_region ?_
        refine XL_run 2 [] [(0, .slice A xs.length c), (7, .int .i64 (b + (opLen (xs.getD i op0)))), (8, .int .i64 r), (9, .int .i64 (i : Int)), (10, .int .i64 (opLen (xs.getD i op0))), (47, .slice A xs.length c), (48, .int .i64 (i : Int))] w_12 [] (by kernel_rfl) trivial ?_
        obtain ⟨ad_22, B_25, c_26, ha_23, hc_24, hl_27, hC_28⟩ := Kd.atOp (Kd.C_below hx (bt HB hb_13)) (i := (i : Int)) (by omega) (by omega)
        replace hc_24 : CellsAt w_12 (ad_22.add ((i : Int).toNat * 7)) [.int .i64 ((xs.getD i op0).kind), .string ((xs.getD i op0).text), .int .i64 ((xs.getD i op0).vk), .int .i64 ((xs.getD i op0).vn), .string ((xs.getD i op0).vt), .int .i64 ((xs.getD i op0).count), .slice B_25 ((xs.getD i op0).attrs.length) c_26] := hc_24
        replace hl_27 : (xs.getD i op0).attrs.length ≤ c_26 := hl_27
        replace hC_28 : kAttr.C w_12 B_25 ((xs.getD i op0).attrs.length) (xs.getD i op0).attrs := hC_28
        refine XL_run 3 [(49, .idx ad_22), (51, .load (.int .i64 ((xs.getD i op0).kind)))] [(0, .slice A xs.length c), (7, .int .i64 (b + (opLen (xs.getD i op0)))), (8, .int .i64 r), (9, .int .i64 (i : Int)), (10, .int .i64 (opLen (xs.getD i op0))), (51, .int .i64 ((xs.getD i op0).kind))] w_12 [A = some ad_22, (0 : Int) ≤ (i : Int), (i : Int) < (xs.length : Int), LoadsAs Tryd.prog 3 (ad_22.add ((i : Int).toNat * 7)) (.int .i64 ((xs.getD i op0).kind)) w_12] (by kernel_rfl) ⟨ha_23, (by omega), (by omega), loads1 rfl (elem_cell hc_24 0 _ rfl), trivial⟩ ?_
        by_cases c_29 : (xs.getD i op0).kind = 4
        · exfalso; omega
        · refine XL_run 1 [(52, .eq (.bool true))] [(0, .slice A xs.length c), (7, .int .i64 (b + (opLen (xs.getD i op0)))), (8, .int .i64 r), (9, .int .i64 (i : Int)), (10, .int .i64 (opLen (xs.getD i op0))), (52, .bool true)] w_12 [Value.bool ((xs.getD i op0).kind != 4) = Value.bool true] (by kernel_rfl) ⟨congrArg Value.bool (bneT (c_29)), trivial⟩ ?_
          refine XL_nil ?_
          refine X_cond true rfl ?_
          refine X_region ?_
          refine XL_run 4 [(55, .eq (.int .i64 (r + (opLen (xs.getD i op0)))))] [(0, .slice A xs.length c), (7, .int .i64 (b + (opLen (xs.getD i op0)))), (8, .int .i64 (r + (opLen (xs.getD i op0)))), (9, .int .i64 (i : Int))] w_12 [Value.int .i64 (IntKind.i64.wrap (r + (opLen (xs.getD i op0)))) = Value.int .i64 (r + (opLen (xs.getD i op0)))] (by kernel_rfl) ⟨wr_i64 (by omega) (by omega), trivial⟩ ?_
          refine XL_nil ?_
          refine X_seq ?_
          refine X_region ?_
          refine XL_run 1 [] [(0, .slice A xs.length c), (7, .int .i64 (b + (opLen (xs.getD i op0)))), (8, .int .i64 (r + (opLen (xs.getD i op0)))), (9, .int .i64 (i : Int)), (56, .int .i64 (b + (opLen (xs.getD i op0))))] w_12 [] (by kernel_rfl) trivial ?_
          by_cases c_30 : b + (opLen (xs.getD i op0)) > 1099511627776
          · refine XL_run 5 [(57, .eq (.bool true))] [(0, .slice A xs.length c), (7, .int .i64 (b + (opLen (xs.getD i op0)))), (8, .int .i64 (r + (opLen (xs.getD i op0)))), (9, .int .i64 (i : Int)), (61, .bool true)] w_12 [Value.bool (decide (b + (opLen (xs.getD i op0)) > 1099511627776)) = Value.bool true] (by kernel_rfl) ⟨congrArg Value.bool (decide_eq_true (c_30)), trivial⟩ ?_
            refine XL_nil ?_
            refine X_cond true rfl ?_
            refine X_seq ?_
            refine X_region ?_
            refine XL_run 3 [] [(2, .int .i64 0), (3, .int .i64 0), (4, .int .i64 11)] w_12 [] (by kernel_rfl) trivial ?_
            refine XL_nil ?_
            refine X_ret ?_
            refine RX.ret_ok (P := Tryd.prog) (fn := Tryd.f21) (N := 64) (R := R_) [.int .i64 0, .int .i64 0, .int .i64 11] (by kernel_rfl) (hR_ _ _ ?_)
            rw [if_pos (by omega)] at hob
            rw [if_neg (by omega)] at hor
            rw [hob] at hst1
            rw [hor] at hst2
            rw [lenP_long hbe (by unfold sB sR at *; omega)]
            exact ⟨rfl, (bt HB hb_13)⟩
          · refine XL_run 3 [(57, .eq (.bool false))] [(0, .slice A xs.length c), (7, .int .i64 (b + (opLen (xs.getD i op0)))), (8, .int .i64 (r + (opLen (xs.getD i op0)))), (9, .int .i64 (i : Int)), (58, .bool false), (59, .int .i64 (r + (opLen (xs.getD i op0))))] w_12 [Value.bool (decide (b + (opLen (xs.getD i op0)) > 1099511627776)) = Value.bool false] (by kernel_rfl) ⟨congrArg Value.bool (decide_eq_false (c_30)), trivial⟩ ?_
            by_cases c_31 : r + (opLen (xs.getD i op0)) > 1099511627776
            · refine XL_run 2 [(60, .eq (.bool true))] [(0, .slice A xs.length c), (7, .int .i64 (b + (opLen (xs.getD i op0)))), (8, .int .i64 (r + (opLen (xs.getD i op0)))), (9, .int .i64 (i : Int)), (61, .bool true)] w_12 [Value.bool (decide (r + (opLen (xs.getD i op0)) > 1099511627776)) = Value.bool true] (by kernel_rfl) ⟨congrArg Value.bool (decide_eq_true (c_31)), trivial⟩ ?_
              refine XL_nil ?_
              refine X_cond true rfl ?_
              refine X_seq ?_
              refine X_region ?_
              refine XL_run 3 [] [(2, .int .i64 0), (3, .int .i64 0), (4, .int .i64 11)] w_12 [] (by kernel_rfl) trivial ?_
              refine XL_nil ?_
              refine X_ret ?_
              refine RX.ret_ok (P := Tryd.prog) (fn := Tryd.f21) (N := 64) (R := R_) [.int .i64 0, .int .i64 0, .int .i64 11] (by kernel_rfl) (hR_ _ _ ?_)
              rw [if_pos (by omega)] at hob
              rw [if_neg (by omega)] at hor
              rw [hob] at hst1
              rw [hor] at hst2
              rw [lenP_long hbe (by unfold sB sR at *; omega)]
              exact ⟨rfl, (bt HB hb_13)⟩
            · refine XL_run 2 [(60, .eq (.bool false))] [(0, .slice A xs.length c), (7, .int .i64 (b + (opLen (xs.getD i op0)))), (8, .int .i64 (r + (opLen (xs.getD i op0)))), (9, .int .i64 (i : Int)), (61, .bool false)] w_12 [Value.bool (decide (r + (opLen (xs.getD i op0)) > 1099511627776)) = Value.bool false] (by kernel_rfl) ⟨congrArg Value.bool (decide_eq_false (c_31)), trivial⟩ ?_
              refine XL_nil ?_
              refine X_cond false rfl ?_
              refine X_skip ?_
              refine X_region ?_
              refine XL_run 3 [(24, .eq (.int .i64 ((i : Int) + 1)))] [(0, .slice A xs.length c), (7, .int .i64 (b + (opLen (xs.getD i op0)))), (8, .int .i64 (r + (opLen (xs.getD i op0)))), (9, .int .i64 ((i : Int) + 1))] w_12 [Value.int .i64 (IntKind.i64.wrap ((i : Int) + 1)) = Value.int .i64 ((i : Int) + 1)] (by kernel_rfl) ⟨wr_i64 (by omega) (by omega), trivial⟩ ?_
              refine XL_nil ?_
              refine ⟨(i + 1, b + (opLen (xs.getD i op0)), r + (opLen (xs.getD i op0))), by kernel_rfl, ?_, ?_⟩
              · rw [if_pos (by omega)] at hob
                rw [if_neg (by omega)] at hor
                rw [hob] at hst1
                rw [hor] at hst2
                exact ⟨by omega, by unfold sB at *; omega, by unfold sR at *; omega, by omega, by omega, (bt HB hb_13)⟩
              · (try dsimp only); omega
      · refine XL_run 4 [(35, .eq (.bool false))] [(0, .slice A xs.length c), (7, .int .i64 b), (8, .int .i64 r), (9, .int .i64 (i : Int)), (10, .int .i64 (opLen (xs.getD i op0))), (36, .bool false), (37, .slice A xs.length c), (38, .int .i64 (i : Int))] w_12 [Value.bool ((xs.getD i op0).kind == 3) = Value.bool false] (by kernel_rfl) ⟨congrArg Value.bool (beq_eq_false_iff_ne.2 (c_21)), trivial⟩ ?_
        obtain ⟨ad_32, B_35, c_36, ha_33, hc_34, hl_37, hC_38⟩ := Kd.atOp (Kd.C_below hx (bt HB hb_13)) (i := (i : Int)) (by omega) (by omega)
        replace hc_34 : CellsAt w_12 (ad_32.add ((i : Int).toNat * 7)) [.int .i64 ((xs.getD i op0).kind), .string ((xs.getD i op0).text), .int .i64 ((xs.getD i op0).vk), .int .i64 ((xs.getD i op0).vn), .string ((xs.getD i op0).vt), .int .i64 ((xs.getD i op0).count), .slice B_35 ((xs.getD i op0).attrs.length) c_36] := hc_34
        replace hl_37 : (xs.getD i op0).attrs.length ≤ c_36 := hl_37
        replace hC_38 : kAttr.C w_12 B_35 ((xs.getD i op0).attrs.length) (xs.getD i op0).attrs := hC_38
        refine XL_run 3 [(39, .idx ad_32), (41, .load (.int .i64 ((xs.getD i op0).kind)))] [(0, .slice A xs.length c), (7, .int .i64 b), (8, .int .i64 r), (9, .int .i64 (i : Int)), (10, .int .i64 (opLen (xs.getD i op0))), (36, .bool false), (41, .int .i64 ((xs.getD i op0).kind))] w_12 [A = some ad_32, (0 : Int) ≤ (i : Int), (i : Int) < (xs.length : Int), LoadsAs Tryd.prog 3 (ad_32.add ((i : Int).toNat * 7)) (.int .i64 ((xs.getD i op0).kind)) w_12] (by kernel_rfl) ⟨ha_33, (by omega), (by omega), loads1 rfl (elem_cell hc_34 0 _ rfl), trivial⟩ ?_
        by_cases c_39 : (xs.getD i op0).kind = 4
        · refine XL_run 2 [(42, .eq (.bool true))] [(0, .slice A xs.length c), (7, .int .i64 b), (8, .int .i64 r), (9, .int .i64 (i : Int)), (10, .int .i64 (opLen (xs.getD i op0))), (43, .bool true)] w_12 [Value.bool ((xs.getD i op0).kind == 4) = Value.bool true] (by kernel_rfl) ⟨congrArg Value.bool (beq_iff_eq.2 (c_39)), trivial⟩ ?_
          refine XL_nil ?_
          refine X_cond true rfl ?_
          refine X_region ?_
          refine XL_run 4 [(46, .eq (.int .i64 (b + (opLen (xs.getD i op0)))))] [(0, .slice A xs.length c), (7, .int .i64 (b + (opLen (xs.getD i op0)))), (8, .int .i64 r), (9, .int .i64 (i : Int)), (10, .int .i64 (opLen (xs.getD i op0)))] w_12 [Value.int .i64 (IntKind.i64.wrap (b + (opLen (xs.getD i op0)))) = Value.int .i64 (b + (opLen (xs.getD i op0)))] (by kernel_rfl) ⟨wr_i64 (by omega) (by omega), trivial⟩ ?_
          refine XL_nil ?_
          refine X_seq ?_
          refine X_seq ?_
          refine X_region ?_
          refine XL_run 2 [] [(0, .slice A xs.length c), (7, .int .i64 (b + (opLen (xs.getD i op0)))), (8, .int .i64 r), (9, .int .i64 (i : Int)), (10, .int .i64 (opLen (xs.getD i op0))), (47, .slice A xs.length c), (48, .int .i64 (i : Int))] w_12 [] (by kernel_rfl) trivial ?_
          obtain ⟨ad_40, B_43, c_44, ha_41, hc_42, hl_45, hC_46⟩ := Kd.atOp (Kd.C_below hx (bt HB hb_13)) (i := (i : Int)) (by omega) (by omega)
          replace hc_42 : CellsAt w_12 (ad_40.add ((i : Int).toNat * 7)) [.int .i64 ((xs.getD i op0).kind), .string ((xs.getD i op0).text), .int .i64 ((xs.getD i op0).vk), .int .i64 ((xs.getD i op0).vn), .string ((xs.getD i op0).vt), .int .i64 ((xs.getD i op0).count), .slice B_43 ((xs.getD i op0).attrs.length) c_44] := hc_42
          replace hl_45 : (xs.getD i op0).attrs.length ≤ c_44 := hl_45
          replace hC_46 : kAttr.C w_12 B_43 ((xs.getD i op0).attrs.length) (xs.getD i op0).attrs := hC_46
          refine XL_run 4 [(49, .idx ad_40), (51, .load (.int .i64 ((xs.getD i op0).kind))), (52, .eq (.bool false))] [(0, .slice A xs.length c), (7, .int .i64 (b + (opLen (xs.getD i op0)))), (8, .int .i64 r), (9, .int .i64 (i : Int)), (10, .int .i64 (opLen (xs.getD i op0))), (52, .bool false)] w_12 [A = some ad_40, (0 : Int) ≤ (i : Int), (i : Int) < (xs.length : Int), LoadsAs Tryd.prog 3 (ad_40.add ((i : Int).toNat * 7)) (.int .i64 ((xs.getD i op0).kind)) w_12, Value.bool ((xs.getD i op0).kind != 4) = Value.bool false] (by kernel_rfl) ⟨ha_41, (by omega), (by omega), loads1 rfl (elem_cell hc_42 0 _ rfl), congrArg Value.bool (bneF (c_39)), trivial⟩ ?_
          refine XL_nil ?_
          refine X_cond false rfl ?_
          refine X_skip ?_
          refine X_seq ?_
          refine X_region ?_
          refine XL_run 1 [] [(0, .slice A xs.length c), (7, .int .i64 (b + (opLen (xs.getD i op0)))), (8, .int .i64 r), (9, .int .i64 (i : Int)), (56, .int .i64 (b + (opLen (xs.getD i op0))))] w_12 [] (by kernel_rfl) trivial ?_
          by_cases c_47 : b + (opLen (xs.getD i op0)) > 1099511627776
          · refine XL_run 5 [(57, .eq (.bool true))] [(0, .slice A xs.length c), (7, .int .i64 (b + (opLen (xs.getD i op0)))), (8, .int .i64 r), (9, .int .i64 (i : Int)), (61, .bool true)] w_12 [Value.bool (decide (b + (opLen (xs.getD i op0)) > 1099511627776)) = Value.bool true] (by kernel_rfl) ⟨congrArg Value.bool (decide_eq_true (c_47)), trivial⟩ ?_
            refine XL_nil ?_
            refine X_cond true rfl ?_
            refine X_seq ?_
            refine X_region ?_
            refine XL_run 3 [] [(2, .int .i64 0), (3, .int .i64 0), (4, .int .i64 11)] w_12 [] (by kernel_rfl) trivial ?_
            refine XL_nil ?_
            refine X_ret ?_
            refine RX.ret_ok (P := Tryd.prog) (fn := Tryd.f21) (N := 64) (R := R_) [.int .i64 0, .int .i64 0, .int .i64 11] (by kernel_rfl) (hR_ _ _ ?_)
            rw [if_pos (by omega)] at hob
            rw [if_pos (by omega)] at hor
            rw [hob] at hst1
            rw [hor] at hst2
            rw [lenP_long hbe (by unfold sB sR at *; omega)]
            exact ⟨rfl, (bt HB hb_13)⟩
          · refine XL_run 3 [(57, .eq (.bool false))] [(0, .slice A xs.length c), (7, .int .i64 (b + (opLen (xs.getD i op0)))), (8, .int .i64 r), (9, .int .i64 (i : Int)), (58, .bool false), (59, .int .i64 r)] w_12 [Value.bool (decide (b + (opLen (xs.getD i op0)) > 1099511627776)) = Value.bool false] (by kernel_rfl) ⟨congrArg Value.bool (decide_eq_false (c_47)), trivial⟩ ?_
            by_cases c_48 : r > 1099511627776
            · refine XL_run 2 [(60, .eq (.bool true))] [(0, .slice A xs.length c), (7, .int .i64 (b + (opLen (xs.getD i op0)))), (8, .int .i64 r), (9, .int .i64 (i : Int)), (61, .bool true)] w_12 [Value.bool (decide (r > 1099511627776)) = Value.bool true] (by kernel_rfl) ⟨congrArg Value.bool (decide_eq_true (c_48)), trivial⟩ ?_
              refine XL_nil ?_
              refine X_cond true rfl ?_
              refine X_seq ?_
              refine X_region ?_
              refine XL_run 3 [] [(2, .int .i64 0), (3, .int .i64 0), (4, .int .i64 11)] w_12 [] (by kernel_rfl) trivial ?_
              refine XL_nil ?_
              refine X_ret ?_
              refine RX.ret_ok (P := Tryd.prog) (fn := Tryd.f21) (N := 64) (R := R_) [.int .i64 0, .int .i64 0, .int .i64 11] (by kernel_rfl) (hR_ _ _ ?_)
              rw [if_pos (by omega)] at hob
              rw [if_pos (by omega)] at hor
              rw [hob] at hst1
              rw [hor] at hst2
              rw [lenP_long hbe (by unfold sB sR at *; omega)]
              exact ⟨rfl, (bt HB hb_13)⟩
            · refine XL_run 2 [(60, .eq (.bool false))] [(0, .slice A xs.length c), (7, .int .i64 (b + (opLen (xs.getD i op0)))), (8, .int .i64 r), (9, .int .i64 (i : Int)), (61, .bool false)] w_12 [Value.bool (decide (r > 1099511627776)) = Value.bool false] (by kernel_rfl) ⟨congrArg Value.bool (decide_eq_false (c_48)), trivial⟩ ?_
              refine XL_nil ?_
              refine X_cond false rfl ?_
              refine X_skip ?_
              refine X_region ?_
              refine XL_run 3 [(24, .eq (.int .i64 ((i : Int) + 1)))] [(0, .slice A xs.length c), (7, .int .i64 (b + (opLen (xs.getD i op0)))), (8, .int .i64 r), (9, .int .i64 ((i : Int) + 1))] w_12 [Value.int .i64 (IntKind.i64.wrap ((i : Int) + 1)) = Value.int .i64 ((i : Int) + 1)] (by kernel_rfl) ⟨wr_i64 (by omega) (by omega), trivial⟩ ?_
              refine XL_nil ?_
              refine ⟨(i + 1, b + (opLen (xs.getD i op0)), r), by kernel_rfl, ?_, ?_⟩
              · rw [if_pos (by omega)] at hob
                rw [if_pos (by omega)] at hor
                rw [hob] at hst1
                rw [hor] at hst2
                exact ⟨by omega, by unfold sB at *; omega, by unfold sR at *; omega, by omega, by omega, (bt HB hb_13)⟩
              · (try dsimp only); omega
        · refine XL_run 2 [(42, .eq (.bool false))] [(0, .slice A xs.length c), (7, .int .i64 b), (8, .int .i64 r), (9, .int .i64 (i : Int)), (10, .int .i64 (opLen (xs.getD i op0))), (43, .bool false)] w_12 [Value.bool ((xs.getD i op0).kind == 4) = Value.bool false] (by kernel_rfl) ⟨congrArg Value.bool (beq_eq_false_iff_ne.2 (c_39)), trivial⟩ ?_
          refine XL_nil ?_
          refine X_cond false rfl ?_
          refine X_skip ?_
          refine X_seq ?_
          refine X_seq ?_
          refine X_region ?_
          refine XL_run 2 [] [(0, .slice A xs.length c), (7, .int .i64 b), (8, .int .i64 r), (9, .int .i64 (i : Int)), (10, .int .i64 (opLen (xs.getD i op0))), (47, .slice A xs.length c), (48, .int .i64 (i : Int))] w_12 [] (by kernel_rfl) trivial ?_
          obtain ⟨ad_49, B_52, c_53, ha_50, hc_51, hl_54, hC_55⟩ := Kd.atOp (Kd.C_below hx (bt HB hb_13)) (i := (i : Int)) (by omega) (by omega)
          replace hc_51 : CellsAt w_12 (ad_49.add ((i : Int).toNat * 7)) [.int .i64 ((xs.getD i op0).kind), .string ((xs.getD i op0).text), .int .i64 ((xs.getD i op0).vk), .int .i64 ((xs.getD i op0).vn), .string ((xs.getD i op0).vt), .int .i64 ((xs.getD i op0).count), .slice B_52 ((xs.getD i op0).attrs.length) c_53] := hc_51
          replace hl_54 : (xs.getD i op0).attrs.length ≤ c_53 := hl_54
          replace hC_55 : kAttr.C w_12 B_52 ((xs.getD i op0).attrs.length) (xs.getD i op0).attrs := hC_55
          refine XL_run 4 [(49, .idx ad_49), (51, .load (.int .i64 ((xs.getD i op0).kind))), (52, .eq (.bool true))] [(0, .slice A xs.length c), (7, .int .i64 b), (8, .int .i64 r), (9, .int .i64 (i : Int)), (10, .int .i64 (opLen (xs.getD i op0))), (52, .bool true)] w_12 [A = some ad_49, (0 : Int) ≤ (i : Int), (i : Int) < (xs.length : Int), LoadsAs Tryd.prog 3 (ad_49.add ((i : Int).toNat * 7)) (.int .i64 ((xs.getD i op0).kind)) w_12, Value.bool ((xs.getD i op0).kind != 4) = Value.bool true] (by kernel_rfl) ⟨ha_50, (by omega), (by omega), loads1 rfl (elem_cell hc_51 0 _ rfl), congrArg Value.bool (bneT (c_39)), trivial⟩ ?_
          refine XL_nil ?_
          refine X_cond true rfl ?_
          refine X_region ?_
          refine XL_run 4 [(55, .eq (.int .i64 (r + (opLen (xs.getD i op0)))))] [(0, .slice A xs.length c), (7, .int .i64 b), (8, .int .i64 (r + (opLen (xs.getD i op0)))), (9, .int .i64 (i : Int))] w_12 [Value.int .i64 (IntKind.i64.wrap (r + (opLen (xs.getD i op0)))) = Value.int .i64 (r + (opLen (xs.getD i op0)))] (by kernel_rfl) ⟨wr_i64 (by omega) (by omega), trivial⟩ ?_
          refine XL_nil ?_
          refine X_seq ?_
          refine X_region ?_
          refine XL_run 1 [] [(0, .slice A xs.length c), (7, .int .i64 b), (8, .int .i64 (r + (opLen (xs.getD i op0)))), (9, .int .i64 (i : Int)), (56, .int .i64 b)] w_12 [] (by kernel_rfl) trivial ?_
          by_cases c_56 : b > 1099511627776
          · refine XL_run 5 [(57, .eq (.bool true))] [(0, .slice A xs.length c), (7, .int .i64 b), (8, .int .i64 (r + (opLen (xs.getD i op0)))), (9, .int .i64 (i : Int)), (61, .bool true)] w_12 [Value.bool (decide (b > 1099511627776)) = Value.bool true] (by kernel_rfl) ⟨congrArg Value.bool (decide_eq_true (c_56)), trivial⟩ ?_
            refine XL_nil ?_
            refine X_cond true rfl ?_
            refine X_seq ?_
            refine X_region ?_
            refine XL_run 3 [] [(2, .int .i64 0), (3, .int .i64 0), (4, .int .i64 11)] w_12 [] (by kernel_rfl) trivial ?_
            refine XL_nil ?_
            refine X_ret ?_
            refine RX.ret_ok (P := Tryd.prog) (fn := Tryd.f21) (N := 64) (R := R_) [.int .i64 0, .int .i64 0, .int .i64 11] (by kernel_rfl) (hR_ _ _ ?_)
            rw [if_neg (by omega)] at hob
            rw [if_neg (by omega)] at hor
            rw [hob] at hst1
            rw [hor] at hst2
            rw [lenP_long hbe (by unfold sB sR at *; omega)]
            exact ⟨rfl, (bt HB hb_13)⟩
          · refine XL_run 3 [(57, .eq (.bool false))] [(0, .slice A xs.length c), (7, .int .i64 b), (8, .int .i64 (r + (opLen (xs.getD i op0)))), (9, .int .i64 (i : Int)), (58, .bool false), (59, .int .i64 (r + (opLen (xs.getD i op0))))] w_12 [Value.bool (decide (b > 1099511627776)) = Value.bool false] (by kernel_rfl) ⟨congrArg Value.bool (decide_eq_false (c_56)), trivial⟩ ?_
            by_cases c_57 : r + (opLen (xs.getD i op0)) > 1099511627776
            · refine XL_run 2 [(60, .eq (.bool true))] [(0, .slice A xs.length c), (7, .int .i64 b), (8, .int .i64 (r + (opLen (xs.getD i op0)))), (9, .int .i64 (i : Int)), (61, .bool true)] w_12 [Value.bool (decide (r + (opLen (xs.getD i op0)) > 1099511627776)) = Value.bool true] (by kernel_rfl) ⟨congrArg Value.bool (decide_eq_true (c_57)), trivial⟩ ?_
              refine XL_nil ?_
              refine X_cond true rfl ?_
              refine X_seq ?_
              refine X_region ?_
              refine XL_run 3 [] [(2, .int .i64 0), (3, .int .i64 0), (4, .int .i64 11)] w_12 [] (by kernel_rfl) trivial ?_
              refine XL_nil ?_
              refine X_ret ?_
              refine RX.ret_ok (P := Tryd.prog) (fn := Tryd.f21) (N := 64) (R := R_) [.int .i64 0, .int .i64 0, .int .i64 11] (by kernel_rfl) (hR_ _ _ ?_)
              rw [if_neg (by omega)] at hob
              rw [if_neg (by omega)] at hor
              rw [hob] at hst1
              rw [hor] at hst2
              rw [lenP_long hbe (by unfold sB sR at *; omega)]
              exact ⟨rfl, (bt HB hb_13)⟩
            · refine XL_run 2 [(60, .eq (.bool false))] [(0, .slice A xs.length c), (7, .int .i64 b), (8, .int .i64 (r + (opLen (xs.getD i op0)))), (9, .int .i64 (i : Int)), (61, .bool false)] w_12 [Value.bool (decide (r + (opLen (xs.getD i op0)) > 1099511627776)) = Value.bool false] (by kernel_rfl) ⟨congrArg Value.bool (decide_eq_false (c_57)), trivial⟩ ?_
              refine XL_nil ?_
              refine X_cond false rfl ?_
              refine X_skip ?_
              refine X_region ?_
              refine XL_run 3 [(24, .eq (.int .i64 ((i : Int) + 1)))] [(0, .slice A xs.length c), (7, .int .i64 b), (8, .int .i64 (r + (opLen (xs.getD i op0)))), (9, .int .i64 ((i : Int) + 1))] w_12 [Value.int .i64 (IntKind.i64.wrap ((i : Int) + 1)) = Value.int .i64 ((i : Int) + 1)] (by kernel_rfl) ⟨wr_i64 (by omega) (by omega), trivial⟩ ?_
              refine XL_nil ?_
              refine ⟨(i + 1, b, r + (opLen (xs.getD i op0))), by kernel_rfl, ?_, ?_⟩
              · rw [if_neg (by omega)] at hob
                rw [if_neg (by omega)] at hor
                rw [hob] at hst1
                rw [hor] at hst2
                exact ⟨by omega, by unfold sB at *; omega, by unfold sR at *; omega, by omega, by omega, (bt HB hb_13)⟩
              · (try dsimp only); omega
    · refine XL_run 1 [(22, .eq (.bool false))] [(0, .slice A xs.length c), (7, .int .i64 b), (8, .int .i64 r), (9, .int .i64 (i : Int)), (22, .bool false)] wl [Value.bool (decide ((i : Int) < (xs.length : Int))) = Value.bool false] (by kernel_rfl) ⟨congrArg Value.bool (decide_eq_false (c_4)), trivial⟩ ?_
      refine XL_nil ?_
      refine X_cond false rfl ?_
      refine X_exit ?_
      refine X_seq ?_
      refine X_region ?_
      refine XL_run 5 [] [(2, .int .i64 b), (3, .int .i64 r), (4, .int .i64 0)] wl [] (by kernel_rfl) trivial ?_
      refine XL_nil ?_
      refine X_ret ?_
      refine RX.ret_ok (P := Tryd.prog) (fn := Tryd.f21) (N := 64) (R := R_) [.int .i64 b, .int .i64 r, .int .i64 0] (by kernel_rfl) (hR_ _ _ ?_)
      have hxi : xs.take i = xs := List.take_of_length_le (by omega)
      rw [hxi] at hbb hrr
      rw [lenP_ok hbe (by omega), ← hbb, ← hrr]
      exact ⟨rfl, HB⟩
  · refine XL_run 1 [(17, .eq (.bool true))] [(0, .slice A xs.length c), (6, .int .i64 (badE xs : Int)), (17, .bool true)] w_1 [Value.bool ((badE xs : Int) != 0) = Value.bool true] (by kernel_rfl) ⟨congrArg Value.bool (bneT (c_3)), trivial⟩ ?_
    refine XL_nil ?_
    refine X_cond true rfl ?_
    refine X_seq ?_
    refine X_region ?_
    refine XL_run 4 [] [(2, .int .i64 0), (3, .int .i64 0), (4, .int .i64 (badE xs : Int))] w_1 [] (by kernel_rfl) trivial ?_
    refine XL_nil ?_
    refine X_ret ?_
    refine RX.ret_ok (P := Tryd.prog) (fn := Tryd.f21) (N := 64) (R := R_) [.int .i64 0, .int .i64 0, .int .i64 (badE xs : Int)] (by kernel_rfl) (hR_ _ _ ?_)
    rw [lenP_bad (show badE xs ≠ 0 by omega)]
    exact ⟨rfl, hb_2⟩
theorem apart_any (a b : OpA) (A B : Option Addr) (c d : Nat) (w : World) (hA : kAttr.C w A a.attrs.length a.attrs) (hB : kAttr.C w B b.attrs.length b.attrs) : Calls Tryd.prog 73 #[.agg #[.int .i64 a.kind, .string a.text, .int .i64 a.vk, .int .i64 a.vn, .string a.vt, .int .i64 a.count, .slice A a.attrs.length c], .agg #[.int .i64 b.kind, .string b.text, .int .i64 b.vk, .int .i64 b.vn, .string b.vt, .int .i64 b.count, .slice B b.attrs.length d]] w fun e w' => e = .returned (.bool (fitsP a b)) ∧ Below w.heap.size w w' := by
  refine RX.enter Tryd.func73 rfl 27 rfl [(0, .agg #[.int .i64 a.kind, .string a.text, .int .i64 a.vk, .int .i64 a.vn, .string a.vt, .int .i64 a.count, .slice A a.attrs.length c]), (1, .agg #[.int .i64 b.kind, .string b.text, .int .i64 b.vk, .int .i64 b.vn, .string b.vt, .int .i64 b.count, .slice B b.attrs.length d])] rfl (by kernel_rfl) (fun R_ hR_ => ?_)
  refine X_seq ?_
  refine X_region ?_
  refine XL_run 1 [] [(1, .agg #[.int .i64 b.kind, .string b.text, .int .i64 b.vk, .int .i64 b.vn, .string b.vt, .int .i64 b.count, .slice B b.attrs.length d]), (2, .pointer (some ⟨w.heap.size, 0, none⟩))] (w.alloc (.cells #[.int .i64 a.kind, .string a.text, .int .i64 a.vk, .int .i64 a.vn, .string a.vt, .int .i64 a.count, .slice A a.attrs.length c] 33)) [] (by kernel_rfl) trivial ?_
  obtain ⟨w_1, hw_5, hb_2, hk_3, hz_4⟩ := new_world w #[.int .i64 a.kind, .string a.text, .int .i64 a.vk, .int .i64 a.vn, .string a.vt, .int .i64 a.count, .slice A a.attrs.length c] 33
  rw [hw_5]
  refine XL_run 1 [] [(2, .pointer (some ⟨w.heap.size, 0, none⟩)), (3, .pointer (some ⟨w_1.heap.size, 0, none⟩))] (w_1.alloc (.cells #[.int .i64 b.kind, .string b.text, .int .i64 b.vk, .int .i64 b.vn, .string b.vt, .int .i64 b.count, .slice B b.attrs.length d] 33)) [] (by kernel_rfl) trivial ?_
  obtain ⟨w_6, hw_10, hb_7, hk_8, hz_9⟩ := new_world w_1 #[.int .i64 b.kind, .string b.text, .int .i64 b.vk, .int .i64 b.vn, .string b.vt, .int .i64 b.count, .slice B b.attrs.length d] 33
  rw [hw_10]
  refine XL_run 1 [] [(2, .pointer (some ⟨w.heap.size, 0, none⟩)), (3, .pointer (some ⟨w_1.heap.size, 0, none⟩))] w_6 [] (by kernel_rfl) trivial ?_
  refine XL_nil ?_
  refine X_seq ?_
  refine X_seq ?_
  refine X_region ?_
  refine XL_run 2 [(6, .load (.int .i64 a.kind))] [(2, .pointer (some ⟨w.heap.size, 0, none⟩)), (3, .pointer (some ⟨w_1.heap.size, 0, none⟩)), (6, .int .i64 a.kind)] w_6 [LoadsAs Tryd.prog 3 (⟨w.heap.size, 0, none⟩) (.int .i64 a.kind) w_6] (by kernel_rfl) ⟨loads1 rfl (Blk.cell (Blk.below hk_3 hb_7) 0 _ rfl), trivial⟩ ?_
  by_cases c_11 : a.kind = 4
  · refine XL_run 1 [(7, .eq (.bool true))] [(2, .pointer (some ⟨w.heap.size, 0, none⟩)), (3, .pointer (some ⟨w_1.heap.size, 0, none⟩)), (7, .bool true)] w_6 [Value.bool (a.kind == 4) = Value.bool true] (by kernel_rfl) ⟨congrArg Value.bool (beq_iff_eq.2 (c_11)), trivial⟩ ?_
    refine XL_nil ?_
    refine X_cond true rfl ?_
    refine X_seq ?_
    refine X_region ?_
    refine XL_run 2 [(9, .load (.int .i64 b.kind))] [(9, .int .i64 b.kind)] w_6 [LoadsAs Tryd.prog 3 (⟨w_1.heap.size, 0, none⟩) (.int .i64 b.kind) w_6] (by kernel_rfl) ⟨loads1 rfl (Blk.cell hk_8 0 _ rfl), trivial⟩ ?_
    by_cases c_12 : b.kind = 3
    · refine XL_run 2 [(10, .eq (.bool true))] [(4, .bool true)] w_6 [Value.bool (b.kind == 3) = Value.bool true] (by kernel_rfl) ⟨congrArg Value.bool (beq_iff_eq.2 (c_12)), trivial⟩ ?_
      refine XL_nil ?_
      refine X_ret ?_
      refine RX.ret_ok (P := Tryd.prog) (fn := Tryd.f73) (N := 27) (R := R_) [.bool true] (by kernel_rfl) (hR_ _ _ ?_)
      rw [show fitsP a b = true from by unfold fitsP; simp_all]
      exact ⟨rfl, (bt hb_2 hb_7)⟩
    · refine XL_run 2 [(10, .eq (.bool false))] [(4, .bool false)] w_6 [Value.bool (b.kind == 3) = Value.bool false] (by kernel_rfl) ⟨congrArg Value.bool (beq_eq_false_iff_ne.2 (c_12)), trivial⟩ ?_
      refine XL_nil ?_
      refine X_ret ?_
      refine RX.ret_ok (P := Tryd.prog) (fn := Tryd.f73) (N := 27) (R := R_) [.bool false] (by kernel_rfl) (hR_ _ _ ?_)
      rw [show fitsP a b = false from by unfold fitsP; simp_all]
      exact ⟨rfl, (bt hb_2 hb_7)⟩
  · refine XL_run 1 [(7, .eq (.bool false))] [(2, .pointer (some ⟨w.heap.size, 0, none⟩)), (3, .pointer (some ⟨w_1.heap.size, 0, none⟩)), (7, .bool false)] w_6 [Value.bool (a.kind == 4) = Value.bool false] (by kernel_rfl) ⟨congrArg Value.bool (beq_eq_false_iff_ne.2 (c_11)), trivial⟩ ?_
    refine XL_nil ?_
    refine X_cond false rfl ?_
    refine X_skip ?_
    refine X_seq ?_
    refine X_seq ?_
    refine X_region ?_
    refine XL_run 4 [(12, .load (.int .i64 a.kind)), (14, .load (.int .i64 b.kind))] [(2, .pointer (some ⟨w.heap.size, 0, none⟩)), (3, .pointer (some ⟨w_1.heap.size, 0, none⟩)), (12, .int .i64 a.kind), (14, .int .i64 b.kind)] w_6 [LoadsAs Tryd.prog 3 (⟨w.heap.size, 0, none⟩) (.int .i64 a.kind) w_6, LoadsAs Tryd.prog 3 (⟨w_1.heap.size, 0, none⟩) (.int .i64 b.kind) w_6] (by kernel_rfl) ⟨loads1 rfl (Blk.cell (Blk.below hk_3 hb_7) 0 _ rfl), loads1 rfl (Blk.cell hk_8 0 _ rfl), trivial⟩ ?_
    by_cases c_13 : a.kind = b.kind
    · refine XL_run 4 [(15, .eq (.bool false)), (18, .load (.int .i64 a.kind))] [(2, .pointer (some ⟨w.heap.size, 0, none⟩)), (3, .pointer (some ⟨w_1.heap.size, 0, none⟩)), (16, .bool false), (18, .int .i64 a.kind)] w_6 [Value.bool (a.kind != b.kind) = Value.bool false, LoadsAs Tryd.prog 3 (⟨w.heap.size, 0, none⟩) (.int .i64 a.kind) w_6] (by kernel_rfl) ⟨congrArg Value.bool (bneF (c_13)), loads1 rfl (Blk.cell (Blk.below hk_3 hb_7) 0 _ rfl), trivial⟩ ?_
      by_cases c_14 : a.kind = 2
      · refine XL_run 2 [(19, .eq (.bool true))] [(2, .pointer (some ⟨w.heap.size, 0, none⟩)), (3, .pointer (some ⟨w_1.heap.size, 0, none⟩)), (20, .bool true)] w_6 [Value.bool (a.kind == 2) = Value.bool true] (by kernel_rfl) ⟨congrArg Value.bool (beq_iff_eq.2 (c_14)), trivial⟩ ?_
        refine XL_nil ?_
        refine X_cond true rfl ?_
        refine X_seq ?_
        refine X_region ?_
        refine XL_run 1 [] [(4, .bool true)] w_6 [] (by kernel_rfl) trivial ?_
        refine XL_nil ?_
        refine X_ret ?_
        refine RX.ret_ok (P := Tryd.prog) (fn := Tryd.f73) (N := 27) (R := R_) [.bool true] (by kernel_rfl) (hR_ _ _ ?_)
        rw [show fitsP a b = true from by unfold fitsP; simp_all]
        exact ⟨rfl, (bt hb_2 hb_7)⟩
      · refine XL_run 2 [(19, .eq (.bool false))] [(2, .pointer (some ⟨w.heap.size, 0, none⟩)), (3, .pointer (some ⟨w_1.heap.size, 0, none⟩)), (20, .bool false)] w_6 [Value.bool (a.kind == 2) = Value.bool false] (by kernel_rfl) ⟨congrArg Value.bool (beq_eq_false_iff_ne.2 (c_14)), trivial⟩ ?_
        refine XL_nil ?_
        refine X_cond false rfl ?_
        refine X_skip ?_
        refine X_seq ?_
        refine X_region ?_
        refine XL_run 4 [(22, .load (.slice A a.attrs.length c)), (24, .load (.slice B b.attrs.length d))] [(22, .slice A a.attrs.length c), (24, .slice B b.attrs.length d)] w_6 [LoadsAs Tryd.prog 31 (⟨w.heap.size, 6, none⟩) (.slice A a.attrs.length c) w_6, LoadsAs Tryd.prog 31 (⟨w_1.heap.size, 6, none⟩) (.slice B b.attrs.length d) w_6] (by kernel_rfl) ⟨loads1 rfl (Blk.cell (Blk.below hk_3 hb_7) 6 _ rfl), loads1 rfl (Blk.cell hk_8 6 _ rfl), trivial⟩ ?_
        refine XL_call 65 rfl rfl rfl ent65 [.slice A a.attrs.length c, .slice B b.attrs.length d] (by kernel_rfl) (sattrs_any _ _ _ _ a.attrs b.attrs _ (Kd.C_below hA (bt hb_2 hb_7)) (Kd.C_below hB (bt hb_2 hb_7))) ?_
        rintro e w_15 ⟨rfl, hb_16⟩; refine ⟨_, rfl, ?_⟩
        by_cases c_17 : decide (a.attrs = b.attrs) = true
        · rw [show (decide (a.attrs = b.attrs) : Bool) = true from by simpa using c_17]
          refine XL_run 2 [] [(4, .bool false)] w_15 [] (by kernel_rfl) trivial ?_
          refine XL_nil ?_
          refine X_ret ?_
          refine RX.ret_ok (P := Tryd.prog) (fn := Tryd.f73) (N := 27) (R := R_) [.bool false] (by kernel_rfl) (hR_ _ _ ?_)
          rw [show fitsP a b = false from by unfold fitsP; simp_all]
          exact ⟨rfl, (bt (bt hb_2 hb_7) hb_16)⟩
        · rw [show (decide (a.attrs = b.attrs) : Bool) = false from by simpa using c_17]
          refine XL_run 2 [] [(4, .bool true)] w_15 [] (by kernel_rfl) trivial ?_
          refine XL_nil ?_
          refine X_ret ?_
          refine RX.ret_ok (P := Tryd.prog) (fn := Tryd.f73) (N := 27) (R := R_) [.bool true] (by kernel_rfl) (hR_ _ _ ?_)
          rw [show fitsP a b = true from by unfold fitsP; simp_all]
          exact ⟨rfl, (bt (bt hb_2 hb_7) hb_16)⟩
    · refine XL_run 6 [(15, .eq (.bool true))] [(2, .pointer (some ⟨w.heap.size, 0, none⟩)), (3, .pointer (some ⟨w_1.heap.size, 0, none⟩)), (20, .bool true)] w_6 [Value.bool (a.kind != b.kind) = Value.bool true] (by kernel_rfl) ⟨congrArg Value.bool (bneT (c_13)), trivial⟩ ?_
      refine XL_nil ?_
      refine X_cond true rfl ?_
      refine X_seq ?_
      refine X_region ?_
      refine XL_run 1 [] [(4, .bool true)] w_6 [] (by kernel_rfl) trivial ?_
      refine XL_nil ?_
      refine X_ret ?_
      refine RX.ret_ok (P := Tryd.prog) (fn := Tryd.f73) (N := 27) (R := R_) [.bool true] (by kernel_rfl) (hR_ _ _ ?_)
      rw [show fitsP a b = true from by unfold fitsP; simp_all]
      exact ⟨rfl, (bt hb_2 hb_7)⟩
theorem sameOp_any (a b : OpA) (A B : Option Addr) (c d : Nat) (w : World) (hA : kAttr.C w A a.attrs.length a.attrs) (hB : kAttr.C w B b.attrs.length b.attrs) : Calls Tryd.prog 76 #[.agg #[.int .i64 a.kind, .string a.text, .int .i64 a.vk, .int .i64 a.vn, .string a.vt, .int .i64 a.count, .slice A a.attrs.length c], .agg #[.int .i64 b.kind, .string b.text, .int .i64 b.vk, .int .i64 b.vn, .string b.vt, .int .i64 b.count, .slice B b.attrs.length d]] w fun e w' => e = .returned (.bool (opEqP a b)) ∧ Below w.heap.size w w' := by
  refine RX.enter Tryd.func76 rfl 38 rfl [(0, .agg #[.int .i64 a.kind, .string a.text, .int .i64 a.vk, .int .i64 a.vn, .string a.vt, .int .i64 a.count, .slice A a.attrs.length c]), (1, .agg #[.int .i64 b.kind, .string b.text, .int .i64 b.vk, .int .i64 b.vn, .string b.vt, .int .i64 b.count, .slice B b.attrs.length d])] rfl (by kernel_rfl) (fun R_ hR_ => ?_)
  refine X_seq ?_
  refine X_region ?_
  refine XL_run 1 [] [(1, .agg #[.int .i64 b.kind, .string b.text, .int .i64 b.vk, .int .i64 b.vn, .string b.vt, .int .i64 b.count, .slice B b.attrs.length d]), (2, .pointer (some ⟨w.heap.size, 0, none⟩))] (w.alloc (.cells #[.int .i64 a.kind, .string a.text, .int .i64 a.vk, .int .i64 a.vn, .string a.vt, .int .i64 a.count, .slice A a.attrs.length c] 33)) [] (by kernel_rfl) trivial ?_
  obtain ⟨w_1, hw_5, hb_2, hk_3, hz_4⟩ := new_world w #[.int .i64 a.kind, .string a.text, .int .i64 a.vk, .int .i64 a.vn, .string a.vt, .int .i64 a.count, .slice A a.attrs.length c] 33
  rw [hw_5]
  refine XL_run 1 [] [(2, .pointer (some ⟨w.heap.size, 0, none⟩)), (3, .pointer (some ⟨w_1.heap.size, 0, none⟩))] (w_1.alloc (.cells #[.int .i64 b.kind, .string b.text, .int .i64 b.vk, .int .i64 b.vn, .string b.vt, .int .i64 b.count, .slice B b.attrs.length d] 33)) [] (by kernel_rfl) trivial ?_
  obtain ⟨w_6, hw_10, hb_7, hk_8, hz_9⟩ := new_world w_1 #[.int .i64 b.kind, .string b.text, .int .i64 b.vk, .int .i64 b.vn, .string b.vt, .int .i64 b.count, .slice B b.attrs.length d] 33
  rw [hw_10]
  refine XL_run 1 [] [(2, .pointer (some ⟨w.heap.size, 0, none⟩)), (3, .pointer (some ⟨w_1.heap.size, 0, none⟩))] w_6 [] (by kernel_rfl) trivial ?_
  refine XL_nil ?_
  refine X_seq ?_
  refine X_region ?_
  refine XL_run 4 [(6, .load (.int .i64 a.kind)), (8, .load (.int .i64 b.kind))] [(2, .pointer (some ⟨w.heap.size, 0, none⟩)), (3, .pointer (some ⟨w_1.heap.size, 0, none⟩)), (6, .int .i64 a.kind), (8, .int .i64 b.kind)] w_6 [LoadsAs Tryd.prog 3 (⟨w.heap.size, 0, none⟩) (.int .i64 a.kind) w_6, LoadsAs Tryd.prog 3 (⟨w_1.heap.size, 0, none⟩) (.int .i64 b.kind) w_6] (by kernel_rfl) ⟨loads1 rfl (Blk.cell (Blk.below hk_3 hb_7) 0 _ rfl), loads1 rfl (Blk.cell hk_8 0 _ rfl), trivial⟩ ?_
  by_cases c_11 : a.kind = b.kind
  · refine XL_run 6 [(9, .eq (.bool true)), (12, .load (.string a.text)), (14, .load (.string b.text))] [(2, .pointer (some ⟨w.heap.size, 0, none⟩)), (3, .pointer (some ⟨w_1.heap.size, 0, none⟩)), (10, .bool true), (12, .string a.text), (14, .string b.text)] w_6 [Value.bool (a.kind == b.kind) = Value.bool true, LoadsAs Tryd.prog 9 (⟨w.heap.size, 1, none⟩) (.string a.text) w_6, LoadsAs Tryd.prog 9 (⟨w_1.heap.size, 1, none⟩) (.string b.text) w_6] (by kernel_rfl) ⟨congrArg Value.bool (beq_iff_eq.2 (c_11)), loads1 rfl (Blk.cell (Blk.below hk_3 hb_7) 1 _ rfl), loads1 rfl (Blk.cell hk_8 1 _ rfl), trivial⟩ ?_
    by_cases c_12 : a.text = b.text
    · refine XL_run 7 [(15, .eq (.bool true)), (19, .load (.int .i64 a.count)), (21, .load (.int .i64 b.count))] [(2, .pointer (some ⟨w.heap.size, 0, none⟩)), (3, .pointer (some ⟨w_1.heap.size, 0, none⟩)), (17, .bool true), (19, .int .i64 a.count), (21, .int .i64 b.count)] w_6 [Value.bool (a.text.toList == b.text.toList) = Value.bool true, LoadsAs Tryd.prog 3 (⟨w.heap.size, 5, none⟩) (.int .i64 a.count) w_6, LoadsAs Tryd.prog 3 (⟨w_1.heap.size, 5, none⟩) (.int .i64 b.count) w_6] (by kernel_rfl) ⟨congrArg Value.bool (strEqT (c_12)), loads1 rfl (Blk.cell (Blk.below hk_3 hb_7) 5 _ rfl), loads1 rfl (Blk.cell hk_8 5 _ rfl), trivial⟩ ?_
      by_cases c_13 : a.count = b.count
      · refine XL_run 7 [(22, .eq (.bool true)), (26, .load (.agg #[.int .i64 a.vk, .int .i64 a.vn, .string a.vt])), (28, .load (.agg #[.int .i64 b.vk, .int .i64 b.vn, .string b.vt]))] [(2, .pointer (some ⟨w.heap.size, 0, none⟩)), (3, .pointer (some ⟨w_1.heap.size, 0, none⟩)), (24, .bool true), (26, .agg #[.int .i64 a.vk, .int .i64 a.vn, .string a.vt]), (28, .agg #[.int .i64 b.vk, .int .i64 b.vn, .string b.vt])] w_6 [Value.bool (a.count == b.count) = Value.bool true, LoadsAs Tryd.prog 30 (⟨w.heap.size, 2, none⟩) (.agg #[.int .i64 a.vk, .int .i64 a.vn, .string a.vt]) w_6, LoadsAs Tryd.prog 30 (⟨w_1.heap.size, 2, none⟩) (.agg #[.int .i64 b.vk, .int .i64 b.vn, .string b.vt]) w_6] (by kernel_rfl) ⟨congrArg Value.bool (beq_iff_eq.2 (c_13)), loadsB rfl rfl (Blk.below hk_3 hb_7) 2 ⟨by kernel_rfl, by kernel_rfl⟩, loadsB rfl rfl hk_8 2 ⟨by kernel_rfl, by kernel_rfl⟩, trivial⟩ ?_
        by_cases c_14 : (a.vk, a.vn, a.vt) = (b.vk, b.vn, b.vt)
        · refine XL_run 7 [(29, .as (.bool true)), (33, .load (.slice A a.attrs.length c)), (35, .load (.slice B b.attrs.length d))] [(31, .bool true), (33, .slice A a.attrs.length c), (35, .slice B b.attrs.length d)] w_6 [RunsAs Tryd.prog [(26, .agg #[.int .i64 a.vk, .int .i64 a.vn, .string a.vt]), (28, .agg #[.int .i64 b.vk, .int .i64 b.vn, .string b.vt])] (Go.Op.binOp Go.BinOp.eql 30 (Go.Operand.tmp 26) (Go.Operand.tmp 28) 30) 4 (.bool true) w_6, LoadsAs Tryd.prog 31 (⟨w.heap.size, 6, none⟩) (.slice A a.attrs.length c) w_6, LoadsAs Tryd.prog 31 (⟨w_1.heap.size, 6, none⟩) (.slice B b.attrs.length d) w_6] (by kernel_rfl) ⟨runs_bin rfl rfl (run_eqGuard_agg _ _ _ _ _ _ _ (by kernel_rfl)) (by have h := plain_eqb (a.vk, a.vn, a.vt) (b.vk, b.vn, b.vt) w_6; rw [show ple (a.vk, a.vn, a.vt) (b.vk, b.vn, b.vt) = true from (ple_iff _ _).2 c_14] at h; exact h), loads1 rfl (Blk.cell (Blk.below hk_3 hb_7) 6 _ rfl), loads1 rfl (Blk.cell hk_8 6 _ rfl), trivial⟩ ?_
          refine XL_call 65 rfl rfl rfl ent65 [.slice A a.attrs.length c, .slice B b.attrs.length d] (by kernel_rfl) (sattrs_any _ _ _ _ a.attrs b.attrs _ (Kd.C_below hA (bt hb_2 hb_7)) (Kd.C_below hB (bt hb_2 hb_7))) ?_
          rintro e w_15 ⟨rfl, hb_16⟩; refine ⟨_, rfl, ?_⟩
          refine XL_run 2 [] [(4, .bool (decide (a.attrs = b.attrs)))] w_15 [] (by kernel_rfl) trivial ?_
          refine XL_nil ?_
          refine X_ret ?_
          refine RX.ret_ok (P := Tryd.prog) (fn := Tryd.f76) (N := 38) (R := R_) [.bool (decide (a.attrs = b.attrs))] (by kernel_rfl) (hR_ _ _ ?_)
          rw [show opEqP a b = decide (a.attrs = b.attrs) from by unfold opEqP; simp_all]
          exact ⟨rfl, (bt (bt hb_2 hb_7) hb_16)⟩
        · refine XL_run 10 [(29, .as (.bool false))] [(4, .bool false)] w_6 [RunsAs Tryd.prog [(26, .agg #[.int .i64 a.vk, .int .i64 a.vn, .string a.vt]), (28, .agg #[.int .i64 b.vk, .int .i64 b.vn, .string b.vt])] (Go.Op.binOp Go.BinOp.eql 30 (Go.Operand.tmp 26) (Go.Operand.tmp 28) 30) 4 (.bool false) w_6] (by kernel_rfl) ⟨runs_bin rfl rfl (run_eqGuard_agg _ _ _ _ _ _ _ (by kernel_rfl)) (by have h := plain_eqb (a.vk, a.vn, a.vt) (b.vk, b.vn, b.vt) w_6; rw [show ple (a.vk, a.vn, a.vt) (b.vk, b.vn, b.vt) = false from Bool.eq_false_iff.2 (fun k => c_14 ((ple_iff _ _).1 k))] at h; exact h), trivial⟩ ?_
          refine XL_nil ?_
          refine X_ret ?_
          refine RX.ret_ok (P := Tryd.prog) (fn := Tryd.f76) (N := 38) (R := R_) [.bool false] (by kernel_rfl) (hR_ _ _ ?_)
          rw [show opEqP a b = false from by unfold opEqP; simp_all]
          exact ⟨rfl, (bt hb_2 hb_7)⟩
      · refine XL_run 17 [(22, .eq (.bool false))] [(4, .bool false)] w_6 [Value.bool (a.count == b.count) = Value.bool false] (by kernel_rfl) ⟨congrArg Value.bool (beq_eq_false_iff_ne.2 (c_13)), trivial⟩ ?_
        refine XL_nil ?_
        refine X_ret ?_
        refine RX.ret_ok (P := Tryd.prog) (fn := Tryd.f76) (N := 38) (R := R_) [.bool false] (by kernel_rfl) (hR_ _ _ ?_)
        rw [show opEqP a b = false from by unfold opEqP; simp_all]
        exact ⟨rfl, (bt hb_2 hb_7)⟩
    · refine XL_run 24 [(15, .eq (.bool false))] [(4, .bool false)] w_6 [Value.bool (a.text.toList == b.text.toList) = Value.bool false] (by kernel_rfl) ⟨congrArg Value.bool (strEqF (c_12)), trivial⟩ ?_
      refine XL_nil ?_
      refine X_ret ?_
      refine RX.ret_ok (P := Tryd.prog) (fn := Tryd.f76) (N := 38) (R := R_) [.bool false] (by kernel_rfl) (hR_ _ _ ?_)
      rw [show opEqP a b = false from by unfold opEqP; simp_all]
      exact ⟨rfl, (bt hb_2 hb_7)⟩
  · refine XL_run 30 [(9, .eq (.bool false))] [(4, .bool false)] w_6 [Value.bool (a.kind == b.kind) = Value.bool false] (by kernel_rfl) ⟨congrArg Value.bool (beq_eq_false_iff_ne.2 (c_11)), trivial⟩ ?_
    refine XL_nil ?_
    refine X_ret ?_
    refine RX.ret_ok (P := Tryd.prog) (fn := Tryd.f76) (N := 38) (R := R_) [.bool false] (by kernel_rfl) (hR_ _ _ ?_)
    rw [show opEqP a b = false from by unfold opEqP; simp_all]
    exact ⟨rfl, (bt hb_2 hb_7)⟩
set_option maxHeartbeats 2000000 in
theorem r5can_any (A : Option Addr) (c : Nat) (xs : List OpA) (w : World) (hx : kOp.C w A xs.length xs) (hn : xs.length ≤ 100000000) (hz : ∀ i, i < xs.length → opSz (xs.getD i op0)) (hT : Tabs w) : Calls Tryd.prog 23 #[.slice A xs.length c] w fun e w' => e = .returned (.bool (canP xs)) ∧ Below w.heap.size w w' := by
  have hpl : xs.length ≤ 9223372036854775807 := hx.2.1
  refine RX.enter Tryd.func23 rfl 56 rfl [(0, .slice A xs.length c)] rfl (by kernel_rfl) (fun R_ hR_ => ?_)
  refine X_seq ?_
  refine X_region ?_
  refine XL_run 1 [] [(0, .slice A xs.length c)] w [] (by kernel_rfl) trivial ?_
  refine XL_nil ?_
  refine X_seq ?_
  refine X_region ?_
  refine XL_run 1 [] [(0, .slice A xs.length c), (9, .slice A xs.length c)] w [] (by kernel_rfl) trivial ?_
  refine XL_call 21 rfl rfl rfl ent21 [.slice A xs.length c] (by kernel_rfl) (r5lens_any _ _ xs _ hx hn hz (hT.below (Below.refl _ _))) ?_
  rintro e w_1 ⟨rfl, hb_2⟩; refine ⟨_, rfl, ?_⟩
  refine XL_run 7 [] [(0, .slice A xs.length c), (5, .int .i64 ((lenP xs).2.2 : Int))] w_1 [] (by kernel_rfl) trivial ?_
  refine XL_nil ?_
  refine X_seq ?_
  refine X_seq ?_
  refine X_region ?_
  refine XL_run 1 [] [(0, .slice A xs.length c), (14, .int .i64 ((lenP xs).2.2 : Int))] w_1 [] (by kernel_rfl) trivial ?_
  by_cases c_3 : ((lenP xs).2.2 : Int) = 0
  · refine XL_run 1 [(15, .eq (.bool false))] [(0, .slice A xs.length c), (15, .bool false)] w_1 [Value.bool (((lenP xs).2.2 : Int) != 0) = Value.bool false] (by kernel_rfl) ⟨congrArg Value.bool (bneF (c_3)), trivial⟩ ?_
    refine XL_nil ?_
    refine X_cond false rfl ?_
    refine X_skip ?_
    refine X_seq ?_
    refine X_seq ?_
    refine X_region ?_
    refine XL_run 1 [] [(0, .slice A xs.length c), (6, .int .i64 1)] w_1 [] (by kernel_rfl) trivial ?_
    refine XL_nil ?_
    refine X_block ?_
    have hk0 : (lenP xs).2.2 = 0 := by omega
    refine X_loop (ι := Nat) (fun i => [(0, .slice A xs.length c), (6, .int .i64 (i : Int))]) (fun i wl => 1 ≤ i ∧ i ≤ xs.length + 1 ∧ (∀ q, q + 1 < i → fitsP (xs.getD q op0) (xs.getD (q + 1) op0) = true) ∧ Below w.heap.size w wl) (fun i => xs.length + 1 - i) 1 ⟨by omega, by omega, fun q hq => by omega, hb_2⟩ (by kernel_rfl) ?_
    rintro i wl ⟨hi1, hi, hch, HB⟩
    have hzi : ((i : Int) - 1).toNat = i - 1 := by omega
    refine X_seq ?_
    refine X_seq ?_
    refine X_region ?_
    refine XL_run 3 [] [(0, .slice A xs.length c), (6, .int .i64 (i : Int)), (16, .int .i64 (i : Int)), (18, .int .i64 (xs.length : Int))] wl [] (by kernel_rfl) trivial ?_
    by_cases c_4 : (i : Int) < (xs.length : Int)
    · refine XL_run 1 [(19, .eq (.bool true))] [(0, .slice A xs.length c), (6, .int .i64 (i : Int)), (19, .bool true)] wl [Value.bool (decide ((i : Int) < (xs.length : Int))) = Value.bool true] (by kernel_rfl) ⟨congrArg Value.bool (decide_eq_true (c_4)), trivial⟩ ?_
      refine XL_nil ?_
      refine X_cond true rfl ?_
      refine X_skip ?_
      refine X_seq ?_
      refine X_block ?_
      refine X_seq ?_
      refine X_any [9] 11 #[false, false, false, false, false, false, false, false, false, false, false] (by kernel_rfl) (by kernel_rfl) (by kernel_rfl) (fun wd_5 hb_6 hh_7 => ?_)
      refine XA_run (fuel' := 8) [0, 1, 2] [(24, .eq (.int .i64 ((i : Int) - 1)))] [.slice A xs.length c, .int .i64 (i : Int), .int .i64 ((i : Int) - 1)] #[true, true, true, false, false, false, false, false, false, false, false] [(0, .slice A xs.length c), (6, .int .i64 (i : Int)), (22, .slice A xs.length c), (24, .int .i64 ((i : Int) - 1))] [Value.int .i64 (IntKind.i64.wrap ((i : Int) - 1)) = Value.int .i64 ((i : Int) - 1)] (fun _ _ _ _ h => h) (by kernel_rfl) rfl ⟨wr_i64 (by omega) (by omega), trivial⟩ ?_
      obtain ⟨ad_8, B_11, c_12, ha_9, hc_10, hl_13, hC_14⟩ := Kd.atOp (Kd.C_below hx (bt HB hb_6)) (i := (i : Int) - 1) (by omega) (by omega)
      replace hc_10 : CellsAt wd_5 (ad_8.add (((i : Int) - 1).toNat * 7)) [.int .i64 ((xs.getD ((i : Int) - 1).toNat op0).kind), .string ((xs.getD ((i : Int) - 1).toNat op0).text), .int .i64 ((xs.getD ((i : Int) - 1).toNat op0).vk), .int .i64 ((xs.getD ((i : Int) - 1).toNat op0).vn), .string ((xs.getD ((i : Int) - 1).toNat op0).vt), .int .i64 ((xs.getD ((i : Int) - 1).toNat op0).count), .slice B_11 ((xs.getD ((i : Int) - 1).toNat op0).attrs.length) c_12] := hc_10
      replace hl_13 : (xs.getD ((i : Int) - 1).toNat op0).attrs.length ≤ c_12 := hl_13
      replace hC_14 : kAttr.C wd_5 B_11 ((xs.getD ((i : Int) - 1).toNat op0).attrs.length) (xs.getD ((i : Int) - 1).toNat op0).attrs := hC_14
      refine XA_run (fuel' := 4) [3, 4, 5, 6] [(25, .idx ad_8), (26, .load (.agg #[.int .i64 ((xs.getD ((i : Int) - 1).toNat op0).kind), .string ((xs.getD ((i : Int) - 1).toNat op0).text), .int .i64 ((xs.getD ((i : Int) - 1).toNat op0).vk), .int .i64 ((xs.getD ((i : Int) - 1).toNat op0).vn), .string ((xs.getD ((i : Int) - 1).toNat op0).vt), .int .i64 ((xs.getD ((i : Int) - 1).toNat op0).count), .slice B_11 ((xs.getD ((i : Int) - 1).toNat op0).attrs.length) c_12]))] [.pointer (some (ad_8.add (((i : Int) - 1).toNat * 7))), .agg #[.int .i64 ((xs.getD ((i : Int) - 1).toNat op0).kind), .string ((xs.getD ((i : Int) - 1).toNat op0).text), .int .i64 ((xs.getD ((i : Int) - 1).toNat op0).vk), .int .i64 ((xs.getD ((i : Int) - 1).toNat op0).vn), .string ((xs.getD ((i : Int) - 1).toNat op0).vt), .int .i64 ((xs.getD ((i : Int) - 1).toNat op0).count), .slice B_11 ((xs.getD ((i : Int) - 1).toNat op0).attrs.length) c_12], .slice A xs.length c, .int .i64 (i : Int)] #[true, true, true, true, true, true, true, false, false, false, false] [(0, .slice A xs.length c), (6, .int .i64 (i : Int)), (26, .agg #[.int .i64 ((xs.getD ((i : Int) - 1).toNat op0).kind), .string ((xs.getD ((i : Int) - 1).toNat op0).text), .int .i64 ((xs.getD ((i : Int) - 1).toNat op0).vk), .int .i64 ((xs.getD ((i : Int) - 1).toNat op0).vn), .string ((xs.getD ((i : Int) - 1).toNat op0).vt), .int .i64 ((xs.getD ((i : Int) - 1).toNat op0).count), .slice B_11 ((xs.getD ((i : Int) - 1).toNat op0).attrs.length) c_12]), (27, .slice A xs.length c), (28, .int .i64 (i : Int))] [A = some ad_8, (0 : Int) ≤ (i : Int) - 1, (i : Int) - 1 < (xs.length : Int), LoadsAs Tryd.prog 33 (ad_8.add (((i : Int) - 1).toNat * 7)) (.agg #[.int .i64 ((xs.getD ((i : Int) - 1).toNat op0).kind), .string ((xs.getD ((i : Int) - 1).toNat op0).text), .int .i64 ((xs.getD ((i : Int) - 1).toNat op0).vk), .int .i64 ((xs.getD ((i : Int) - 1).toNat op0).vn), .string ((xs.getD ((i : Int) - 1).toNat op0).vt), .int .i64 ((xs.getD ((i : Int) - 1).toNat op0).count), .slice B_11 ((xs.getD ((i : Int) - 1).toNat op0).attrs.length) c_12]) wd_5] (fun _ _ _ _ h => h) (by kernel_rfl) rfl ⟨ha_9, (by omega), (by omega), loadsE rfl rfl hc_10 0 ⟨by kernel_rfl, by kernel_rfl⟩, trivial⟩ ?_
      obtain ⟨ad_15, B_18, c_19, ha_16, hc_17, hl_20, hC_21⟩ := Kd.atOp (Kd.C_below hx (bt HB hb_6)) (i := (i : Int)) (by omega) (by omega)
      replace hc_17 : CellsAt wd_5 (ad_15.add ((i : Int).toNat * 7)) [.int .i64 ((xs.getD i op0).kind), .string ((xs.getD i op0).text), .int .i64 ((xs.getD i op0).vk), .int .i64 ((xs.getD i op0).vn), .string ((xs.getD i op0).vt), .int .i64 ((xs.getD i op0).count), .slice B_18 ((xs.getD i op0).attrs.length) c_19] := hc_17
      replace hl_20 : (xs.getD i op0).attrs.length ≤ c_19 := hl_20
      replace hC_21 : kAttr.C wd_5 B_18 ((xs.getD i op0).attrs.length) (xs.getD i op0).attrs := hC_21
      refine XA_run (fuel' := 2) [7, 8] [(29, .idx ad_15), (30, .load (.agg #[.int .i64 ((xs.getD i op0).kind), .string ((xs.getD i op0).text), .int .i64 ((xs.getD i op0).vk), .int .i64 ((xs.getD i op0).vn), .string ((xs.getD i op0).vt), .int .i64 ((xs.getD i op0).count), .slice B_18 ((xs.getD i op0).attrs.length) c_19]))] [.pointer (some (ad_15.add ((i : Int).toNat * 7))), .agg #[.int .i64 ((xs.getD i op0).kind), .string ((xs.getD i op0).text), .int .i64 ((xs.getD i op0).vk), .int .i64 ((xs.getD i op0).vn), .string ((xs.getD i op0).vt), .int .i64 ((xs.getD i op0).count), .slice B_18 ((xs.getD i op0).attrs.length) c_19]] #[true, true, true, true, true, true, true, true, true, false, false] [(0, .slice A xs.length c), (6, .int .i64 (i : Int)), (26, .agg #[.int .i64 ((xs.getD ((i : Int) - 1).toNat op0).kind), .string ((xs.getD ((i : Int) - 1).toNat op0).text), .int .i64 ((xs.getD ((i : Int) - 1).toNat op0).vk), .int .i64 ((xs.getD ((i : Int) - 1).toNat op0).vn), .string ((xs.getD ((i : Int) - 1).toNat op0).vt), .int .i64 ((xs.getD ((i : Int) - 1).toNat op0).count), .slice B_11 ((xs.getD ((i : Int) - 1).toNat op0).attrs.length) c_12]), (30, .agg #[.int .i64 ((xs.getD i op0).kind), .string ((xs.getD i op0).text), .int .i64 ((xs.getD i op0).vk), .int .i64 ((xs.getD i op0).vn), .string ((xs.getD i op0).vt), .int .i64 ((xs.getD i op0).count), .slice B_18 ((xs.getD i op0).attrs.length) c_19])] [A = some ad_15, (0 : Int) ≤ (i : Int), (i : Int) < (xs.length : Int), LoadsAs Tryd.prog 33 (ad_15.add ((i : Int).toNat * 7)) (.agg #[.int .i64 ((xs.getD i op0).kind), .string ((xs.getD i op0).text), .int .i64 ((xs.getD i op0).vk), .int .i64 ((xs.getD i op0).vn), .string ((xs.getD i op0).vt), .int .i64 ((xs.getD i op0).count), .slice B_18 ((xs.getD i op0).attrs.length) c_19]) wd_5] (fun _ _ _ _ h => h) (by kernel_rfl) rfl ⟨ha_16, (by omega), (by omega), loadsE rfl rfl hc_17 0 ⟨by kernel_rfl, by kernel_rfl⟩, trivial⟩ ?_
      refine XA_act (fuel' := 1) 9 #[true, true, true, true, true, true, true, true, true, true, false] _ rfl (by kernel_rfl) rfl (by kernel_rfl) rfl ?_
      refine XL_call 73 rfl rfl rfl ent73 [.agg #[.int .i64 ((xs.getD ((i : Int) - 1).toNat op0).kind), .string ((xs.getD ((i : Int) - 1).toNat op0).text), .int .i64 ((xs.getD ((i : Int) - 1).toNat op0).vk), .int .i64 ((xs.getD ((i : Int) - 1).toNat op0).vn), .string ((xs.getD ((i : Int) - 1).toNat op0).vt), .int .i64 ((xs.getD ((i : Int) - 1).toNat op0).count), .slice B_11 ((xs.getD ((i : Int) - 1).toNat op0).attrs.length) c_12], .agg #[.int .i64 ((xs.getD i op0).kind), .string ((xs.getD i op0).text), .int .i64 ((xs.getD i op0).vk), .int .i64 ((xs.getD i op0).vn), .string ((xs.getD i op0).vt), .int .i64 ((xs.getD i op0).count), .slice B_18 ((xs.getD i op0).attrs.length) c_19]] (by kernel_rfl) (apart_any (xs.getD ((i : Int) - 1).toNat op0) (xs.getD i op0) _ _ _ _ _ hC_14 hC_21) ?_
      rintro e w_22 ⟨rfl, hb_23⟩; refine ⟨_, rfl, ?_⟩
      refine XL_nil ?_
      by_cases c_24 : fitsP (xs.getD ((i : Int) - 1).toNat op0) (xs.getD i op0) = true
      · rw [show (fitsP (xs.getD ((i : Int) - 1).toNat op0) (xs.getD i op0) : Bool) = true from by simpa using c_24]
        refine XA_pure (fuel' := 0) [10] [] [.bool false] #[true, true, true, true, true, true, true, true, true, true, true] [(0, .slice A xs.length c), (6, .int .i64 (i : Int)), (32, .bool false)] (fun w_ => []) (fun _ _ _ _ h => h) (fun w_ => by kernel_rfl) rfl (fun w_ => trivial) ?_
        refine XA_done (by kernel_rfl) ?_
        refine X_cond false rfl ?_
        refine X_skip ?_
        refine X_region ?_
        refine XL_run 3 [(21, .eq (.int .i64 ((i : Int) + 1)))] [(0, .slice A xs.length c), (6, .int .i64 ((i : Int) + 1))] w_22 [Value.int .i64 (IntKind.i64.wrap ((i : Int) + 1)) = Value.int .i64 ((i : Int) + 1)] (by kernel_rfl) ⟨wr_i64 (by omega) (by omega), trivial⟩ ?_
        refine XL_nil ?_
        refine ⟨(i + 1), by kernel_rfl, ?_, ?_⟩
        · exact ⟨by omega, by omega, fun q hq => by by_cases e_ : q + 1 = i; (· have h_ := c_24; rw [hzi] at h_; rw [show q = i - 1 from by omega, show i - 1 + 1 = i from by omega]; exact h_); (· exact hch q (by omega)), (bt (bt HB hb_6) hb_23)⟩
        · (try dsimp only); omega
      · rw [show (fitsP (xs.getD ((i : Int) - 1).toNat op0) (xs.getD i op0) : Bool) = false from by simpa using c_24]
        refine XA_pure (fuel' := 0) [10] [] [.bool true] #[true, true, true, true, true, true, true, true, true, true, true] [(0, .slice A xs.length c), (6, .int .i64 (i : Int)), (32, .bool true)] (fun w_ => []) (fun _ _ _ _ h => h) (fun w_ => by kernel_rfl) rfl (fun w_ => trivial) ?_
        refine XA_done (by kernel_rfl) ?_
        refine X_cond true rfl ?_
        refine X_seq ?_
        refine X_region ?_
        refine XL_run 1 [] [(2, .bool false)] w_22 [] (by kernel_rfl) trivial ?_
        refine XL_nil ?_
        refine X_ret ?_
        refine RX.ret_ok (P := Tryd.prog) (fn := Tryd.f23) (N := 56) (R := R_) [.bool false] (by kernel_rfl) (hR_ _ _ ?_)
        rw [(canP_false xs).2 (fun hc_ => c_24 (by have h_ := hc_.2.1 (i - 1) (by omega); rw [show i - 1 + 1 = i from by omega] at h_; rw [hzi]; exact h_))]
        exact ⟨rfl, (bt (bt HB hb_6) hb_23)⟩
    · refine XL_run 1 [(19, .eq (.bool false))] [(0, .slice A xs.length c), (6, .int .i64 (i : Int)), (19, .bool false)] wl [Value.bool (decide ((i : Int) < (xs.length : Int))) = Value.bool false] (by kernel_rfl) ⟨congrArg Value.bool (decide_eq_false (c_4)), trivial⟩ ?_
      refine XL_nil ?_
      refine X_cond false rfl ?_
      refine X_exit ?_
      refine X_seq ?_
      refine X_region ?_
      refine XL_run 3 [] [(0, .slice A xs.length c), (7, .int .i64 (xs.length : Int))] wl [] (by kernel_rfl) trivial ?_
      refine XL_nil ?_
      refine X_seq ?_
      refine X_region ?_
      refine XL_run 1 [] [(0, .slice A xs.length c), (7, .int .i64 (xs.length : Int)), (35, .int .i64 (xs.length : Int))] wl [] (by kernel_rfl) trivial ?_
      by_cases c_25 : (xs.length : Int) = 0
      · refine XL_run 21 [(36, .eq (.bool true))] [(2, .bool true)] wl [Value.bool ((xs.length : Int) == 0) = Value.bool true] (by kernel_rfl) ⟨congrArg Value.bool (beq_iff_eq.2 (c_25)), trivial⟩ ?_
        refine XL_nil ?_
        refine X_ret ?_
        refine RX.ret_ok (P := Tryd.prog) (fn := Tryd.f23) (N := 56) (R := R_) [.bool true] (by kernel_rfl) (hR_ _ _ ?_)
        have hzl : ((xs.length : Int) - 1).toNat = xs.length - 1 := by omega
        rw [(canP_iff xs).2 ⟨hk0, fun q hq => hch q (by omega), by unfold plainR; first | exact .inl (by omega) | exact .inr (by intro h_; omega)⟩]
        exact ⟨rfl, HB⟩
      · refine XL_run 5 [(36, .eq (.bool false)), (40, .eq (.int .i64 ((xs.length : Int) - 1)))] [(0, .slice A xs.length c), (7, .int .i64 (xs.length : Int)), (37, .bool false), (38, .slice A xs.length c), (40, .int .i64 ((xs.length : Int) - 1))] wl [Value.bool ((xs.length : Int) == 0) = Value.bool false, Value.int .i64 (IntKind.i64.wrap ((xs.length : Int) - 1)) = Value.int .i64 ((xs.length : Int) - 1)] (by kernel_rfl) ⟨congrArg Value.bool (beq_eq_false_iff_ne.2 (c_25)), wr_i64 (by omega) (by omega), trivial⟩ ?_
        obtain ⟨ad_26, B_29, c_30, ha_27, hc_28, hl_31, hC_32⟩ := Kd.atOp (Kd.C_below hx HB) (i := (xs.length : Int) - 1) (by omega) (by omega)
        replace hc_28 : CellsAt wl (ad_26.add (((xs.length : Int) - 1).toNat * 7)) [.int .i64 ((xs.getD ((xs.length : Int) - 1).toNat op0).kind), .string ((xs.getD ((xs.length : Int) - 1).toNat op0).text), .int .i64 ((xs.getD ((xs.length : Int) - 1).toNat op0).vk), .int .i64 ((xs.getD ((xs.length : Int) - 1).toNat op0).vn), .string ((xs.getD ((xs.length : Int) - 1).toNat op0).vt), .int .i64 ((xs.getD ((xs.length : Int) - 1).toNat op0).count), .slice B_29 ((xs.getD ((xs.length : Int) - 1).toNat op0).attrs.length) c_30] := hc_28
        replace hl_31 : (xs.getD ((xs.length : Int) - 1).toNat op0).attrs.length ≤ c_30 := hl_31
        replace hC_32 : kAttr.C wl B_29 ((xs.getD ((xs.length : Int) - 1).toNat op0).attrs.length) (xs.getD ((xs.length : Int) - 1).toNat op0).attrs := hC_32
        refine XL_run 3 [(41, .idx ad_26), (43, .load (.int .i64 ((xs.getD ((xs.length : Int) - 1).toNat op0).kind)))] [(0, .slice A xs.length c), (7, .int .i64 (xs.length : Int)), (37, .bool false), (43, .int .i64 ((xs.getD ((xs.length : Int) - 1).toNat op0).kind))] wl [A = some ad_26, (0 : Int) ≤ (xs.length : Int) - 1, (xs.length : Int) - 1 < (xs.length : Int), LoadsAs Tryd.prog 3 (ad_26.add (((xs.length : Int) - 1).toNat * 7)) (.int .i64 ((xs.getD ((xs.length : Int) - 1).toNat op0).kind)) wl] (by kernel_rfl) ⟨ha_27, (by omega), (by omega), loads1 rfl (elem_cell hc_28 0 _ rfl), trivial⟩ ?_
        by_cases c_33 : (xs.getD ((xs.length : Int) - 1).toNat op0).kind = 3
        · refine XL_run 6 [(44, .eq (.bool false)), (49, .eq (.int .i64 ((xs.length : Int) - 1)))] [(46, .bool false), (47, .slice A xs.length c), (49, .int .i64 ((xs.length : Int) - 1))] wl [Value.bool ((xs.getD ((xs.length : Int) - 1).toNat op0).kind != 3) = Value.bool false, Value.int .i64 (IntKind.i64.wrap ((xs.length : Int) - 1)) = Value.int .i64 ((xs.length : Int) - 1)] (by kernel_rfl) ⟨congrArg Value.bool (bneF (c_33)), wr_i64 (by omega) (by omega), trivial⟩ ?_
          obtain ⟨ad_34, B_37, c_38, ha_35, hc_36, hl_39, hC_40⟩ := Kd.atOp (Kd.C_below hx HB) (i := (xs.length : Int) - 1) (by omega) (by omega)
          replace hc_36 : CellsAt wl (ad_34.add (((xs.length : Int) - 1).toNat * 7)) [.int .i64 ((xs.getD ((xs.length : Int) - 1).toNat op0).kind), .string ((xs.getD ((xs.length : Int) - 1).toNat op0).text), .int .i64 ((xs.getD ((xs.length : Int) - 1).toNat op0).vk), .int .i64 ((xs.getD ((xs.length : Int) - 1).toNat op0).vn), .string ((xs.getD ((xs.length : Int) - 1).toNat op0).vt), .int .i64 ((xs.getD ((xs.length : Int) - 1).toNat op0).count), .slice B_37 ((xs.getD ((xs.length : Int) - 1).toNat op0).attrs.length) c_38] := hc_36
          replace hl_39 : (xs.getD ((xs.length : Int) - 1).toNat op0).attrs.length ≤ c_38 := hl_39
          replace hC_40 : kAttr.C wl B_37 ((xs.getD ((xs.length : Int) - 1).toNat op0).attrs.length) (xs.getD ((xs.length : Int) - 1).toNat op0).attrs := hC_40
          refine XL_run 4 [(50, .idx ad_34), (52, .load (.slice B_37 ((xs.getD ((xs.length : Int) - 1).toNat op0).attrs.length) c_38))] [(46, .bool false), (53, .int .i64 ((xs.getD ((xs.length : Int) - 1).toNat op0).attrs.length : Int))] wl [A = some ad_34, (0 : Int) ≤ (xs.length : Int) - 1, (xs.length : Int) - 1 < (xs.length : Int), LoadsAs Tryd.prog 31 ((ad_34.add (((xs.length : Int) - 1).toNat * 7)).add 6) (.slice B_37 ((xs.getD ((xs.length : Int) - 1).toNat op0).attrs.length) c_38) wl] (by kernel_rfl) ⟨ha_35, (by omega), (by omega), loads1 rfl (elem_cell hc_36 6 _ rfl), trivial⟩ ?_
          by_cases c_41 : ((xs.getD ((xs.length : Int) - 1).toNat op0).attrs.length : Int) > 0
          · refine XL_run 3 [(54, .eq (.bool true))] [(2, .bool true)] wl [Value.bool (decide (((xs.getD ((xs.length : Int) - 1).toNat op0).attrs.length : Int) > 0)) = Value.bool true] (by kernel_rfl) ⟨congrArg Value.bool (decide_eq_true (c_41)), trivial⟩ ?_
            refine XL_nil ?_
            refine X_ret ?_
            refine RX.ret_ok (P := Tryd.prog) (fn := Tryd.f23) (N := 56) (R := R_) [.bool true] (by kernel_rfl) (hR_ _ _ ?_)
            have hzl : ((xs.length : Int) - 1).toNat = xs.length - 1 := by omega
            rw [hzl] at c_33
            rw [hzl] at c_41
            rw [(canP_iff xs).2 ⟨hk0, fun q hq => hch q (by omega), by unfold plainR; first | exact .inl (by omega) | exact .inr (by intro h_; omega)⟩]
            exact ⟨rfl, HB⟩
          · refine XL_run 3 [(54, .eq (.bool false))] [(2, .bool false)] wl [Value.bool (decide (((xs.getD ((xs.length : Int) - 1).toNat op0).attrs.length : Int) > 0)) = Value.bool false] (by kernel_rfl) ⟨congrArg Value.bool (decide_eq_false (c_41)), trivial⟩ ?_
            refine XL_nil ?_
            refine X_ret ?_
            refine RX.ret_ok (P := Tryd.prog) (fn := Tryd.f23) (N := 56) (R := R_) [.bool false] (by kernel_rfl) (hR_ _ _ ?_)
            have hzl : ((xs.length : Int) - 1).toNat = xs.length - 1 := by omega
            rw [hzl] at c_33
            rw [hzl] at c_41
            rw [(canP_false xs).2 (fun hc_ => by have h_ := hc_.2.2; unfold plainR at h_; rcases h_ with h_ | h_; (· omega); (· exact h_ ⟨by omega, by omega⟩))]
            exact ⟨rfl, HB⟩
        · refine XL_run 13 [(44, .eq (.bool true))] [(2, .bool true)] wl [Value.bool ((xs.getD ((xs.length : Int) - 1).toNat op0).kind != 3) = Value.bool true] (by kernel_rfl) ⟨congrArg Value.bool (bneT (c_33)), trivial⟩ ?_
          refine XL_nil ?_
          refine X_ret ?_
          refine RX.ret_ok (P := Tryd.prog) (fn := Tryd.f23) (N := 56) (R := R_) [.bool true] (by kernel_rfl) (hR_ _ _ ?_)
          have hzl : ((xs.length : Int) - 1).toNat = xs.length - 1 := by omega
          rw [hzl] at c_33
          rw [(canP_iff xs).2 ⟨hk0, fun q hq => hch q (by omega), by unfold plainR; first | exact .inl (by omega) | exact .inr (by intro h_; omega)⟩]
          exact ⟨rfl, HB⟩
  · refine XL_run 1 [(15, .eq (.bool true))] [(0, .slice A xs.length c), (15, .bool true)] w_1 [Value.bool (((lenP xs).2.2 : Int) != 0) = Value.bool true] (by kernel_rfl) ⟨congrArg Value.bool (bneT (c_3)), trivial⟩ ?_
    refine XL_nil ?_
    refine X_cond true rfl ?_
    refine X_seq ?_
    refine X_region ?_
    refine XL_run 1 [] [(2, .bool false)] w_1 [] (by kernel_rfl) trivial ?_
    refine XL_nil ?_
    refine X_ret ?_
    refine RX.ret_ok (P := Tryd.prog) (fn := Tryd.f23) (N := 56) (R := R_) [.bool false] (by kernel_rfl) (hR_ _ _ ?_)
    rw [can_last (show ¬ (lenP xs).2.2 = 0 by omega)]
    exact ⟨rfl, hb_2⟩
theorem r5same_any (A B : Option Addr) (c d : Nat) (xs ys : List OpA) (w : World) (hx : kOp.C w A xs.length xs) (hy : kOp.C w B ys.length ys) : Calls Tryd.prog 25 #[.slice A xs.length c, .slice B ys.length d] w fun e w' => e = .returned (.bool (opsEqP xs ys)) ∧ Below w.heap.size w w' := by
  have hpl : xs.length ≤ 9223372036854775807 := hx.2.1
  refine RX.enter Tryd.func25 rfl 27 rfl [(0, .slice A xs.length c), (1, .slice B ys.length d)] rfl (by kernel_rfl) (fun R_ hR_ => ?_)
  refine X_seq ?_
  refine X_region ?_
  refine XL_run 1 [] [(0, .slice A xs.length c), (1, .slice B ys.length d)] w [] (by kernel_rfl) trivial ?_
  refine XL_nil ?_
  refine X_seq ?_
  refine X_seq ?_
  refine X_region ?_
  refine XL_run 4 [] [(0, .slice A xs.length c), (1, .slice B ys.length d), (7, .int .i64 (xs.length : Int)), (9, .int .i64 (ys.length : Int))] w [] (by kernel_rfl) trivial ?_
  by_cases c_1 : (xs.length : Int) = (ys.length : Int)
  · refine XL_run 1 [(10, .eq (.bool false))] [(0, .slice A xs.length c), (1, .slice B ys.length d), (10, .bool false)] w [Value.bool ((xs.length : Int) != (ys.length : Int)) = Value.bool false] (by kernel_rfl) ⟨congrArg Value.bool (bneF (c_1)), trivial⟩ ?_
    refine XL_nil ?_
    refine X_cond false rfl ?_
    refine X_skip ?_
    refine X_seq ?_
    refine X_seq ?_
    refine X_region ?_
    refine XL_run 1 [] [(0, .slice A xs.length c), (1, .slice B ys.length d), (5, .int .i64 0)] w [] (by kernel_rfl) trivial ?_
    refine XL_nil ?_
    refine X_block ?_
    refine X_loop (ι := Nat) (fun i => [(0, .slice A xs.length c), (1, .slice B ys.length d), (5, .int .i64 (i : Int))]) (fun i wl => i ≤ xs.length ∧ xs.length = ys.length ∧ (∀ q, q < i → xs.getD q op0 = ys.getD q op0) ∧ Below w.heap.size w wl) (fun i => xs.length - i) 0 ⟨by omega, by omega, fun q hq => by omega, (Below.refl _ _)⟩ (by kernel_rfl) ?_
    rintro i wl ⟨hi, hlen, hq0, HB⟩
    refine X_seq ?_
    refine X_seq ?_
    refine X_region ?_
    refine XL_run 3 [] [(0, .slice A xs.length c), (1, .slice B ys.length d), (5, .int .i64 (i : Int)), (11, .int .i64 (i : Int)), (13, .int .i64 (xs.length : Int))] wl [] (by kernel_rfl) trivial ?_
    by_cases c_2 : (i : Int) < (xs.length : Int)
    · refine XL_run 1 [(14, .eq (.bool true))] [(0, .slice A xs.length c), (1, .slice B ys.length d), (5, .int .i64 (i : Int)), (14, .bool true)] wl [Value.bool (decide ((i : Int) < (xs.length : Int))) = Value.bool true] (by kernel_rfl) ⟨congrArg Value.bool (decide_eq_true (c_2)), trivial⟩ ?_
      refine XL_nil ?_
      refine X_cond true rfl ?_
      refine X_skip ?_
      refine X_seq ?_
      refine X_block ?_
      refine X_seq ?_
      refine X_any [8] 10 #[false, false, false, false, false, false, false, false, false, false] (by kernel_rfl) (by kernel_rfl) (by kernel_rfl) (fun wd_3 hb_4 hh_5 => ?_)
      refine XA_run (fuel' := 8) [0, 1] [] [.slice A xs.length c, .int .i64 (i : Int)] #[true, true, false, false, false, false, false, false, false, false] [(0, .slice A xs.length c), (1, .slice B ys.length d), (5, .int .i64 (i : Int)), (17, .slice A xs.length c), (18, .int .i64 (i : Int))] [] (fun _ _ _ _ h => h) (by kernel_rfl) rfl trivial ?_
      obtain ⟨ad_6, B_9, c_10, ha_7, hc_8, hl_11, hC_12⟩ := Kd.atOp (Kd.C_below hx (bt HB hb_4)) (i := (i : Int)) (by omega) (by omega)
      replace hc_8 : CellsAt wd_3 (ad_6.add ((i : Int).toNat * 7)) [.int .i64 ((xs.getD i op0).kind), .string ((xs.getD i op0).text), .int .i64 ((xs.getD i op0).vk), .int .i64 ((xs.getD i op0).vn), .string ((xs.getD i op0).vt), .int .i64 ((xs.getD i op0).count), .slice B_9 ((xs.getD i op0).attrs.length) c_10] := hc_8
      replace hl_11 : (xs.getD i op0).attrs.length ≤ c_10 := hl_11
      replace hC_12 : kAttr.C wd_3 B_9 ((xs.getD i op0).attrs.length) (xs.getD i op0).attrs := hC_12
      refine XA_run (fuel' := 4) [2, 3, 4, 5] [(19, .idx ad_6), (20, .load (.agg #[.int .i64 ((xs.getD i op0).kind), .string ((xs.getD i op0).text), .int .i64 ((xs.getD i op0).vk), .int .i64 ((xs.getD i op0).vn), .string ((xs.getD i op0).vt), .int .i64 ((xs.getD i op0).count), .slice B_9 ((xs.getD i op0).attrs.length) c_10]))] [.pointer (some (ad_6.add ((i : Int).toNat * 7))), .agg #[.int .i64 ((xs.getD i op0).kind), .string ((xs.getD i op0).text), .int .i64 ((xs.getD i op0).vk), .int .i64 ((xs.getD i op0).vn), .string ((xs.getD i op0).vt), .int .i64 ((xs.getD i op0).count), .slice B_9 ((xs.getD i op0).attrs.length) c_10], .slice B ys.length d, .int .i64 (i : Int)] #[true, true, true, true, true, true, false, false, false, false] [(0, .slice A xs.length c), (1, .slice B ys.length d), (5, .int .i64 (i : Int)), (20, .agg #[.int .i64 ((xs.getD i op0).kind), .string ((xs.getD i op0).text), .int .i64 ((xs.getD i op0).vk), .int .i64 ((xs.getD i op0).vn), .string ((xs.getD i op0).vt), .int .i64 ((xs.getD i op0).count), .slice B_9 ((xs.getD i op0).attrs.length) c_10]), (21, .slice B ys.length d), (22, .int .i64 (i : Int))] [A = some ad_6, (0 : Int) ≤ (i : Int), (i : Int) < (xs.length : Int), LoadsAs Tryd.prog 33 (ad_6.add ((i : Int).toNat * 7)) (.agg #[.int .i64 ((xs.getD i op0).kind), .string ((xs.getD i op0).text), .int .i64 ((xs.getD i op0).vk), .int .i64 ((xs.getD i op0).vn), .string ((xs.getD i op0).vt), .int .i64 ((xs.getD i op0).count), .slice B_9 ((xs.getD i op0).attrs.length) c_10]) wd_3] (fun _ _ _ _ h => h) (by kernel_rfl) rfl ⟨ha_7, (by omega), (by omega), loadsE rfl rfl hc_8 0 ⟨by kernel_rfl, by kernel_rfl⟩, trivial⟩ ?_
      obtain ⟨ad_13, B_16, c_17, ha_14, hc_15, hl_18, hC_19⟩ := Kd.atOp (Kd.C_below hy (bt HB hb_4)) (i := (i : Int)) (by omega) (by omega)
      replace hc_15 : CellsAt wd_3 (ad_13.add ((i : Int).toNat * 7)) [.int .i64 ((ys.getD i op0).kind), .string ((ys.getD i op0).text), .int .i64 ((ys.getD i op0).vk), .int .i64 ((ys.getD i op0).vn), .string ((ys.getD i op0).vt), .int .i64 ((ys.getD i op0).count), .slice B_16 ((ys.getD i op0).attrs.length) c_17] := hc_15
      replace hl_18 : (ys.getD i op0).attrs.length ≤ c_17 := hl_18
      replace hC_19 : kAttr.C wd_3 B_16 ((ys.getD i op0).attrs.length) (ys.getD i op0).attrs := hC_19
      refine XA_run (fuel' := 2) [6, 7] [(23, .idx ad_13), (24, .load (.agg #[.int .i64 ((ys.getD i op0).kind), .string ((ys.getD i op0).text), .int .i64 ((ys.getD i op0).vk), .int .i64 ((ys.getD i op0).vn), .string ((ys.getD i op0).vt), .int .i64 ((ys.getD i op0).count), .slice B_16 ((ys.getD i op0).attrs.length) c_17]))] [.pointer (some (ad_13.add ((i : Int).toNat * 7))), .agg #[.int .i64 ((ys.getD i op0).kind), .string ((ys.getD i op0).text), .int .i64 ((ys.getD i op0).vk), .int .i64 ((ys.getD i op0).vn), .string ((ys.getD i op0).vt), .int .i64 ((ys.getD i op0).count), .slice B_16 ((ys.getD i op0).attrs.length) c_17]] #[true, true, true, true, true, true, true, true, false, false] [(0, .slice A xs.length c), (1, .slice B ys.length d), (5, .int .i64 (i : Int)), (20, .agg #[.int .i64 ((xs.getD i op0).kind), .string ((xs.getD i op0).text), .int .i64 ((xs.getD i op0).vk), .int .i64 ((xs.getD i op0).vn), .string ((xs.getD i op0).vt), .int .i64 ((xs.getD i op0).count), .slice B_9 ((xs.getD i op0).attrs.length) c_10]), (24, .agg #[.int .i64 ((ys.getD i op0).kind), .string ((ys.getD i op0).text), .int .i64 ((ys.getD i op0).vk), .int .i64 ((ys.getD i op0).vn), .string ((ys.getD i op0).vt), .int .i64 ((ys.getD i op0).count), .slice B_16 ((ys.getD i op0).attrs.length) c_17])] [B = some ad_13, (0 : Int) ≤ (i : Int), (i : Int) < (ys.length : Int), LoadsAs Tryd.prog 33 (ad_13.add ((i : Int).toNat * 7)) (.agg #[.int .i64 ((ys.getD i op0).kind), .string ((ys.getD i op0).text), .int .i64 ((ys.getD i op0).vk), .int .i64 ((ys.getD i op0).vn), .string ((ys.getD i op0).vt), .int .i64 ((ys.getD i op0).count), .slice B_16 ((ys.getD i op0).attrs.length) c_17]) wd_3] (fun _ _ _ _ h => h) (by kernel_rfl) rfl ⟨ha_14, (by omega), (by omega), loadsE rfl rfl hc_15 0 ⟨by kernel_rfl, by kernel_rfl⟩, trivial⟩ ?_
      refine XA_act (fuel' := 1) 8 #[true, true, true, true, true, true, true, true, true, false] _ rfl (by kernel_rfl) rfl (by kernel_rfl) rfl ?_
      refine XL_call 76 rfl rfl rfl ent76 [.agg #[.int .i64 ((xs.getD i op0).kind), .string ((xs.getD i op0).text), .int .i64 ((xs.getD i op0).vk), .int .i64 ((xs.getD i op0).vn), .string ((xs.getD i op0).vt), .int .i64 ((xs.getD i op0).count), .slice B_9 ((xs.getD i op0).attrs.length) c_10], .agg #[.int .i64 ((ys.getD i op0).kind), .string ((ys.getD i op0).text), .int .i64 ((ys.getD i op0).vk), .int .i64 ((ys.getD i op0).vn), .string ((ys.getD i op0).vt), .int .i64 ((ys.getD i op0).count), .slice B_16 ((ys.getD i op0).attrs.length) c_17]] (by kernel_rfl) (sameOp_any (xs.getD i op0) (ys.getD i op0) _ _ _ _ _ hC_12 hC_19) ?_
      rintro e w_20 ⟨rfl, hb_21⟩; refine ⟨_, rfl, ?_⟩
      refine XL_nil ?_
      by_cases c_22 : opEqP (xs.getD i op0) (ys.getD i op0) = true
      · rw [show (opEqP (xs.getD i op0) (ys.getD i op0) : Bool) = true from by simpa using c_22]
        refine XA_pure (fuel' := 0) [9] [] [.bool false] #[true, true, true, true, true, true, true, true, true, true] [(0, .slice A xs.length c), (1, .slice B ys.length d), (5, .int .i64 (i : Int)), (26, .bool false)] (fun w_ => []) (fun _ _ _ _ h => h) (fun w_ => by kernel_rfl) rfl (fun w_ => trivial) ?_
        refine XA_done (by kernel_rfl) ?_
        refine X_cond false rfl ?_
        refine X_skip ?_
        refine X_region ?_
        refine XL_run 3 [(16, .eq (.int .i64 ((i : Int) + 1)))] [(0, .slice A xs.length c), (1, .slice B ys.length d), (5, .int .i64 ((i : Int) + 1))] w_20 [Value.int .i64 (IntKind.i64.wrap ((i : Int) + 1)) = Value.int .i64 ((i : Int) + 1)] (by kernel_rfl) ⟨wr_i64 (by omega) (by omega), trivial⟩ ?_
        refine XL_nil ?_
        refine ⟨(i + 1), by kernel_rfl, ?_, ?_⟩
        · exact ⟨by omega, by omega, fun q hq => by by_cases e_ : q = i; (· subst e_; exact (opEqP_iff _ _).1 c_22); (· exact hq0 q (by omega)), (bt (bt HB hb_4) hb_21)⟩
        · (try dsimp only); omega
      · rw [show (opEqP (xs.getD i op0) (ys.getD i op0) : Bool) = false from by simpa using c_22]
        refine XA_pure (fuel' := 0) [9] [] [.bool true] #[true, true, true, true, true, true, true, true, true, true] [(0, .slice A xs.length c), (1, .slice B ys.length d), (5, .int .i64 (i : Int)), (26, .bool true)] (fun w_ => []) (fun _ _ _ _ h => h) (fun w_ => by kernel_rfl) rfl (fun w_ => trivial) ?_
        refine XA_done (by kernel_rfl) ?_
        refine X_cond true rfl ?_
        refine X_seq ?_
        refine X_region ?_
        refine XL_run 1 [] [(4, .bool false)] w_20 [] (by kernel_rfl) trivial ?_
        refine XL_nil ?_
        refine X_ret ?_
        refine RX.ret_ok (P := Tryd.prog) (fn := Tryd.f25) (N := 27) (R := R_) [.bool false] (by kernel_rfl) (hR_ _ _ ?_)
        rw [(opsEqP_false xs ys).2 (fun e_ => c_22 ((opEqP_iff _ _).2 (by rw [e_])))]
        exact ⟨rfl, (bt (bt HB hb_4) hb_21)⟩
    · refine XL_run 1 [(14, .eq (.bool false))] [(0, .slice A xs.length c), (1, .slice B ys.length d), (5, .int .i64 (i : Int)), (14, .bool false)] wl [Value.bool (decide ((i : Int) < (xs.length : Int))) = Value.bool false] (by kernel_rfl) ⟨congrArg Value.bool (decide_eq_false (c_2)), trivial⟩ ?_
      refine XL_nil ?_
      refine X_cond false rfl ?_
      refine X_exit ?_
      refine X_seq ?_
      refine X_region ?_
      refine XL_run 1 [] [(4, .bool true)] wl [] (by kernel_rfl) trivial ?_
      refine XL_nil ?_
      refine X_ret ?_
      refine RX.ret_ok (P := Tryd.prog) (fn := Tryd.f25) (N := 27) (R := R_) [.bool true] (by kernel_rfl) (hR_ _ _ ?_)
      rw [(opsEqP_iff xs ys).2 (ops_ext hlen (fun q hq => hq0 q (by omega)))]
      exact ⟨rfl, HB⟩
  · refine XL_run 1 [(10, .eq (.bool true))] [(0, .slice A xs.length c), (1, .slice B ys.length d), (10, .bool true)] w [Value.bool ((xs.length : Int) != (ys.length : Int)) = Value.bool true] (by kernel_rfl) ⟨congrArg Value.bool (bneT (c_1)), trivial⟩ ?_
    refine XL_nil ?_
    refine X_cond true rfl ?_
    refine X_seq ?_
    refine X_region ?_
    refine XL_run 1 [] [(4, .bool false)] w [] (by kernel_rfl) trivial ?_
    refine XL_nil ?_
    refine X_ret ?_
    refine RX.ret_ok (P := Tryd.prog) (fn := Tryd.f25) (N := 27) (R := R_) [.bool false] (by kernel_rfl) (hR_ _ _ ?_)
    rw [(opsEqP_false xs ys).2 (fun e_ => by subst e_; omega)]
    exact ⟨rfl, (Below.refl _ _)⟩
end Go.Proofs.YtekfdfafhfhfbaaDoor
