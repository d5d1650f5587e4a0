/- What the references of layers content and ops answer: what the program answers. Conditions: sizes, the tables of utf8. -/
import Derived.Test.YtekfdfafhfhfbaaDoorO2
import Derived.Test.YtekfdfafhfhfbaaDoorR1
set_option linter.unusedVariables false
set_option linter.unusedSimpArgs false
set_option maxRecDepth 100000
namespace Go.Proofs.YtekfdfafhfhfbaaDoor
open Go Go.RowKit Go.Proofs.YtekfdfafhfhfbaaDoorW.PrintWords RX
theorem ent65 : Ent Tryd.prog 65 := ent_of Tryd.func65 (by kernel_rfl) rfl
theorem opSz.b {o : OpA} (h : opSz o) : o.text.size ≤ 100000000 ∧ o.vt.size ≤ 100000000 := by have h1 := h.1; have h2 := h.2.1; omega
set_option maxHeartbeats 2000000 in
theorem r4refuse_any (o : OpA) (A : Option Addr) (c : Nat) (w : World) (hA : kAttr.C w A o.attrs.length o.attrs) (hz : opSz o) (hT : Tabs w) : Calls Tryd.prog 46 #[.agg #[.int .i64 o.kind, .string o.text, .int .i64 o.vk, .int .i64 o.vn, .string o.vt, .int .i64 o.count, .slice A o.attrs.length c]] w fun e w' => e = .returned (.int .i64 (refuseP o : Int)) ∧ Below w.heap.size w w' := by
  have hz1 := hz.b.1
  have hz2 := hz.b.2
  refine RX.enter Tryd.func46 rfl 65 rfl [(0, .agg #[.int .i64 o.kind, .string o.text, .int .i64 o.vk, .int .i64 o.vn, .string o.vt, .int .i64 o.count, .slice A o.attrs.length c])] rfl (by kernel_rfl) (fun R_ hR_ => ?_)
  refine X_seq ?_
  refine X_region ?_
  refine XL_run 1 [] [(1, .pointer (some ⟨w.heap.size, 0, none⟩))] (w.alloc (.cells #[.int .i64 o.kind, .string o.text, .int .i64 o.vk, .int .i64 o.vn, .string o.vt, .int .i64 o.count, .slice A o.attrs.length c] 33)) [] (by kernel_rfl) trivial ?_
  obtain ⟨w_1, hw_5, hb_2, hk_3, hz_4⟩ := new_world w #[.int .i64 o.kind, .string o.text, .int .i64 o.vk, .int .i64 o.vn, .string o.vt, .int .i64 o.count, .slice A o.attrs.length c] 33
  rw [hw_5]
  refine XL_run 1 [] [(1, .pointer (some ⟨w.heap.size, 0, none⟩))] w_1 [] (by kernel_rfl) trivial ?_
  refine XL_nil ?_
  refine X_seq ?_
  refine X_block ?_
  refine X_seq ?_
  refine X_region ?_
  refine XL_run 2 [(7, .load (.int .i64 o.kind))] [(1, .pointer (some ⟨w.heap.size, 0, none⟩)), (7, .int .i64 o.kind)] w_1 [LoadsAs Tryd.prog 3 (⟨w.heap.size, 0, none⟩) (.int .i64 o.kind) w_1] (by kernel_rfl) ⟨loads1 rfl (Blk.cell hk_3 0 _ rfl), trivial⟩ ?_
  by_cases c_6 : o.kind = 1
  · refine XL_run 7 [(8, .eq (.bool false))] [(1, .pointer (some ⟨w.heap.size, 0, none⟩)), (5, .bool false)] w_1 [Value.bool (o.kind != 1) = Value.bool false] (by kernel_rfl) ⟨congrArg Value.bool (bneF (c_6)), trivial⟩ ?_
    refine XL_nil ?_
    refine X_cond false rfl ?_
    refine X_seq ?_
    refine X_region ?_
    refine XL_run 2 [(16, .load (.int .i64 o.count))] [(1, .pointer (some ⟨w.heap.size, 0, none⟩)), (16, .int .i64 o.count)] w_1 [LoadsAs Tryd.prog 3 (⟨w.heap.size, 5, none⟩) (.int .i64 o.count) w_1] (by kernel_rfl) ⟨loads1 rfl (Blk.cell hk_3 5 _ rfl), trivial⟩ ?_
    by_cases c_7 : o.count = 0
    · refine XL_run 2 [(17, .eq (.bool false))] [(1, .pointer (some ⟨w.heap.size, 0, none⟩)), (14, .bool false)] w_1 [Value.bool (o.count != 0) = Value.bool false] (by kernel_rfl) ⟨congrArg Value.bool (bneF (c_7)), trivial⟩ ?_
      refine XL_nil ?_
      refine X_cond false rfl ?_
      refine X_seq ?_
      refine X_region ?_
      refine XL_run 6 [(20, .load (.int .i64 o.kind)), (21, .eq (.bool true)), (24, .load (.string o.text))] [(1, .pointer (some ⟨w.heap.size, 0, none⟩)), (22, .bool true), (24, .string o.text)] w_1 [LoadsAs Tryd.prog 3 (⟨w.heap.size, 0, none⟩) (.int .i64 o.kind) w_1, Value.bool (o.kind == 1) = Value.bool true, LoadsAs Tryd.prog 9 (⟨w.heap.size, 1, none⟩) (.string o.text) w_1] (by kernel_rfl) ⟨loads1 rfl (Blk.cell hk_3 0 _ rfl), congrArg Value.bool (beq_iff_eq.2 (c_6)), loads1 rfl (Blk.cell hk_3 1 _ rfl), trivial⟩ ?_
      by_cases c_8 : o.text = (⟨#[]⟩ : ByteArray)
      · refine XL_run 9 [(25, .eq (.bool true))] [(1, .pointer (some ⟨w.heap.size, 0, none⟩)), (18, .bool true)] w_1 [Value.bool (o.text.toList == (⟨#[]⟩ : ByteArray).toList) = Value.bool true] (by kernel_rfl) ⟨congrArg Value.bool (strEqT (c_8)), trivial⟩ ?_
        refine XL_nil ?_
        refine X_cond true rfl ?_
        refine X_seq ?_
        refine X_region ?_
        refine XL_run 1 [] [(2, .int .i64 9)] w_1 [] (by kernel_rfl) trivial ?_
        refine XL_nil ?_
        refine X_ret ?_
        refine RX.ret_ok (P := Tryd.prog) (fn := Tryd.f46) (N := 65) (R := R_) [.int .i64 9] (by kernel_rfl) (hR_ _ _ ?_)
        rw [show refuseP o = 9 from by unfold refuseP; simp_all <;> omega]
        exact ⟨rfl, hb_2⟩
      · refine XL_run 5 [(25, .eq (.bool false)), (28, .load (.agg #[.int .i64 o.vk, .int .i64 o.vn, .string o.vt]))] [(1, .pointer (some ⟨w.heap.size, 0, none⟩)), (22, .bool true), (26, .bool false), (28, .agg #[.int .i64 o.vk, .int .i64 o.vn, .string o.vt]), (29, .agg #[.int .i64 0, .int .i64 0, .string ByteArray.empty])] w_1 [Value.bool (o.text.toList == (⟨#[]⟩ : ByteArray).toList) = Value.bool false, LoadsAs Tryd.prog 30 (⟨w.heap.size, 2, none⟩) (.agg #[.int .i64 o.vk, .int .i64 o.vn, .string o.vt]) w_1] (by kernel_rfl) ⟨congrArg Value.bool (strEqF (c_8)), loadsB rfl rfl hk_3 2 ⟨by kernel_rfl, by kernel_rfl⟩, trivial⟩ ?_
        by_cases c_9 : (o.vk, o.vn, o.vt) = pl0
        · refine XL_run 4 [(30, .as (.bool false))] [(1, .pointer (some ⟨w.heap.size, 0, none⟩)), (18, .bool false)] w_1 [RunsAs Tryd.prog [(28, .agg #[.int .i64 o.vk, .int .i64 o.vn, .string o.vt]), (29, .agg #[.int .i64 0, .int .i64 0, .string ByteArray.empty])] (Go.Op.binOp Go.BinOp.neq 30 (Go.Operand.tmp 28) (Go.Operand.tmp 29) 30) 4 (.bool false) w_1] (by kernel_rfl) ⟨runs_bin rfl rfl (run_eqGuard_agg _ _ _ _ _ _ _ (by kernel_rfl)) (by have h := plain_neq (o.vk, o.vn, o.vt) pl0 w_1; rw [show ple (o.vk, o.vn, o.vt) pl0 = true from (ple_iff _ _).2 c_9] at h; exact h), trivial⟩ ?_
          refine XL_nil ?_
          refine X_cond false rfl ?_
          refine X_seq ?_
          refine X_region ?_
          refine XL_run 2 [(35, .load (.int .i64 o.kind))] [(1, .pointer (some ⟨w.heap.size, 0, none⟩)), (35, .int .i64 o.kind)] w_1 [LoadsAs Tryd.prog 3 (⟨w.heap.size, 0, none⟩) (.int .i64 o.kind) w_1] (by kernel_rfl) ⟨loads1 rfl (Blk.cell hk_3 0 _ rfl), trivial⟩ ?_
          by_cases c_10 : o.kind = 2
          · refine XL_run 9 [(36, .eq (.bool true)), (39, .load (.string o.text)), (40, .eq (.bool false)), (43, .load (.string o.text))] [(1, .pointer (some ⟨w.heap.size, 0, none⟩)), (37, .bool true), (41, .bool false), (44, .int .i64 (o.text.size : Int))] w_1 [Value.bool (o.kind == 2) = Value.bool true, LoadsAs Tryd.prog 9 (⟨w.heap.size, 1, none⟩) (.string o.text) w_1, Value.bool (o.text.toList == (⟨#[]⟩ : ByteArray).toList) = Value.bool false, LoadsAs Tryd.prog 9 (⟨w.heap.size, 1, none⟩) (.string o.text) w_1] (by kernel_rfl) ⟨congrArg Value.bool (beq_iff_eq.2 (c_10)), loads1 rfl (Blk.cell hk_3 1 _ rfl), congrArg Value.bool (strEqF (c_8)), loads1 rfl (Blk.cell hk_3 1 _ rfl), trivial⟩ ?_
            by_cases c_11 : (o.text.size : Int) > 64
            · refine XL_run 4 [(45, .eq (.bool true))] [(1, .pointer (some ⟨w.heap.size, 0, none⟩)), (33, .bool true)] w_1 [Value.bool (decide ((o.text.size : Int) > 64)) = Value.bool true] (by kernel_rfl) ⟨congrArg Value.bool (decide_eq_true (c_11)), trivial⟩ ?_
              refine XL_nil ?_
              refine X_cond true rfl ?_
              refine X_seq ?_
              refine X_region ?_
              refine XL_run 1 [] [(2, .int .i64 6)] w_1 [] (by kernel_rfl) trivial ?_
              refine XL_nil ?_
              refine X_ret ?_
              refine RX.ret_ok (P := Tryd.prog) (fn := Tryd.f46) (N := 65) (R := R_) [.int .i64 6] (by kernel_rfl) (hR_ _ _ ?_)
              rw [show refuseP o = 6 from by unfold refuseP; simp_all <;> omega]
              exact ⟨rfl, hb_2⟩
            · refine XL_run 4 [(45, .eq (.bool false))] [(1, .pointer (some ⟨w.heap.size, 0, none⟩)), (33, .bool false)] w_1 [Value.bool (decide ((o.text.size : Int) > 64)) = Value.bool false] (by kernel_rfl) ⟨congrArg Value.bool (decide_eq_false (c_11)), trivial⟩ ?_
              refine XL_nil ?_
              refine X_cond false rfl ?_
              refine X_skip ?_
              refine X_seq ?_
              refine X_region ?_
              refine XL_run 2 [(49, .load (.string o.text))] [(1, .pointer (some ⟨w.heap.size, 0, none⟩)), (49, .string o.text)] w_1 [LoadsAs Tryd.prog 9 (⟨w.heap.size, 1, none⟩) (.string o.text) w_1] (by kernel_rfl) ⟨loads1 rfl (Blk.cell hk_3 1 _ rfl), trivial⟩ ?_
              refine XL_call 94 rfl rfl rfl ent94 [.string o.text] (by kernel_rfl) (utf8_any o.text _ (by omega)) ?_
              rintro e w_12 ⟨rfl, hb_13⟩; refine ⟨_, rfl, ?_⟩
              refine XL_run 1 [] [(1, .pointer (some ⟨w.heap.size, 0, none⟩)), (3, .bool ((uchk o.text).2))] w_12 [] (by kernel_rfl) trivial ?_
              refine XL_nil ?_
              refine X_seq ?_
              refine X_seq ?_
              refine X_region ?_
              refine XL_run 1 [] [(1, .pointer (some ⟨w.heap.size, 0, none⟩)), (51, .bool ((uchk o.text).2))] w_12 [] (by kernel_rfl) trivial ?_
              by_cases c_14 : (uchk o.text).2 = true
              · rw [show ((uchk o.text).2 : Bool) = true from by simpa using c_14]
                refine XL_run 1 [] [(1, .pointer (some ⟨w.heap.size, 0, none⟩)), (52, .bool false)] w_12 [] (by kernel_rfl) trivial ?_
                refine XL_nil ?_
                refine X_cond false rfl ?_
                refine X_skip ?_
                refine X_seq ?_
                refine X_seq ?_
                refine X_region ?_
                refine XL_run 3 [(54, .load (.int .i64 o.kind)), (55, .eq (.bool true))] [(1, .pointer (some ⟨w.heap.size, 0, none⟩)), (55, .bool true)] w_12 [LoadsAs Tryd.prog 3 (⟨w.heap.size, 0, none⟩) (.int .i64 o.kind) w_12, Value.bool (o.kind == 2) = Value.bool true] (by kernel_rfl) ⟨loads1 rfl (Blk.cell (Blk.below hk_3 hb_13) 0 _ rfl), congrArg Value.bool (beq_iff_eq.2 (c_10)), trivial⟩ ?_
                refine XL_nil ?_
                refine X_cond true rfl ?_
                refine X_seq ?_
                refine X_region ?_
                refine XL_run 2 [(57, .load (.agg #[.int .i64 o.vk, .int .i64 o.vn, .string o.vt]))] [(1, .pointer (some ⟨w.heap.size, 0, none⟩)), (57, .agg #[.int .i64 o.vk, .int .i64 o.vn, .string o.vt])] w_12 [LoadsAs Tryd.prog 30 (⟨w.heap.size, 2, none⟩) (.agg #[.int .i64 o.vk, .int .i64 o.vn, .string o.vt]) w_12] (by kernel_rfl) ⟨loadsB rfl rfl (Blk.below hk_3 hb_13) 2 ⟨by kernel_rfl, by kernel_rfl⟩, trivial⟩ ?_
                refine XL_call 95 rfl rfl rfl ent95 [.agg #[.int .i64 o.vk, .int .i64 o.vn, .string o.vt]] (by kernel_rfl) (r2check_any o.vk o.vn o.vt _ (by omega)) ?_
                rintro e w_15 ⟨rfl, hb_16⟩; refine ⟨_, rfl, ?_⟩
                refine XL_run 1 [] [(1, .pointer (some ⟨w.heap.size, 0, none⟩)), (4, .int .i64 (plainErr o.vk o.vn o.vt : Int))] w_15 [] (by kernel_rfl) trivial ?_
                refine XL_nil ?_
                refine X_seq ?_
                refine X_region ?_
                refine XL_run 1 [] [(1, .pointer (some ⟨w.heap.size, 0, none⟩)), (4, .int .i64 (plainErr o.vk o.vn o.vt : Int)), (59, .int .i64 (plainErr o.vk o.vn o.vt : Int))] w_15 [] (by kernel_rfl) trivial ?_
                by_cases c_17 : (plainErr o.vk o.vn o.vt : Int) = 0
                · refine XL_run 1 [(60, .eq (.bool false))] [(1, .pointer (some ⟨w.heap.size, 0, none⟩)), (4, .int .i64 (plainErr o.vk o.vn o.vt : Int)), (60, .bool false)] w_15 [Value.bool ((plainErr o.vk o.vn o.vt : Int) != 0) = Value.bool false] (by kernel_rfl) ⟨congrArg Value.bool (bneF (c_17)), trivial⟩ ?_
                  refine XL_nil ?_
                  refine X_cond false rfl ?_
                  refine X_skip ?_
                  refine X_seq ?_
                  refine X_region ?_
                  refine XL_run 2 [(63, .load (.slice A o.attrs.length c))] [(63, .slice A o.attrs.length c)] w_15 [LoadsAs Tryd.prog 31 (⟨w.heap.size, 6, none⟩) (.slice A o.attrs.length c) w_15] (by kernel_rfl) ⟨loads1 rfl (Blk.cell (Blk.below hk_3 (bt hb_13 hb_16)) 6 _ rfl), trivial⟩ ?_
                  refine XL_call 30 rfl rfl rfl ent30 [.slice A o.attrs.length c, .bool false] (by kernel_rfl) (r3check_any _ _ o.attrs false _ (Kd.C_below hA (bt (bt hb_2 hb_13) hb_16)) hz.2.2.2 (hT.below (bt (bt hb_2 hb_13) hb_16))) ?_
                  rintro e w_18 ⟨rfl, hb_19⟩; refine ⟨_, rfl, ?_⟩
                  refine XL_run 1 [] [(2, .int .i64 (chkA false o.attrs : Int))] w_18 [] (by kernel_rfl) trivial ?_
                  refine XL_nil ?_
                  refine X_ret ?_
                  refine RX.ret_ok (P := Tryd.prog) (fn := Tryd.f46) (N := 65) (R := R_) [.int .i64 (chkA false o.attrs : Int)] (by kernel_rfl) (hR_ _ _ ?_)
                  rw [show refuseP o = chkA false o.attrs from by unfold refuseP; simp_all <;> omega]
                  exact ⟨rfl, (bt (bt (bt hb_2 hb_13) hb_16) hb_19)⟩
                · refine XL_run 1 [(60, .eq (.bool true))] [(1, .pointer (some ⟨w.heap.size, 0, none⟩)), (4, .int .i64 (plainErr o.vk o.vn o.vt : Int)), (60, .bool true)] w_15 [Value.bool ((plainErr o.vk o.vn o.vt : Int) != 0) = Value.bool true] (by kernel_rfl) ⟨congrArg Value.bool (bneT (c_17)), trivial⟩ ?_
                  refine XL_nil ?_
                  refine X_cond true rfl ?_
                  refine X_seq ?_
                  refine X_region ?_
                  refine XL_run 2 [] [(2, .int .i64 (plainErr o.vk o.vn o.vt : Int))] w_15 [] (by kernel_rfl) trivial ?_
                  refine XL_nil ?_
                  refine X_ret ?_
                  refine RX.ret_ok (P := Tryd.prog) (fn := Tryd.f46) (N := 65) (R := R_) [.int .i64 (plainErr o.vk o.vn o.vt : Int)] (by kernel_rfl) (hR_ _ _ ?_)
                  rw [show refuseP o = plainErr o.vk o.vn o.vt from by unfold refuseP; simp_all <;> omega]
                  exact ⟨rfl, (bt (bt hb_2 hb_13) hb_16)⟩
              · rw [show ((uchk o.text).2 : Bool) = false from by simpa using c_14]
                refine XL_run 1 [] [(1, .pointer (some ⟨w.heap.size, 0, none⟩)), (52, .bool true)] w_12 [] (by kernel_rfl) trivial ?_
                refine XL_nil ?_
                refine X_cond true rfl ?_
                refine X_seq ?_
                refine X_region ?_
                refine XL_run 1 [] [(2, .int .i64 1)] w_12 [] (by kernel_rfl) trivial ?_
                refine XL_nil ?_
                refine X_ret ?_
                refine RX.ret_ok (P := Tryd.prog) (fn := Tryd.f46) (N := 65) (R := R_) [.int .i64 1] (by kernel_rfl) (hR_ _ _ ?_)
                rw [show refuseP o = 1 from by unfold refuseP; simp_all <;> omega]
                exact ⟨rfl, (bt hb_2 hb_13)⟩
          · refine XL_run 13 [(36, .eq (.bool false))] [(1, .pointer (some ⟨w.heap.size, 0, none⟩)), (33, .bool false)] w_1 [Value.bool (o.kind == 2) = Value.bool false] (by kernel_rfl) ⟨congrArg Value.bool (beq_eq_false_iff_ne.2 (c_10)), trivial⟩ ?_
            refine XL_nil ?_
            refine X_cond false rfl ?_
            refine X_skip ?_
            refine X_seq ?_
            refine X_region ?_
            refine XL_run 2 [(49, .load (.string o.text))] [(1, .pointer (some ⟨w.heap.size, 0, none⟩)), (49, .string o.text)] w_1 [LoadsAs Tryd.prog 9 (⟨w.heap.size, 1, none⟩) (.string o.text) w_1] (by kernel_rfl) ⟨loads1 rfl (Blk.cell hk_3 1 _ rfl), trivial⟩ ?_
            refine XL_call 94 rfl rfl rfl ent94 [.string o.text] (by kernel_rfl) (utf8_any o.text _ (by omega)) ?_
            rintro e w_20 ⟨rfl, hb_21⟩; refine ⟨_, rfl, ?_⟩
            refine XL_run 1 [] [(1, .pointer (some ⟨w.heap.size, 0, none⟩)), (3, .bool ((uchk o.text).2))] w_20 [] (by kernel_rfl) trivial ?_
            refine XL_nil ?_
            refine X_seq ?_
            refine X_seq ?_
            refine X_region ?_
            refine XL_run 1 [] [(1, .pointer (some ⟨w.heap.size, 0, none⟩)), (51, .bool ((uchk o.text).2))] w_20 [] (by kernel_rfl) trivial ?_
            by_cases c_22 : (uchk o.text).2 = true
            · rw [show ((uchk o.text).2 : Bool) = true from by simpa using c_22]
              refine XL_run 1 [] [(1, .pointer (some ⟨w.heap.size, 0, none⟩)), (52, .bool false)] w_20 [] (by kernel_rfl) trivial ?_
              refine XL_nil ?_
              refine X_cond false rfl ?_
              refine X_skip ?_
              refine X_seq ?_
              refine X_seq ?_
              refine X_region ?_
              refine XL_run 3 [(54, .load (.int .i64 o.kind)), (55, .eq (.bool false))] [(1, .pointer (some ⟨w.heap.size, 0, none⟩)), (55, .bool false)] w_20 [LoadsAs Tryd.prog 3 (⟨w.heap.size, 0, none⟩) (.int .i64 o.kind) w_20, Value.bool (o.kind == 2) = Value.bool false] (by kernel_rfl) ⟨loads1 rfl (Blk.cell (Blk.below hk_3 hb_21) 0 _ rfl), congrArg Value.bool (beq_eq_false_iff_ne.2 (c_10)), trivial⟩ ?_
              refine XL_nil ?_
              refine X_cond false rfl ?_
              refine X_skip ?_
              refine X_seq ?_
              refine X_region ?_
              refine XL_run 2 [(63, .load (.slice A o.attrs.length c))] [(63, .slice A o.attrs.length c)] w_20 [LoadsAs Tryd.prog 31 (⟨w.heap.size, 6, none⟩) (.slice A o.attrs.length c) w_20] (by kernel_rfl) ⟨loads1 rfl (Blk.cell (Blk.below hk_3 hb_21) 6 _ rfl), trivial⟩ ?_
              refine XL_call 30 rfl rfl rfl ent30 [.slice A o.attrs.length c, .bool false] (by kernel_rfl) (r3check_any _ _ o.attrs false _ (Kd.C_below hA (bt hb_2 hb_21)) hz.2.2.2 (hT.below (bt hb_2 hb_21))) ?_
              rintro e w_23 ⟨rfl, hb_24⟩; refine ⟨_, rfl, ?_⟩
              refine XL_run 1 [] [(2, .int .i64 (chkA false o.attrs : Int))] w_23 [] (by kernel_rfl) trivial ?_
              refine XL_nil ?_
              refine X_ret ?_
              refine RX.ret_ok (P := Tryd.prog) (fn := Tryd.f46) (N := 65) (R := R_) [.int .i64 (chkA false o.attrs : Int)] (by kernel_rfl) (hR_ _ _ ?_)
              rw [show refuseP o = chkA false o.attrs from by unfold refuseP; simp_all <;> omega]
              exact ⟨rfl, (bt (bt hb_2 hb_21) hb_24)⟩
            · rw [show ((uchk o.text).2 : Bool) = false from by simpa using c_22]
              refine XL_run 1 [] [(1, .pointer (some ⟨w.heap.size, 0, none⟩)), (52, .bool true)] w_20 [] (by kernel_rfl) trivial ?_
              refine XL_nil ?_
              refine X_cond true rfl ?_
              refine X_seq ?_
              refine X_region ?_
              refine XL_run 1 [] [(2, .int .i64 1)] w_20 [] (by kernel_rfl) trivial ?_
              refine XL_nil ?_
              refine X_ret ?_
              refine RX.ret_ok (P := Tryd.prog) (fn := Tryd.f46) (N := 65) (R := R_) [.int .i64 1] (by kernel_rfl) (hR_ _ _ ?_)
              rw [show refuseP o = 1 from by unfold refuseP; simp_all <;> omega]
              exact ⟨rfl, (bt hb_2 hb_21)⟩
        · refine XL_run 4 [(30, .as (.bool true))] [(1, .pointer (some ⟨w.heap.size, 0, none⟩)), (18, .bool true)] w_1 [RunsAs Tryd.prog [(28, .agg #[.int .i64 o.vk, .int .i64 o.vn, .string o.vt]), (29, .agg #[.int .i64 0, .int .i64 0, .string ByteArray.empty])] (Go.Op.binOp Go.BinOp.neq 30 (Go.Operand.tmp 28) (Go.Operand.tmp 29) 30) 4 (.bool true) w_1] (by kernel_rfl) ⟨runs_bin rfl rfl (run_eqGuard_agg _ _ _ _ _ _ _ (by kernel_rfl)) (by have h := plain_neq (o.vk, o.vn, o.vt) pl0 w_1; rw [show ple (o.vk, o.vn, o.vt) pl0 = false from Bool.eq_false_iff.2 (fun k => c_9 ((ple_iff _ _).1 k))] at h; exact h), trivial⟩ ?_
          refine XL_nil ?_
          refine X_cond true rfl ?_
          refine X_seq ?_
          refine X_region ?_
          refine XL_run 1 [] [(2, .int .i64 9)] w_1 [] (by kernel_rfl) trivial ?_
          refine XL_nil ?_
          refine X_ret ?_
          refine RX.ret_ok (P := Tryd.prog) (fn := Tryd.f46) (N := 65) (R := R_) [.int .i64 9] (by kernel_rfl) (hR_ _ _ ?_)
          rw [show refuseP o = 9 from by unfold refuseP; simp_all <;> omega]
          exact ⟨rfl, hb_2⟩
    · refine XL_run 2 [(17, .eq (.bool true))] [(1, .pointer (some ⟨w.heap.size, 0, none⟩)), (14, .bool true)] w_1 [Value.bool (o.count != 0) = Value.bool true] (by kernel_rfl) ⟨congrArg Value.bool (bneT (c_7)), trivial⟩ ?_
      refine XL_nil ?_
      refine X_cond true rfl ?_
      refine X_seq ?_
      refine X_region ?_
      refine XL_run 1 [] [(2, .int .i64 9)] w_1 [] (by kernel_rfl) trivial ?_
      refine XL_nil ?_
      refine X_ret ?_
      refine RX.ret_ok (P := Tryd.prog) (fn := Tryd.f46) (N := 65) (R := R_) [.int .i64 9] (by kernel_rfl) (hR_ _ _ ?_)
      rw [show refuseP o = 9 from by unfold refuseP; simp_all <;> omega]
      exact ⟨rfl, hb_2⟩
  · refine XL_run 4 [(8, .eq (.bool true)), (11, .load (.int .i64 o.kind))] [(1, .pointer (some ⟨w.heap.size, 0, none⟩)), (9, .bool true), (11, .int .i64 o.kind)] w_1 [Value.bool (o.kind != 1) = Value.bool true, LoadsAs Tryd.prog 3 (⟨w.heap.size, 0, none⟩) (.int .i64 o.kind) w_1] (by kernel_rfl) ⟨congrArg Value.bool (bneT (c_6)), loads1 rfl (Blk.cell hk_3 0 _ rfl), trivial⟩ ?_
    by_cases c_25 : o.kind = 2
    · refine XL_run 3 [(12, .eq (.bool false))] [(1, .pointer (some ⟨w.heap.size, 0, none⟩)), (5, .bool false)] w_1 [Value.bool (o.kind != 2) = Value.bool false] (by kernel_rfl) ⟨congrArg Value.bool (bneF (c_25)), trivial⟩ ?_
      refine XL_nil ?_
      refine X_cond false rfl ?_
      refine X_seq ?_
      refine X_region ?_
      refine XL_run 2 [(16, .load (.int .i64 o.count))] [(1, .pointer (some ⟨w.heap.size, 0, none⟩)), (16, .int .i64 o.count)] w_1 [LoadsAs Tryd.prog 3 (⟨w.heap.size, 5, none⟩) (.int .i64 o.count) w_1] (by kernel_rfl) ⟨loads1 rfl (Blk.cell hk_3 5 _ rfl), trivial⟩ ?_
      by_cases c_26 : o.count = 0
      · refine XL_run 2 [(17, .eq (.bool false))] [(1, .pointer (some ⟨w.heap.size, 0, none⟩)), (14, .bool false)] w_1 [Value.bool (o.count != 0) = Value.bool false] (by kernel_rfl) ⟨congrArg Value.bool (bneF (c_26)), trivial⟩ ?_
        refine XL_nil ?_
        refine X_cond false rfl ?_
        refine X_seq ?_
        refine X_region ?_
        refine XL_run 15 [(20, .load (.int .i64 o.kind)), (21, .eq (.bool false))] [(1, .pointer (some ⟨w.heap.size, 0, none⟩)), (18, .bool false)] w_1 [LoadsAs Tryd.prog 3 (⟨w.heap.size, 0, none⟩) (.int .i64 o.kind) w_1, Value.bool (o.kind == 1) = Value.bool false] (by kernel_rfl) ⟨loads1 rfl (Blk.cell hk_3 0 _ rfl), congrArg Value.bool (beq_eq_false_iff_ne.2 (c_6)), trivial⟩ ?_
        refine XL_nil ?_
        refine X_cond false rfl ?_
        refine X_seq ?_
        refine X_region ?_
        refine XL_run 6 [(35, .load (.int .i64 o.kind)), (36, .eq (.bool true)), (39, .load (.string o.text))] [(1, .pointer (some ⟨w.heap.size, 0, none⟩)), (37, .bool true), (39, .string o.text)] w_1 [LoadsAs Tryd.prog 3 (⟨w.heap.size, 0, none⟩) (.int .i64 o.kind) w_1, Value.bool (o.kind == 2) = Value.bool true, LoadsAs Tryd.prog 9 (⟨w.heap.size, 1, none⟩) (.string o.text) w_1] (by kernel_rfl) ⟨loads1 rfl (Blk.cell hk_3 0 _ rfl), congrArg Value.bool (beq_iff_eq.2 (c_25)), loads1 rfl (Blk.cell hk_3 1 _ rfl), trivial⟩ ?_
        by_cases c_27 : o.text = (⟨#[]⟩ : ByteArray)
        · refine XL_run 9 [(40, .eq (.bool true))] [(1, .pointer (some ⟨w.heap.size, 0, none⟩)), (33, .bool true)] w_1 [Value.bool (o.text.toList == (⟨#[]⟩ : ByteArray).toList) = Value.bool true] (by kernel_rfl) ⟨congrArg Value.bool (strEqT (c_27)), trivial⟩ ?_
          refine XL_nil ?_
          refine X_cond true rfl ?_
          refine X_seq ?_
          refine X_region ?_
          refine XL_run 1 [] [(2, .int .i64 6)] w_1 [] (by kernel_rfl) trivial ?_
          refine XL_nil ?_
          refine X_ret ?_
          refine RX.ret_ok (P := Tryd.prog) (fn := Tryd.f46) (N := 65) (R := R_) [.int .i64 6] (by kernel_rfl) (hR_ _ _ ?_)
          rw [show refuseP o = 6 from by unfold refuseP; simp_all <;> omega]
          exact ⟨rfl, hb_2⟩
        · refine XL_run 5 [(40, .eq (.bool false)), (43, .load (.string o.text))] [(1, .pointer (some ⟨w.heap.size, 0, none⟩)), (37, .bool true), (41, .bool false), (44, .int .i64 (o.text.size : Int))] w_1 [Value.bool (o.text.toList == (⟨#[]⟩ : ByteArray).toList) = Value.bool false, LoadsAs Tryd.prog 9 (⟨w.heap.size, 1, none⟩) (.string o.text) w_1] (by kernel_rfl) ⟨congrArg Value.bool (strEqF (c_27)), loads1 rfl (Blk.cell hk_3 1 _ rfl), trivial⟩ ?_
          by_cases c_28 : (o.text.size : Int) > 64
          · refine XL_run 4 [(45, .eq (.bool true))] [(1, .pointer (some ⟨w.heap.size, 0, none⟩)), (33, .bool true)] w_1 [Value.bool (decide ((o.text.size : Int) > 64)) = Value.bool true] (by kernel_rfl) ⟨congrArg Value.bool (decide_eq_true (c_28)), trivial⟩ ?_
            refine XL_nil ?_
            refine X_cond true rfl ?_
            refine X_seq ?_
            refine X_region ?_
            refine XL_run 1 [] [(2, .int .i64 6)] w_1 [] (by kernel_rfl) trivial ?_
            refine XL_nil ?_
            refine X_ret ?_
            refine RX.ret_ok (P := Tryd.prog) (fn := Tryd.f46) (N := 65) (R := R_) [.int .i64 6] (by kernel_rfl) (hR_ _ _ ?_)
            rw [show refuseP o = 6 from by unfold refuseP; simp_all <;> omega]
            exact ⟨rfl, hb_2⟩
          · refine XL_run 4 [(45, .eq (.bool false))] [(1, .pointer (some ⟨w.heap.size, 0, none⟩)), (33, .bool false)] w_1 [Value.bool (decide ((o.text.size : Int) > 64)) = Value.bool false] (by kernel_rfl) ⟨congrArg Value.bool (decide_eq_false (c_28)), trivial⟩ ?_
            refine XL_nil ?_
            refine X_cond false rfl ?_
            refine X_skip ?_
            refine X_seq ?_
            refine X_region ?_
            refine XL_run 2 [(49, .load (.string o.text))] [(1, .pointer (some ⟨w.heap.size, 0, none⟩)), (49, .string o.text)] w_1 [LoadsAs Tryd.prog 9 (⟨w.heap.size, 1, none⟩) (.string o.text) w_1] (by kernel_rfl) ⟨loads1 rfl (Blk.cell hk_3 1 _ rfl), trivial⟩ ?_
            refine XL_call 94 rfl rfl rfl ent94 [.string o.text] (by kernel_rfl) (utf8_any o.text _ (by omega)) ?_
            rintro e w_29 ⟨rfl, hb_30⟩; refine ⟨_, rfl, ?_⟩
            refine XL_run 1 [] [(1, .pointer (some ⟨w.heap.size, 0, none⟩)), (3, .bool ((uchk o.text).2))] w_29 [] (by kernel_rfl) trivial ?_
            refine XL_nil ?_
            refine X_seq ?_
            refine X_seq ?_
            refine X_region ?_
            refine XL_run 1 [] [(1, .pointer (some ⟨w.heap.size, 0, none⟩)), (51, .bool ((uchk o.text).2))] w_29 [] (by kernel_rfl) trivial ?_
            by_cases c_31 : (uchk o.text).2 = true
            · rw [show ((uchk o.text).2 : Bool) = true from by simpa using c_31]
              refine XL_run 1 [] [(1, .pointer (some ⟨w.heap.size, 0, none⟩)), (52, .bool false)] w_29 [] (by kernel_rfl) trivial ?_
              refine XL_nil ?_
              refine X_cond false rfl ?_
              refine X_skip ?_
              refine X_seq ?_
              refine X_seq ?_
              refine X_region ?_
              refine XL_run 3 [(54, .load (.int .i64 o.kind)), (55, .eq (.bool true))] [(1, .pointer (some ⟨w.heap.size, 0, none⟩)), (55, .bool true)] w_29 [LoadsAs Tryd.prog 3 (⟨w.heap.size, 0, none⟩) (.int .i64 o.kind) w_29, Value.bool (o.kind == 2) = Value.bool true] (by kernel_rfl) ⟨loads1 rfl (Blk.cell (Blk.below hk_3 hb_30) 0 _ rfl), congrArg Value.bool (beq_iff_eq.2 (c_25)), trivial⟩ ?_
              refine XL_nil ?_
              refine X_cond true rfl ?_
              refine X_seq ?_
              refine X_region ?_
              refine XL_run 2 [(57, .load (.agg #[.int .i64 o.vk, .int .i64 o.vn, .string o.vt]))] [(1, .pointer (some ⟨w.heap.size, 0, none⟩)), (57, .agg #[.int .i64 o.vk, .int .i64 o.vn, .string o.vt])] w_29 [LoadsAs Tryd.prog 30 (⟨w.heap.size, 2, none⟩) (.agg #[.int .i64 o.vk, .int .i64 o.vn, .string o.vt]) w_29] (by kernel_rfl) ⟨loadsB rfl rfl (Blk.below hk_3 hb_30) 2 ⟨by kernel_rfl, by kernel_rfl⟩, trivial⟩ ?_
              refine XL_call 95 rfl rfl rfl ent95 [.agg #[.int .i64 o.vk, .int .i64 o.vn, .string o.vt]] (by kernel_rfl) (r2check_any o.vk o.vn o.vt _ (by omega)) ?_
              rintro e w_32 ⟨rfl, hb_33⟩; refine ⟨_, rfl, ?_⟩
              refine XL_run 1 [] [(1, .pointer (some ⟨w.heap.size, 0, none⟩)), (4, .int .i64 (plainErr o.vk o.vn o.vt : Int))] w_32 [] (by kernel_rfl) trivial ?_
              refine XL_nil ?_
              refine X_seq ?_
              refine X_region ?_
              refine XL_run 1 [] [(1, .pointer (some ⟨w.heap.size, 0, none⟩)), (4, .int .i64 (plainErr o.vk o.vn o.vt : Int)), (59, .int .i64 (plainErr o.vk o.vn o.vt : Int))] w_32 [] (by kernel_rfl) trivial ?_
              by_cases c_34 : (plainErr o.vk o.vn o.vt : Int) = 0
              · refine XL_run 1 [(60, .eq (.bool false))] [(1, .pointer (some ⟨w.heap.size, 0, none⟩)), (4, .int .i64 (plainErr o.vk o.vn o.vt : Int)), (60, .bool false)] w_32 [Value.bool ((plainErr o.vk o.vn o.vt : Int) != 0) = Value.bool false] (by kernel_rfl) ⟨congrArg Value.bool (bneF (c_34)), trivial⟩ ?_
                refine XL_nil ?_
                refine X_cond false rfl ?_
                refine X_skip ?_
                refine X_seq ?_
                refine X_region ?_
                refine XL_run 2 [(63, .load (.slice A o.attrs.length c))] [(63, .slice A o.attrs.length c)] w_32 [LoadsAs Tryd.prog 31 (⟨w.heap.size, 6, none⟩) (.slice A o.attrs.length c) w_32] (by kernel_rfl) ⟨loads1 rfl (Blk.cell (Blk.below hk_3 (bt hb_30 hb_33)) 6 _ rfl), trivial⟩ ?_
                refine XL_call 30 rfl rfl rfl ent30 [.slice A o.attrs.length c, .bool false] (by kernel_rfl) (r3check_any _ _ o.attrs false _ (Kd.C_below hA (bt (bt hb_2 hb_30) hb_33)) hz.2.2.2 (hT.below (bt (bt hb_2 hb_30) hb_33))) ?_
                rintro e w_35 ⟨rfl, hb_36⟩; refine ⟨_, rfl, ?_⟩
                refine XL_run 1 [] [(2, .int .i64 (chkA false o.attrs : Int))] w_35 [] (by kernel_rfl) trivial ?_
                refine XL_nil ?_
                refine X_ret ?_
                refine RX.ret_ok (P := Tryd.prog) (fn := Tryd.f46) (N := 65) (R := R_) [.int .i64 (chkA false o.attrs : Int)] (by kernel_rfl) (hR_ _ _ ?_)
                rw [show refuseP o = chkA false o.attrs from by unfold refuseP; simp_all <;> omega]
                exact ⟨rfl, (bt (bt (bt hb_2 hb_30) hb_33) hb_36)⟩
              · refine XL_run 1 [(60, .eq (.bool true))] [(1, .pointer (some ⟨w.heap.size, 0, none⟩)), (4, .int .i64 (plainErr o.vk o.vn o.vt : Int)), (60, .bool true)] w_32 [Value.bool ((plainErr o.vk o.vn o.vt : Int) != 0) = Value.bool true] (by kernel_rfl) ⟨congrArg Value.bool (bneT (c_34)), trivial⟩ ?_
                refine XL_nil ?_
                refine X_cond true rfl ?_
                refine X_seq ?_
                refine X_region ?_
                refine XL_run 2 [] [(2, .int .i64 (plainErr o.vk o.vn o.vt : Int))] w_32 [] (by kernel_rfl) trivial ?_
                refine XL_nil ?_
                refine X_ret ?_
                refine RX.ret_ok (P := Tryd.prog) (fn := Tryd.f46) (N := 65) (R := R_) [.int .i64 (plainErr o.vk o.vn o.vt : Int)] (by kernel_rfl) (hR_ _ _ ?_)
                rw [show refuseP o = plainErr o.vk o.vn o.vt from by unfold refuseP; simp_all <;> omega]
                exact ⟨rfl, (bt (bt hb_2 hb_30) hb_33)⟩
            · rw [show ((uchk o.text).2 : Bool) = false from by simpa using c_31]
              refine XL_run 1 [] [(1, .pointer (some ⟨w.heap.size, 0, none⟩)), (52, .bool true)] w_29 [] (by kernel_rfl) trivial ?_
              refine XL_nil ?_
              refine X_cond true rfl ?_
              refine X_seq ?_
              refine X_region ?_
              refine XL_run 1 [] [(2, .int .i64 1)] w_29 [] (by kernel_rfl) trivial ?_
              refine XL_nil ?_
              refine X_ret ?_
              refine RX.ret_ok (P := Tryd.prog) (fn := Tryd.f46) (N := 65) (R := R_) [.int .i64 1] (by kernel_rfl) (hR_ _ _ ?_)
              rw [show refuseP o = 1 from by unfold refuseP; simp_all <;> omega]
              exact ⟨rfl, (bt hb_2 hb_30)⟩
      · refine XL_run 2 [(17, .eq (.bool true))] [(1, .pointer (some ⟨w.heap.size, 0, none⟩)), (14, .bool true)] w_1 [Value.bool (o.count != 0) = Value.bool true] (by kernel_rfl) ⟨congrArg Value.bool (bneT (c_26)), trivial⟩ ?_
        refine XL_nil ?_
        refine X_cond true rfl ?_
        refine X_seq ?_
        refine X_region ?_
        refine XL_run 1 [] [(2, .int .i64 9)] w_1 [] (by kernel_rfl) trivial ?_
        refine XL_nil ?_
        refine X_ret ?_
        refine RX.ret_ok (P := Tryd.prog) (fn := Tryd.f46) (N := 65) (R := R_) [.int .i64 9] (by kernel_rfl) (hR_ _ _ ?_)
        rw [show refuseP o = 9 from by unfold refuseP; simp_all <;> omega]
        exact ⟨rfl, hb_2⟩
    · refine XL_run 3 [(12, .eq (.bool true))] [(1, .pointer (some ⟨w.heap.size, 0, none⟩)), (5, .bool true)] w_1 [Value.bool (o.kind != 2) = Value.bool true] (by kernel_rfl) ⟨congrArg Value.bool (bneT (c_25)), trivial⟩ ?_
      refine XL_nil ?_
      refine X_cond true rfl ?_
      refine X_seq ?_
      refine X_region ?_
      refine XL_run 1 [] [(2, .int .i64 5)] w_1 [] (by kernel_rfl) trivial ?_
      refine XL_nil ?_
      refine X_ret ?_
      refine RX.ret_ok (P := Tryd.prog) (fn := Tryd.f46) (N := 65) (R := R_) [.int .i64 5] (by kernel_rfl) (hR_ _ _ ?_)
      rw [show refuseP o = 5 from by unfold refuseP; simp_all <;> omega]
      exact ⟨rfl, hb_2⟩
noncomputable def len4 (o : OpA) : Int := if o.kind = 2 then 1 else ((U.sc o.text).length : Int)
theorem r4len_any (o : OpA) (A : Option Addr) (c : Nat) (w : World) (hA : kAttr.C w A o.attrs.length o.attrs) (hz : opSz o) : Calls Tryd.prog 54 #[.agg #[.int .i64 o.kind, .string o.text, .int .i64 o.vk, .int .i64 o.vn, .string o.vt, .int .i64 o.count, .slice A o.attrs.length c]] w fun e w' => e = .returned (.int .i64 (len4 o)) ∧ Below w.heap.size w w' := by
  have hz1 := hz.b.1
  refine RX.enter Tryd.func54 rfl 10 rfl [(0, .agg #[.int .i64 o.kind, .string o.text, .int .i64 o.vk, .int .i64 o.vn, .string o.vt, .int .i64 o.count, .slice A o.attrs.length c])] rfl (by kernel_rfl) (fun R_ hR_ => ?_)
  refine X_seq ?_
  refine X_region ?_
  refine XL_run 1 [] [(1, .pointer (some ⟨w.heap.size, 0, none⟩))] (w.alloc (.cells #[.int .i64 o.kind, .string o.text, .int .i64 o.vk, .int .i64 o.vn, .string o.vt, .int .i64 o.count, .slice A o.attrs.length c] 33)) [] (by kernel_rfl) trivial ?_
  obtain ⟨w_1, hw_5, hb_2, hk_3, hz_4⟩ := new_world w #[.int .i64 o.kind, .string o.text, .int .i64 o.vk, .int .i64 o.vn, .string o.vt, .int .i64 o.count, .slice A o.attrs.length c] 33
  rw [hw_5]
  refine XL_run 1 [] [(1, .pointer (some ⟨w.heap.size, 0, none⟩))] w_1 [] (by kernel_rfl) trivial ?_
  refine XL_nil ?_
  refine X_seq ?_
  refine X_seq ?_
  refine X_region ?_
  refine XL_run 2 [(4, .load (.int .i64 o.kind))] [(1, .pointer (some ⟨w.heap.size, 0, none⟩)), (4, .int .i64 o.kind)] w_1 [LoadsAs Tryd.prog 3 (⟨w.heap.size, 0, none⟩) (.int .i64 o.kind) w_1] (by kernel_rfl) ⟨loads1 rfl (Blk.cell hk_3 0 _ rfl), trivial⟩ ?_
  by_cases c_6 : o.kind = 2
  · refine XL_run 1 [(5, .eq (.bool true))] [(1, .pointer (some ⟨w.heap.size, 0, none⟩)), (5, .bool true)] w_1 [Value.bool (o.kind == 2) = Value.bool true] (by kernel_rfl) ⟨congrArg Value.bool (beq_iff_eq.2 (c_6)), trivial⟩ ?_
    refine XL_nil ?_
    refine X_cond true rfl ?_
    refine X_seq ?_
    refine X_region ?_
    refine XL_run 1 [] [(2, .int .i64 1)] w_1 [] (by kernel_rfl) trivial ?_
    refine XL_nil ?_
    refine X_ret ?_
    refine RX.ret_ok (P := Tryd.prog) (fn := Tryd.f54) (N := 10) (R := R_) [.int .i64 1] (by kernel_rfl) (hR_ _ _ ?_)
    rw [show len4 o = 1 from by unfold len4; simp_all]
    exact ⟨rfl, hb_2⟩
  · refine XL_run 1 [(5, .eq (.bool false))] [(1, .pointer (some ⟨w.heap.size, 0, none⟩)), (5, .bool false)] w_1 [Value.bool (o.kind == 2) = Value.bool false] (by kernel_rfl) ⟨congrArg Value.bool (beq_eq_false_iff_ne.2 (c_6)), trivial⟩ ?_
    refine XL_nil ?_
    refine X_cond false rfl ?_
    refine X_skip ?_
    refine X_seq ?_
    refine X_region ?_
    refine XL_run 2 [(7, .load (.string o.text))] [(7, .string o.text)] w_1 [LoadsAs Tryd.prog 9 (⟨w.heap.size, 1, none⟩) (.string o.text) w_1] (by kernel_rfl) ⟨loads1 rfl (Blk.cell hk_3 1 _ rfl), trivial⟩ ?_
    refine XL_call 104 rfl rfl rfl ent104 [.string o.text] (by kernel_rfl) (rlist_any o.text _ (by omega)) ?_
    rintro e w_11 ⟨A_7, c_8, rfl, hl_9, hr_10, hb_12⟩; refine ⟨_, rfl, ?_⟩
    refine XL_run 2 [] [(2, .int .i64 ((U.scz o.text).length : Int))] w_11 [] (by kernel_rfl) trivial ?_
    refine XL_nil ?_
    refine X_ret ?_
    refine RX.ret_ok (P := Tryd.prog) (fn := Tryd.f54) (N := 10) (R := R_) [.int .i64 ((U.scz o.text).length : Int)] (by kernel_rfl) (hR_ _ _ ?_)
    rw [show len4 o = ((U.scz o.text).length : Int) from by unfold len4; rw [if_neg c_6, show U.scz o.text = (U.sc o.text).map (fun (r_ : Nat) => (r_ : Int)) from rfl, List.length_map]]
    exact ⟨rfl, (bt hb_2 hb_12)⟩
theorem sattrs_any (A A' : Option Addr) (c c' : Nat) (xs ys : List At) (w : World) (hx : kAttr.C w A xs.length xs) (hy : kAttr.C w A' ys.length ys) :
    Calls Tryd.prog 65 #[.slice A xs.length c, .slice A' ys.length c'] w fun e w' => e = .returned (.bool (decide (xs = ys))) ∧ Below w.heap.size w w' := by
  have hpl : xs.length ≤ 9223372036854775807 := hx.2.1
  refine RX.enter Tryd.func65 rfl 26 rfl [(0, .slice A xs.length c), (1, .slice A' ys.length c')] rfl (by kernel_rfl) (fun R_ hR_ => ?_)
  refine X_seq ?_
  refine X_region ?_
  refine XL_run 1 [] [(0, .slice A xs.length c), (1, .slice A' ys.length c')] w [] (by kernel_rfl) trivial ?_
  refine XL_nil ?_
  refine X_seq ?_
  refine X_seq ?_
  refine X_region ?_
  refine XL_run 4 [] [(0, .slice A xs.length c), (1, .slice A' ys.length c'), (7, .int .i64 (xs.length : Int)), (9, .int .i64 (ys.length : Int))] w [] (by kernel_rfl) trivial ?_
  by_cases c_1 : (xs.length : Int) = (ys.length : Int)
  · refine XL_run 1 [(10, .eq (.bool false))] [(0, .slice A xs.length c), (1, .slice A' ys.length c'), (10, .bool false)] w [Value.bool ((xs.length : Int) != (ys.length : Int)) = Value.bool false] (by kernel_rfl) ⟨congrArg Value.bool (bneF (c_1)), trivial⟩ ?_
    refine XL_nil ?_
    refine X_cond false rfl ?_
    refine X_skip ?_
    refine X_seq ?_
    refine X_seq ?_
    refine X_region ?_
    refine XL_run 3 [] [(0, .slice A xs.length c), (1, .slice A' ys.length c'), (12, .int .i64 (xs.length : Int)), (13, .int .i64 0)] w [] (by kernel_rfl) trivial ?_
    refine XL_nil ?_
    refine X_block ?_
    refine X_loop (ι := Nat) (fun i => [(0, .slice A xs.length c), (1, .slice A' ys.length c'), (12, .int .i64 (xs.length : Int)), (13, .int .i64 (i : Int))]) (fun i wl => i ≤ xs.length ∧ xs.length = ys.length ∧ (∀ q, q < i → xs.getD q at0 = ys.getD q at0) ∧ Below w.heap.size w wl) (fun i => xs.length - i) 0 ⟨by omega, by omega, fun q hq => by omega, (Below.refl _ _)⟩ (by kernel_rfl) ?_
    rintro i wl ⟨hi, hlen, hq0, HB⟩
    refine X_seq ?_
    refine X_region ?_
    by_cases c_2 : (i : Int) < (xs.length : Int)
    · refine XL_run 1 [(14, .eq (.bool true))] [(0, .slice A xs.length c), (1, .slice A' ys.length c'), (12, .int .i64 (xs.length : Int)), (13, .int .i64 (i : Int)), (14, .bool true)] wl [Value.bool (decide ((i : Int) < (xs.length : Int))) = Value.bool true] (by kernel_rfl) ⟨congrArg Value.bool (decide_eq_true (c_2)), trivial⟩ ?_
      refine XL_nil ?_
      refine X_seq ?_
      refine X_cond true rfl ?_
      refine X_skip ?_
      refine X_seq ?_
      refine X_block ?_
      refine X_seq ?_
      refine X_region ?_
      refine XL_run 2 [] [(0, .slice A xs.length c), (1, .slice A' ys.length c'), (5, .int .i64 (i : Int)), (12, .int .i64 (xs.length : Int)), (13, .int .i64 (i : Int))] wl [] (by kernel_rfl) trivial ?_
      refine XL_nil ?_
      refine X_seq ?_
      refine X_still (by kernel_rfl) (by kernel_rfl) (fun wd_3 hb_4 hh_5 => ?_)
      refine XS_run 2 [] [.slice A xs.length c, .int .i64 (i : Int)] [(0, .slice A xs.length c), (1, .slice A' ys.length c'), (5, .int .i64 (i : Int)), (12, .int .i64 (xs.length : Int)), (13, .int .i64 (i : Int)), (16, .slice A xs.length c), (17, .int .i64 (i : Int))] [] (by kernel_rfl) (by kernel_rfl) trivial ?_
      obtain ⟨ad_6, ha_7, hc_8⟩ := Kd.atAttr (Kd.C_below hx (bt HB hb_4)) (i := (i : Int)) (by omega) (by omega)
      replace hc_8 : CellsAt wd_3 (ad_6.add ((i : Int).toNat * 4)) [.string ((xs.getD i at0).1), .int .i64 ((xs.getD i at0).2.1), .int .i64 ((xs.getD i at0).2.2.1), .string ((xs.getD i at0).2.2.2)] := hc_8
      refine XS_run 4 [(18, .idx ad_6), (19, .load (.agg #[.string ((xs.getD i at0).1), .int .i64 ((xs.getD i at0).2.1), .int .i64 ((xs.getD i at0).2.2.1), .string ((xs.getD i at0).2.2.2)]))] [.pointer (some (ad_6.add ((i : Int).toNat * 4))), .agg #[.string ((xs.getD i at0).1), .int .i64 ((xs.getD i at0).2.1), .int .i64 ((xs.getD i at0).2.2.1), .string ((xs.getD i at0).2.2.2)], .slice A' ys.length c', .int .i64 (i : Int)] [(0, .slice A xs.length c), (1, .slice A' ys.length c'), (12, .int .i64 (xs.length : Int)), (13, .int .i64 (i : Int)), (19, .agg #[.string ((xs.getD i at0).1), .int .i64 ((xs.getD i at0).2.1), .int .i64 ((xs.getD i at0).2.2.1), .string ((xs.getD i at0).2.2.2)]), (20, .slice A' ys.length c'), (21, .int .i64 (i : Int))] [A = some ad_6, (0 : Int) ≤ (i : Int), (i : Int) < (xs.length : Int), LoadsAs Tryd.prog 79 (ad_6.add ((i : Int).toNat * 4)) (.agg #[.string ((xs.getD i at0).1), .int .i64 ((xs.getD i at0).2.1), .int .i64 ((xs.getD i at0).2.2.1), .string ((xs.getD i at0).2.2.2)]) wd_3] (by kernel_rfl) (by kernel_rfl) ⟨ha_7, (by omega), (by omega), loadsE rfl rfl hc_8 0 ⟨by kernel_rfl, by kernel_rfl⟩, trivial⟩ ?_
      obtain ⟨ad_9, ha_10, hc_11⟩ := Kd.atAttr (Kd.C_below hy (bt HB hb_4)) (i := (i : Int)) (by omega) (by omega)
      replace hc_11 : CellsAt wd_3 (ad_9.add ((i : Int).toNat * 4)) [.string ((ys.getD i at0).1), .int .i64 ((ys.getD i at0).2.1), .int .i64 ((ys.getD i at0).2.2.1), .string ((ys.getD i at0).2.2.2)] := hc_11
      refine XS_run 2 [(22, .idx ad_9), (23, .load (.agg #[.string ((ys.getD i at0).1), .int .i64 ((ys.getD i at0).2.1), .int .i64 ((ys.getD i at0).2.2.1), .string ((ys.getD i at0).2.2.2)]))] [.pointer (some (ad_9.add ((i : Int).toNat * 4))), .agg #[.string ((ys.getD i at0).1), .int .i64 ((ys.getD i at0).2.1), .int .i64 ((ys.getD i at0).2.2.1), .string ((ys.getD i at0).2.2.2)]] [(0, .slice A xs.length c), (1, .slice A' ys.length c'), (12, .int .i64 (xs.length : Int)), (13, .int .i64 (i : Int)), (19, .agg #[.string ((xs.getD i at0).1), .int .i64 ((xs.getD i at0).2.1), .int .i64 ((xs.getD i at0).2.2.1), .string ((xs.getD i at0).2.2.2)]), (23, .agg #[.string ((ys.getD i at0).1), .int .i64 ((ys.getD i at0).2.1), .int .i64 ((ys.getD i at0).2.2.1), .string ((ys.getD i at0).2.2.2)])] [A' = some ad_9, (0 : Int) ≤ (i : Int), (i : Int) < (ys.length : Int), LoadsAs Tryd.prog 79 (ad_9.add ((i : Int).toNat * 4)) (.agg #[.string ((ys.getD i at0).1), .int .i64 ((ys.getD i at0).2.1), .int .i64 ((ys.getD i at0).2.2.1), .string ((ys.getD i at0).2.2.2)]) wd_3] (by kernel_rfl) (by kernel_rfl) ⟨ha_10, (by omega), (by omega), loadsE rfl rfl hc_11 0 ⟨by kernel_rfl, by kernel_rfl⟩, trivial⟩ ?_
      by_cases c_12 : (xs.getD i at0) = (ys.getD i at0)
      · refine XS_run 1 [(24, .as (.bool false))] [.bool false] [(0, .slice A xs.length c), (1, .slice A' ys.length c'), (12, .int .i64 (xs.length : Int)), (13, .int .i64 (i : Int)), (24, .bool false)] [RunsAs Tryd.prog [(19, .agg #[.string ((xs.getD i at0).1), .int .i64 ((xs.getD i at0).2.1), .int .i64 ((xs.getD i at0).2.2.1), .string ((xs.getD i at0).2.2.2)]), (23, .agg #[.string ((ys.getD i at0).1), .int .i64 ((ys.getD i at0).2.1), .int .i64 ((ys.getD i at0).2.2.1), .string ((ys.getD i at0).2.2.2)])] (Go.Op.binOp Go.BinOp.neq 79 (Go.Operand.tmp 19) (Go.Operand.tmp 23) 79) 4 (.bool false) wd_3] (by kernel_rfl) (by kernel_rfl) ⟨runs_bin rfl rfl (run_eqGuard_agg _ _ _ _ _ _ _ (by kernel_rfl)) (by have h := attr_neq (xs.getD i at0) (ys.getD i at0) wd_3; rw [show atEq (xs.getD i at0) (ys.getD i at0) = true from (atEq_iff _ _).2 c_12] at h; exact h), trivial⟩ ?_
        refine XS_nil ?_
        refine X_cond false rfl ?_
        refine X_skip ?_
        refine X_region ?_
        refine XL_run 2 [(25, .eq (.int .i64 ((i : Int) + 1)))] [(0, .slice A xs.length c), (1, .slice A' ys.length c'), (12, .int .i64 (xs.length : Int)), (13, .int .i64 ((i : Int) + 1))] wd_3 [Value.int .i64 (IntKind.i64.wrap ((i : Int) + 1)) = Value.int .i64 ((i : Int) + 1)] (by kernel_rfl) ⟨wr_i64 (by omega) (by omega), trivial⟩ ?_
        refine XL_nil ?_
        refine ⟨(i + 1), by kernel_rfl, ?_, ?_⟩
        · exact ⟨by omega, by omega, fun q hq => by by_cases e : q = i; (· subst e; exact c_12); (· exact hq0 q (by omega)), (bt HB hb_4)⟩
        · (try dsimp only); omega
      · refine XS_run 1 [(24, .as (.bool true))] [.bool true] [(0, .slice A xs.length c), (1, .slice A' ys.length c'), (12, .int .i64 (xs.length : Int)), (13, .int .i64 (i : Int)), (24, .bool true)] [RunsAs Tryd.prog [(19, .agg #[.string ((xs.getD i at0).1), .int .i64 ((xs.getD i at0).2.1), .int .i64 ((xs.getD i at0).2.2.1), .string ((xs.getD i at0).2.2.2)]), (23, .agg #[.string ((ys.getD i at0).1), .int .i64 ((ys.getD i at0).2.1), .int .i64 ((ys.getD i at0).2.2.1), .string ((ys.getD i at0).2.2.2)])] (Go.Op.binOp Go.BinOp.neq 79 (Go.Operand.tmp 19) (Go.Operand.tmp 23) 79) 4 (.bool true) wd_3] (by kernel_rfl) (by kernel_rfl) ⟨runs_bin rfl rfl (run_eqGuard_agg _ _ _ _ _ _ _ (by kernel_rfl)) (by have h := attr_neq (xs.getD i at0) (ys.getD i at0) wd_3; rw [show atEq (xs.getD i at0) (ys.getD i at0) = false from Bool.eq_false_iff.2 (fun k => c_12 ((atEq_iff _ _).1 k))] at h; exact h), trivial⟩ ?_
        refine XS_nil ?_
        refine X_cond true rfl ?_
        refine X_seq ?_
        refine X_region ?_
        refine XL_run 1 [] [(4, .bool false)] wd_3 [] (by kernel_rfl) trivial ?_
        refine XL_nil ?_
        refine X_ret ?_
        refine RX.ret_ok (P := Tryd.prog) (fn := Tryd.f65) (N := 26) (R := R_) [.bool false] (by kernel_rfl) (hR_ _ _ ?_)
        rw [decide_eq_false (fun e => c_12 (by rw [e]))]
        exact ⟨rfl, (bt HB hb_4)⟩
    · refine XL_run 1 [(14, .eq (.bool false))] [(0, .slice A xs.length c), (1, .slice A' ys.length c'), (12, .int .i64 (xs.length : Int)), (13, .int .i64 (i : Int)), (14, .bool false)] wl [Value.bool (decide ((i : Int) < (xs.length : Int))) = Value.bool false] (by kernel_rfl) ⟨congrArg Value.bool (decide_eq_false (c_2)), trivial⟩ ?_
      refine XL_nil ?_
      refine X_seq ?_
      refine X_cond false rfl ?_
      refine X_exit ?_
      refine X_seq ?_
      refine X_region ?_
      refine XL_run 1 [] [(4, .bool true)] wl [] (by kernel_rfl) trivial ?_
      refine XL_nil ?_
      refine X_ret ?_
      refine RX.ret_ok (P := Tryd.prog) (fn := Tryd.f65) (N := 26) (R := R_) [.bool true] (by kernel_rfl) (hR_ _ _ ?_)
      rw [decide_eq_true (show xs = ys from List.ext_getElem hlen fun q h1 h2 => by have := hq0 q (by omega); simpa [List.getD_eq_getElem?_getD, List.getElem?_eq_getElem h1, List.getElem?_eq_getElem h2] using this)]
      exact ⟨rfl, HB⟩
  · refine XL_run 1 [(10, .eq (.bool true))] [(0, .slice A xs.length c), (1, .slice A' ys.length c'), (10, .bool true)] w [Value.bool ((xs.length : Int) != (ys.length : Int)) = Value.bool true] (by kernel_rfl) ⟨congrArg Value.bool (bneT (c_1)), trivial⟩ ?_
    refine XL_nil ?_
    refine X_cond true rfl ?_
    refine X_seq ?_
    refine X_region ?_
    refine XL_run 1 [] [(4, .bool false)] w [] (by kernel_rfl) trivial ?_
    refine XL_nil ?_
    refine X_ret ?_
    refine RX.ret_ok (P := Tryd.prog) (fn := Tryd.f65) (N := 26) (R := R_) [.bool false] (by kernel_rfl) (hR_ _ _ ?_)
    rw [decide_eq_false (show ¬ xs = ys from fun e => by subst e; omega)]
    exact ⟨rfl, (Below.refl _ _)⟩
end Go.Proofs.YtekfdfafhfhfbaaDoor
