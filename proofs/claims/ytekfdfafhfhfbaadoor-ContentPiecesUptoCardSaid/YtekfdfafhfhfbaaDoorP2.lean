/- What vellumref04.Cut, Join, Cells and their comparisons answer. Conditions: sizes, the tables of utf8. -/
import Derived.Test.YtekfdfafhfhfbaaDoorCut
set_option linter.unusedVariables false
set_option linter.unusedSimpArgs false
set_option maxRecDepth 100000
namespace Go.Proofs.YtekfdfafhfhfbaaDoor
open Go Go.RowKit Go.Proofs.YtekfdfafhfhfbaaDoorW.PrintWords RX
theorem ent59 : Ent Tryd.prog 59 := ent_of Tryd.func59 (by kernel_rfl) rfl
theorem ent103 : Ent Tryd.prog 103 := ent_of Tryd.func103 (by kernel_rfl) rfl
theorem ent60 : Ent Tryd.prog 60 := ent_of Tryd.func60 (by kernel_rfl) rfl
theorem ent62 : Ent Tryd.prog 62 := ent_of Tryd.func62 (by kernel_rfl) rfl
theorem ent53 : Ent Tryd.prog 53 := ent_of Tryd.func53 (by kernel_rfl) rfl
theorem ent105 : Ent Tryd.prog 105 := ent_of Tryd.func105 (by kernel_rfl) rfl
theorem ent55 : Ent Tryd.prog 55 := ent_of Tryd.func55 (by kernel_rfl) rfl
theorem ent56 : Ent Tryd.prog 56 := ent_of Tryd.func56 (by kernel_rfl) rfl
theorem ent102 : Ent Tryd.prog 102 := ent_of Tryd.func102 (by kernel_rfl) rfl
theorem r4copied_any (A : Option Addr) (c : Nat) (xs : List At) (w : World) (hx : kAttr.C w A xs.length xs) (hn : xs.length ≤ 100000000) : Calls Tryd.prog 103 #[.slice A xs.length c] w fun e w' => ∃ A' c', e = .returned (.slice A' xs.length c') ∧ xs.length ≤ c' ∧ kAttr.R 79 w' w.heap.size (OkFrom w.heap.size) (.slice A' xs.length c') xs ∧ Below w.heap.size w w' := by
  have hpl : xs.length ≤ 9223372036854775807 := hx.2.1
  refine RX.enter Tryd.func103 rfl 6 rfl [(0, .slice A xs.length c)] rfl (by kernel_rfl) (fun R_ hR_ => ?_)
  refine X_seq ?_
  refine X_region ?_
  refine XL_run 1 [] [(0, .slice A xs.length c)] w [] (by kernel_rfl) trivial ?_
  refine XL_nil ?_
  refine X_seq ?_
  refine X_region ?_
  refine XL_run 1 [] [(0, .slice A xs.length c), (3, .slice (some ⟨w.heap.size, 0, none⟩) 0 0)] (w.alloc (.cells #[] 79)) [] (by kernel_rfl) trivial ?_
  obtain ⟨w_1, hw_5, hb_2, hk_3, hz_4⟩ := new_world w #[] 79
  rw [hw_5]
  refine XL_run 1 [] [(3, .slice (some ⟨w.heap.size, 0, none⟩) 0 0), (4, .slice A xs.length c)] w_1 [] (by kernel_rfl) trivial ?_
  have hr_6 := Kd.R_litB kAttr (W := w) (e := 79) (cs := #[]) [] hk_3 (repsAttr []) (Nat.le_of_ble_eq_true (by kernel_rfl))
  refine XL_appendAll (c' := c) kAttr rfl rfl rfl w.heap.size 79 (.agg #[.string ByteArray.empty, .int .i64 0, .int .i64 0, .string ByteArray.empty]) 48 Tryd.underlying31 info79 rfl (by decide) (by omega) ([]) xs (by kernel_rfl) hr_6 (Kd.C_below hx hb_2) kAttr_KM (hb_2).size (by first | omega | (simp; omega)) ?_
  intro A_7 c_8 w_9 hr_10 hc_11 hg_12 hl_13 ha_14
  have he_15 : ([] ++ xs) = xs := List.nil_append _
  rw [he_15] at hr_10 ⊢
  refine XL_run 1 [] [(2, .slice A_7 xs.length c_8)] w_9 [] (by kernel_rfl) trivial ?_
  refine XL_nil ?_
  refine X_ret ?_
  refine RX.ret_ok (P := Tryd.prog) (fn := Tryd.f103) (N := 6) (R := R_) [.slice A_7 xs.length c_8] (by kernel_rfl) (hR_ _ _ ?_)
  exact ⟨_, _, rfl, (RX.Kd.R_len hr_10).2, Kd.R_low hr_10 (Nat.le_refl _), (bgo hb_2 hg_12 hl_13 (Nat.le_refl _))⟩
theorem r4same_any (a b : OpA) (A B : Option Addr) (c d : Nat) (w : World) (hA : kAttr.C w A a.attrs.length a.attrs) (hB : kAttr.C w B b.attrs.length b.attrs) : Calls Tryd.prog 60 #[.agg #[.int .i64 a.kind, .string a.text, .int .i64 a.vk, .int .i64 a.vn, .string a.vt, .int .i64 a.count, .slice A a.attrs.length c], .agg #[.int .i64 b.kind, .string b.text, .int .i64 b.vk, .int .i64 b.vn, .string b.vt, .int .i64 b.count, .slice B b.attrs.length d]] w fun e w' => e = .returned (.bool (opEqP a b)) ∧ Below w.heap.size w w' := by
  refine RX.enter Tryd.func60 rfl 38 rfl [(0, .agg #[.int .i64 a.kind, .string a.text, .int .i64 a.vk, .int .i64 a.vn, .string a.vt, .int .i64 a.count, .slice A a.attrs.length c]), (1, .agg #[.int .i64 b.kind, .string b.text, .int .i64 b.vk, .int .i64 b.vn, .string b.vt, .int .i64 b.count, .slice B b.attrs.length d])] rfl (by kernel_rfl) (fun R_ hR_ => ?_)
  refine X_seq ?_
  refine X_region ?_
  refine XL_run 1 [] [(1, .agg #[.int .i64 b.kind, .string b.text, .int .i64 b.vk, .int .i64 b.vn, .string b.vt, .int .i64 b.count, .slice B b.attrs.length d]), (2, .pointer (some ⟨w.heap.size, 0, none⟩))] (w.alloc (.cells #[.int .i64 a.kind, .string a.text, .int .i64 a.vk, .int .i64 a.vn, .string a.vt, .int .i64 a.count, .slice A a.attrs.length c] 33)) [] (by kernel_rfl) trivial ?_
  obtain ⟨w_1, hw_5, hb_2, hk_3, hz_4⟩ := new_world w #[.int .i64 a.kind, .string a.text, .int .i64 a.vk, .int .i64 a.vn, .string a.vt, .int .i64 a.count, .slice A a.attrs.length c] 33
  rw [hw_5]
  refine XL_run 1 [] [(2, .pointer (some ⟨w.heap.size, 0, none⟩)), (3, .pointer (some ⟨w_1.heap.size, 0, none⟩))] (w_1.alloc (.cells #[.int .i64 b.kind, .string b.text, .int .i64 b.vk, .int .i64 b.vn, .string b.vt, .int .i64 b.count, .slice B b.attrs.length d] 33)) [] (by kernel_rfl) trivial ?_
  obtain ⟨w_6, hw_10, hb_7, hk_8, hz_9⟩ := new_world w_1 #[.int .i64 b.kind, .string b.text, .int .i64 b.vk, .int .i64 b.vn, .string b.vt, .int .i64 b.count, .slice B b.attrs.length d] 33
  rw [hw_10]
  refine XL_run 1 [] [(2, .pointer (some ⟨w.heap.size, 0, none⟩)), (3, .pointer (some ⟨w_1.heap.size, 0, none⟩))] w_6 [] (by kernel_rfl) trivial ?_
  refine XL_nil ?_
  refine X_seq ?_
  refine X_region ?_
  refine XL_run 4 [(6, .load (.int .i64 a.kind)), (8, .load (.int .i64 b.kind))] [(2, .pointer (some ⟨w.heap.size, 0, none⟩)), (3, .pointer (some ⟨w_1.heap.size, 0, none⟩)), (6, .int .i64 a.kind), (8, .int .i64 b.kind)] w_6 [LoadsAs Tryd.prog 3 (⟨w.heap.size, 0, none⟩) (.int .i64 a.kind) w_6, LoadsAs Tryd.prog 3 (⟨w_1.heap.size, 0, none⟩) (.int .i64 b.kind) w_6] (by kernel_rfl) ⟨loads1 rfl (Blk.cell (Blk.below hk_3 hb_7) 0 _ rfl), loads1 rfl (Blk.cell hk_8 0 _ rfl), trivial⟩ ?_
  by_cases c_11 : a.kind = b.kind
  · refine XL_run 6 [(9, .eq (.bool true)), (12, .load (.string a.text)), (14, .load (.string b.text))] [(2, .pointer (some ⟨w.heap.size, 0, none⟩)), (3, .pointer (some ⟨w_1.heap.size, 0, none⟩)), (10, .bool true), (12, .string a.text), (14, .string b.text)] w_6 [Value.bool (a.kind == b.kind) = Value.bool true, LoadsAs Tryd.prog 9 (⟨w.heap.size, 1, none⟩) (.string a.text) w_6, LoadsAs Tryd.prog 9 (⟨w_1.heap.size, 1, none⟩) (.string b.text) w_6] (by kernel_rfl) ⟨congrArg Value.bool (beq_iff_eq.2 (c_11)), loads1 rfl (Blk.cell (Blk.below hk_3 hb_7) 1 _ rfl), loads1 rfl (Blk.cell hk_8 1 _ rfl), trivial⟩ ?_
    by_cases c_12 : a.text = b.text
    · refine XL_run 7 [(15, .eq (.bool true)), (19, .load (.agg #[.int .i64 a.vk, .int .i64 a.vn, .string a.vt])), (21, .load (.agg #[.int .i64 b.vk, .int .i64 b.vn, .string b.vt]))] [(2, .pointer (some ⟨w.heap.size, 0, none⟩)), (3, .pointer (some ⟨w_1.heap.size, 0, none⟩)), (17, .bool true), (19, .agg #[.int .i64 a.vk, .int .i64 a.vn, .string a.vt]), (21, .agg #[.int .i64 b.vk, .int .i64 b.vn, .string b.vt])] w_6 [Value.bool (a.text.toList == b.text.toList) = Value.bool true, LoadsAs Tryd.prog 30 (⟨w.heap.size, 2, none⟩) (.agg #[.int .i64 a.vk, .int .i64 a.vn, .string a.vt]) w_6, LoadsAs Tryd.prog 30 (⟨w_1.heap.size, 2, none⟩) (.agg #[.int .i64 b.vk, .int .i64 b.vn, .string b.vt]) w_6] (by kernel_rfl) ⟨congrArg Value.bool (strEqT (c_12)), loadsB rfl rfl (Blk.below hk_3 hb_7) 2 ⟨by kernel_rfl, by kernel_rfl⟩, loadsB rfl rfl hk_8 2 ⟨by kernel_rfl, by kernel_rfl⟩, trivial⟩ ?_
      by_cases c_13 : (a.vk, a.vn, a.vt) = (b.vk, b.vn, b.vt)
      · refine XL_run 7 [(22, .as (.bool true)), (26, .load (.int .i64 a.count)), (28, .load (.int .i64 b.count))] [(2, .pointer (some ⟨w.heap.size, 0, none⟩)), (3, .pointer (some ⟨w_1.heap.size, 0, none⟩)), (24, .bool true), (26, .int .i64 a.count), (28, .int .i64 b.count)] w_6 [RunsAs Tryd.prog [(19, .agg #[.int .i64 a.vk, .int .i64 a.vn, .string a.vt]), (21, .agg #[.int .i64 b.vk, .int .i64 b.vn, .string b.vt])] (Go.Op.binOp Go.BinOp.eql 30 (Go.Operand.tmp 19) (Go.Operand.tmp 21) 30) 4 (.bool true) w_6, LoadsAs Tryd.prog 3 (⟨w.heap.size, 5, none⟩) (.int .i64 a.count) w_6, LoadsAs Tryd.prog 3 (⟨w_1.heap.size, 5, none⟩) (.int .i64 b.count) w_6] (by kernel_rfl) ⟨runs_bin rfl rfl (run_eqGuard_agg _ _ _ _ _ _ _ (by kernel_rfl)) (by have h := plain_eqb (a.vk, a.vn, a.vt) (b.vk, b.vn, b.vt) w_6; rw [show ple (a.vk, a.vn, a.vt) (b.vk, b.vn, b.vt) = true from (ple_iff _ _).2 c_13] at h; exact h), loads1 rfl (Blk.cell (Blk.below hk_3 hb_7) 5 _ rfl), loads1 rfl (Blk.cell hk_8 5 _ rfl), trivial⟩ ?_
        by_cases c_14 : a.count = b.count
        · refine XL_run 7 [(29, .eq (.bool true)), (33, .load (.slice A a.attrs.length c)), (35, .load (.slice B b.attrs.length d))] [(31, .bool true), (33, .slice A a.attrs.length c), (35, .slice B b.attrs.length d)] w_6 [Value.bool (a.count == b.count) = Value.bool true, LoadsAs Tryd.prog 31 (⟨w.heap.size, 6, none⟩) (.slice A a.attrs.length c) w_6, LoadsAs Tryd.prog 31 (⟨w_1.heap.size, 6, none⟩) (.slice B b.attrs.length d) w_6] (by kernel_rfl) ⟨congrArg Value.bool (beq_iff_eq.2 (c_14)), loads1 rfl (Blk.cell (Blk.below hk_3 hb_7) 6 _ rfl), loads1 rfl (Blk.cell hk_8 6 _ rfl), trivial⟩ ?_
          refine XL_call 65 rfl rfl rfl ent65 [.slice A a.attrs.length c, .slice B b.attrs.length d] (by kernel_rfl) (sattrs_any _ _ _ _ a.attrs b.attrs _ (Kd.C_below hA (bt hb_2 hb_7)) (Kd.C_below hB (bt hb_2 hb_7))) ?_
          rintro e w_15 ⟨rfl, hb_16⟩; refine ⟨_, rfl, ?_⟩
          refine XL_run 2 [] [(4, .bool (decide (a.attrs = b.attrs)))] w_15 [] (by kernel_rfl) trivial ?_
          refine XL_nil ?_
          refine X_ret ?_
          refine RX.ret_ok (P := Tryd.prog) (fn := Tryd.f60) (N := 38) (R := R_) [.bool (decide (a.attrs = b.attrs))] (by kernel_rfl) (hR_ _ _ ?_)
          rw [show opEqP a b = decide (a.attrs = b.attrs) from by unfold opEqP; simp_all]
          exact ⟨rfl, (bt (bt hb_2 hb_7) hb_16)⟩
        · refine XL_run 10 [(29, .eq (.bool false))] [(4, .bool false)] w_6 [Value.bool (a.count == b.count) = Value.bool false] (by kernel_rfl) ⟨congrArg Value.bool (beq_eq_false_iff_ne.2 (c_14)), trivial⟩ ?_
          refine XL_nil ?_
          refine X_ret ?_
          refine RX.ret_ok (P := Tryd.prog) (fn := Tryd.f60) (N := 38) (R := R_) [.bool false] (by kernel_rfl) (hR_ _ _ ?_)
          rw [show opEqP a b = false from by unfold opEqP; simp_all]
          exact ⟨rfl, (bt hb_2 hb_7)⟩
      · refine XL_run 17 [(22, .as (.bool false))] [(4, .bool false)] w_6 [RunsAs Tryd.prog [(19, .agg #[.int .i64 a.vk, .int .i64 a.vn, .string a.vt]), (21, .agg #[.int .i64 b.vk, .int .i64 b.vn, .string b.vt])] (Go.Op.binOp Go.BinOp.eql 30 (Go.Operand.tmp 19) (Go.Operand.tmp 21) 30) 4 (.bool false) w_6] (by kernel_rfl) ⟨runs_bin rfl rfl (run_eqGuard_agg _ _ _ _ _ _ _ (by kernel_rfl)) (by have h := plain_eqb (a.vk, a.vn, a.vt) (b.vk, b.vn, b.vt) w_6; rw [show ple (a.vk, a.vn, a.vt) (b.vk, b.vn, b.vt) = false from Bool.eq_false_iff.2 (fun k => c_13 ((ple_iff _ _).1 k))] at h; exact h), trivial⟩ ?_
        refine XL_nil ?_
        refine X_ret ?_
        refine RX.ret_ok (P := Tryd.prog) (fn := Tryd.f60) (N := 38) (R := R_) [.bool false] (by kernel_rfl) (hR_ _ _ ?_)
        rw [show opEqP a b = false from by unfold opEqP; simp_all]
        exact ⟨rfl, (bt hb_2 hb_7)⟩
    · refine XL_run 24 [(15, .eq (.bool false))] [(4, .bool false)] w_6 [Value.bool (a.text.toList == b.text.toList) = Value.bool false] (by kernel_rfl) ⟨congrArg Value.bool (strEqF (c_12)), trivial⟩ ?_
      refine XL_nil ?_
      refine X_ret ?_
      refine RX.ret_ok (P := Tryd.prog) (fn := Tryd.f60) (N := 38) (R := R_) [.bool false] (by kernel_rfl) (hR_ _ _ ?_)
      rw [show opEqP a b = false from by unfold opEqP; simp_all]
      exact ⟨rfl, (bt hb_2 hb_7)⟩
  · refine XL_run 30 [(9, .eq (.bool false))] [(4, .bool false)] w_6 [Value.bool (a.kind == b.kind) = Value.bool false] (by kernel_rfl) ⟨congrArg Value.bool (beq_eq_false_iff_ne.2 (c_11)), trivial⟩ ?_
    refine XL_nil ?_
    refine X_ret ?_
    refine RX.ret_ok (P := Tryd.prog) (fn := Tryd.f60) (N := 38) (R := R_) [.bool false] (by kernel_rfl) (hR_ _ _ ?_)
    rw [show opEqP a b = false from by unfold opEqP; simp_all]
    exact ⟨rfl, (bt hb_2 hb_7)⟩
theorem sameOps_any (A B : Option Addr) (c d : Nat) (xs ys : List OpA) (w : World) (hx : kOp.C w A xs.length xs) (hy : kOp.C w B ys.length ys) : Calls Tryd.prog 102 #[.slice A xs.length c, .slice B ys.length d] w fun e w' => e = .returned (.bool (opsEqP xs ys)) ∧ Below w.heap.size w w' := by
  have hpl : xs.length ≤ 9223372036854775807 := hx.2.1
  refine RX.enter Tryd.func102 rfl 29 rfl [(0, .slice A xs.length c), (1, .slice B ys.length d)] rfl (by kernel_rfl) (fun R_ hR_ => ?_)
  refine X_seq ?_
  refine X_region ?_
  refine XL_run 1 [] [(0, .slice A xs.length c), (1, .slice B ys.length d)] w [] (by kernel_rfl) trivial ?_
  refine XL_nil ?_
  refine X_seq ?_
  refine X_seq ?_
  refine X_region ?_
  refine XL_run 4 [] [(0, .slice A xs.length c), (1, .slice B ys.length d), (8, .int .i64 (xs.length : Int)), (10, .int .i64 (ys.length : Int))] w [] (by kernel_rfl) trivial ?_
  by_cases c_1 : (xs.length : Int) = (ys.length : Int)
  · refine XL_run 1 [(11, .eq (.bool false))] [(0, .slice A xs.length c), (1, .slice B ys.length d), (11, .bool false)] w [Value.bool ((xs.length : Int) != (ys.length : Int)) = Value.bool false] (by kernel_rfl) ⟨congrArg Value.bool (bneF (c_1)), trivial⟩ ?_
    refine XL_nil ?_
    refine X_cond false rfl ?_
    refine X_skip ?_
    refine X_seq ?_
    refine X_seq ?_
    refine X_region ?_
    refine XL_run 3 [] [(0, .slice A xs.length c), (1, .slice B ys.length d), (13, .int .i64 (xs.length : Int)), (14, .int .i64 0)] w [] (by kernel_rfl) trivial ?_
    refine XL_nil ?_
    refine X_block ?_
    refine X_loop (ι := Nat) (fun i => [(0, .slice A xs.length c), (1, .slice B ys.length d), (13, .int .i64 (xs.length : Int)), (14, .int .i64 (i : Int))]) (fun i wl => i ≤ xs.length ∧ xs.length = ys.length ∧ (∀ q, q < i → xs.getD q op0 = ys.getD q op0) ∧ Below w.heap.size w wl) (fun i => xs.length - i) 0 ⟨by omega, by omega, fun q hq => by omega, (Below.refl _ _)⟩ (by kernel_rfl) ?_
    rintro i wl ⟨hi, hlen, hq0, HB⟩
    refine X_seq ?_
    refine X_region ?_
    by_cases c_2 : (i : Int) < (xs.length : Int)
    · refine XL_run 1 [(15, .eq (.bool true))] [(0, .slice A xs.length c), (1, .slice B ys.length d), (13, .int .i64 (xs.length : Int)), (14, .int .i64 (i : Int)), (15, .bool true)] wl [Value.bool (decide ((i : Int) < (xs.length : Int))) = Value.bool true] (by kernel_rfl) ⟨congrArg Value.bool (decide_eq_true (c_2)), trivial⟩ ?_
      refine XL_nil ?_
      refine X_seq ?_
      refine X_cond true rfl ?_
      refine X_skip ?_
      refine X_seq ?_
      refine X_block ?_
      refine X_seq ?_
      refine X_region ?_
      refine XL_run 2 [] [(0, .slice A xs.length c), (1, .slice B ys.length d), (5, .int .i64 (i : Int)), (13, .int .i64 (xs.length : Int)), (14, .int .i64 (i : Int))] wl [] (by kernel_rfl) trivial ?_
      refine XL_nil ?_
      refine X_seq ?_
      refine X_any [8] 10 #[false, false, false, false, false, false, false, false, false, false] (by kernel_rfl) (by kernel_rfl) (by kernel_rfl) (fun wd_3 hb_4 hh_5 => ?_)
      refine XA_run (fuel' := 8) [0, 1] [] [.slice A xs.length c, .int .i64 (i : Int)] #[true, true, false, false, false, false, false, false, false, false] [(0, .slice A xs.length c), (1, .slice B ys.length d), (5, .int .i64 (i : Int)), (13, .int .i64 (xs.length : Int)), (14, .int .i64 (i : Int)), (17, .slice A xs.length c), (18, .int .i64 (i : Int))] [] (fun _ _ _ _ h => h) (by kernel_rfl) rfl trivial ?_
      obtain ⟨ad_6, B_9, c_10, ha_7, hc_8, hl_11, hC_12⟩ := Kd.atOp (Kd.C_below hx (bt HB hb_4)) (i := (i : Int)) (by omega) (by omega)
      replace hc_8 : CellsAt wd_3 (ad_6.add ((i : Int).toNat * 7)) [.int .i64 ((xs.getD i op0).kind), .string ((xs.getD i op0).text), .int .i64 ((xs.getD i op0).vk), .int .i64 ((xs.getD i op0).vn), .string ((xs.getD i op0).vt), .int .i64 ((xs.getD i op0).count), .slice B_9 ((xs.getD i op0).attrs.length) c_10] := hc_8
      replace hl_11 : (xs.getD i op0).attrs.length ≤ c_10 := hl_11
      replace hC_12 : kAttr.C wd_3 B_9 ((xs.getD i op0).attrs.length) (xs.getD i op0).attrs := hC_12
      refine XA_run (fuel' := 4) [2, 3, 4, 5] [(19, .idx ad_6), (20, .load (.agg #[.int .i64 ((xs.getD i op0).kind), .string ((xs.getD i op0).text), .int .i64 ((xs.getD i op0).vk), .int .i64 ((xs.getD i op0).vn), .string ((xs.getD i op0).vt), .int .i64 ((xs.getD i op0).count), .slice B_9 ((xs.getD i op0).attrs.length) c_10]))] [.pointer (some (ad_6.add ((i : Int).toNat * 7))), .agg #[.int .i64 ((xs.getD i op0).kind), .string ((xs.getD i op0).text), .int .i64 ((xs.getD i op0).vk), .int .i64 ((xs.getD i op0).vn), .string ((xs.getD i op0).vt), .int .i64 ((xs.getD i op0).count), .slice B_9 ((xs.getD i op0).attrs.length) c_10], .slice B ys.length d, .int .i64 (i : Int)] #[true, true, true, true, true, true, false, false, false, false] [(0, .slice A xs.length c), (1, .slice B ys.length d), (13, .int .i64 (xs.length : Int)), (14, .int .i64 (i : Int)), (20, .agg #[.int .i64 ((xs.getD i op0).kind), .string ((xs.getD i op0).text), .int .i64 ((xs.getD i op0).vk), .int .i64 ((xs.getD i op0).vn), .string ((xs.getD i op0).vt), .int .i64 ((xs.getD i op0).count), .slice B_9 ((xs.getD i op0).attrs.length) c_10]), (21, .slice B ys.length d), (22, .int .i64 (i : Int))] [A = some ad_6, (0 : Int) ≤ (i : Int), (i : Int) < (xs.length : Int), LoadsAs Tryd.prog 33 (ad_6.add ((i : Int).toNat * 7)) (.agg #[.int .i64 ((xs.getD i op0).kind), .string ((xs.getD i op0).text), .int .i64 ((xs.getD i op0).vk), .int .i64 ((xs.getD i op0).vn), .string ((xs.getD i op0).vt), .int .i64 ((xs.getD i op0).count), .slice B_9 ((xs.getD i op0).attrs.length) c_10]) wd_3] (fun _ _ _ _ h => h) (by kernel_rfl) rfl ⟨ha_7, (by omega), (by omega), loadsE rfl rfl hc_8 0 ⟨by kernel_rfl, by kernel_rfl⟩, trivial⟩ ?_
      obtain ⟨ad_13, B_16, c_17, ha_14, hc_15, hl_18, hC_19⟩ := Kd.atOp (Kd.C_below hy (bt HB hb_4)) (i := (i : Int)) (by omega) (by omega)
      replace hc_15 : CellsAt wd_3 (ad_13.add ((i : Int).toNat * 7)) [.int .i64 ((ys.getD i op0).kind), .string ((ys.getD i op0).text), .int .i64 ((ys.getD i op0).vk), .int .i64 ((ys.getD i op0).vn), .string ((ys.getD i op0).vt), .int .i64 ((ys.getD i op0).count), .slice B_16 ((ys.getD i op0).attrs.length) c_17] := hc_15
      replace hl_18 : (ys.getD i op0).attrs.length ≤ c_17 := hl_18
      replace hC_19 : kAttr.C wd_3 B_16 ((ys.getD i op0).attrs.length) (ys.getD i op0).attrs := hC_19
      refine XA_run (fuel' := 2) [6, 7] [(23, .idx ad_13), (24, .load (.agg #[.int .i64 ((ys.getD i op0).kind), .string ((ys.getD i op0).text), .int .i64 ((ys.getD i op0).vk), .int .i64 ((ys.getD i op0).vn), .string ((ys.getD i op0).vt), .int .i64 ((ys.getD i op0).count), .slice B_16 ((ys.getD i op0).attrs.length) c_17]))] [.pointer (some (ad_13.add ((i : Int).toNat * 7))), .agg #[.int .i64 ((ys.getD i op0).kind), .string ((ys.getD i op0).text), .int .i64 ((ys.getD i op0).vk), .int .i64 ((ys.getD i op0).vn), .string ((ys.getD i op0).vt), .int .i64 ((ys.getD i op0).count), .slice B_16 ((ys.getD i op0).attrs.length) c_17]] #[true, true, true, true, true, true, true, true, false, false] [(0, .slice A xs.length c), (1, .slice B ys.length d), (13, .int .i64 (xs.length : Int)), (14, .int .i64 (i : Int)), (20, .agg #[.int .i64 ((xs.getD i op0).kind), .string ((xs.getD i op0).text), .int .i64 ((xs.getD i op0).vk), .int .i64 ((xs.getD i op0).vn), .string ((xs.getD i op0).vt), .int .i64 ((xs.getD i op0).count), .slice B_9 ((xs.getD i op0).attrs.length) c_10]), (24, .agg #[.int .i64 ((ys.getD i op0).kind), .string ((ys.getD i op0).text), .int .i64 ((ys.getD i op0).vk), .int .i64 ((ys.getD i op0).vn), .string ((ys.getD i op0).vt), .int .i64 ((ys.getD i op0).count), .slice B_16 ((ys.getD i op0).attrs.length) c_17])] [B = some ad_13, (0 : Int) ≤ (i : Int), (i : Int) < (ys.length : Int), LoadsAs Tryd.prog 33 (ad_13.add ((i : Int).toNat * 7)) (.agg #[.int .i64 ((ys.getD i op0).kind), .string ((ys.getD i op0).text), .int .i64 ((ys.getD i op0).vk), .int .i64 ((ys.getD i op0).vn), .string ((ys.getD i op0).vt), .int .i64 ((ys.getD i op0).count), .slice B_16 ((ys.getD i op0).attrs.length) c_17]) wd_3] (fun _ _ _ _ h => h) (by kernel_rfl) rfl ⟨ha_14, (by omega), (by omega), loadsE rfl rfl hc_15 0 ⟨by kernel_rfl, by kernel_rfl⟩, trivial⟩ ?_
      refine XA_act (fuel' := 1) 8 #[true, true, true, true, true, true, true, true, true, false] _ rfl (by kernel_rfl) rfl (by kernel_rfl) rfl ?_
      refine XL_call 60 rfl rfl rfl ent60 [.agg #[.int .i64 ((xs.getD i op0).kind), .string ((xs.getD i op0).text), .int .i64 ((xs.getD i op0).vk), .int .i64 ((xs.getD i op0).vn), .string ((xs.getD i op0).vt), .int .i64 ((xs.getD i op0).count), .slice B_9 ((xs.getD i op0).attrs.length) c_10], .agg #[.int .i64 ((ys.getD i op0).kind), .string ((ys.getD i op0).text), .int .i64 ((ys.getD i op0).vk), .int .i64 ((ys.getD i op0).vn), .string ((ys.getD i op0).vt), .int .i64 ((ys.getD i op0).count), .slice B_16 ((ys.getD i op0).attrs.length) c_17]] (by kernel_rfl) (r4same_any (xs.getD i op0) (ys.getD i op0) _ _ _ _ _ hC_12 hC_19) ?_
      rintro e w_20 ⟨rfl, hb_21⟩; refine ⟨_, rfl, ?_⟩
      refine XL_nil ?_
      refine XA_pure (fuel' := 0) [9] [] [.bool (opEqP (xs.getD i op0) (ys.getD i op0))] #[true, true, true, true, true, true, true, true, true, true] [(0, .slice A xs.length c), (1, .slice B ys.length d), (6, .bool (opEqP (xs.getD i op0) (ys.getD i op0))), (13, .int .i64 (xs.length : Int)), (14, .int .i64 (i : Int))] (fun w_ => []) (fun _ _ _ _ h => h) (fun w_ => by kernel_rfl) rfl (fun w_ => trivial) ?_
      refine XA_done (by kernel_rfl) ?_
      refine X_seq ?_
      refine X_region ?_
      refine XL_run 1 [] [(0, .slice A xs.length c), (1, .slice B ys.length d), (13, .int .i64 (xs.length : Int)), (14, .int .i64 (i : Int)), (26, .bool (opEqP (xs.getD i op0) (ys.getD i op0)))] w_20 [] (by kernel_rfl) trivial ?_
      by_cases c_22 : opEqP (xs.getD i op0) (ys.getD i op0) = true
      · rw [show (opEqP (xs.getD i op0) (ys.getD i op0) : Bool) = true from by simpa using c_22]
        refine XL_run 1 [] [(0, .slice A xs.length c), (1, .slice B ys.length d), (13, .int .i64 (xs.length : Int)), (14, .int .i64 (i : Int)), (27, .bool false)] w_20 [] (by kernel_rfl) trivial ?_
        refine XL_nil ?_
        refine X_cond false rfl ?_
        refine X_skip ?_
        refine X_region ?_
        refine XL_run 2 [(28, .eq (.int .i64 ((i : Int) + 1)))] [(0, .slice A xs.length c), (1, .slice B ys.length d), (13, .int .i64 (xs.length : Int)), (14, .int .i64 ((i : Int) + 1))] w_20 [Value.int .i64 (IntKind.i64.wrap ((i : Int) + 1)) = Value.int .i64 ((i : Int) + 1)] (by kernel_rfl) ⟨wr_i64 (by omega) (by omega), trivial⟩ ?_
        refine XL_nil ?_
        refine ⟨(i + 1), by kernel_rfl, ?_, ?_⟩
        · exact ⟨by omega, by omega, fun q hq => by by_cases e_ : q = i; (· subst e_; exact (opEqP_iff _ _).1 c_22); (· exact hq0 q (by omega)), (bt (bt HB hb_4) hb_21)⟩
        · (try dsimp only); omega
      · rw [show (opEqP (xs.getD i op0) (ys.getD i op0) : Bool) = false from by simpa using c_22]
        refine XL_run 1 [] [(0, .slice A xs.length c), (1, .slice B ys.length d), (13, .int .i64 (xs.length : Int)), (14, .int .i64 (i : Int)), (27, .bool true)] w_20 [] (by kernel_rfl) trivial ?_
        refine XL_nil ?_
        refine X_cond true rfl ?_
        refine X_seq ?_
        refine X_region ?_
        refine XL_run 1 [] [(4, .bool false)] w_20 [] (by kernel_rfl) trivial ?_
        refine XL_nil ?_
        refine X_ret ?_
        refine RX.ret_ok (P := Tryd.prog) (fn := Tryd.f102) (N := 29) (R := R_) [.bool false] (by kernel_rfl) (hR_ _ _ ?_)
        rw [(opsEqP_false xs ys).2 (fun e_ => c_22 ((opEqP_iff _ _).2 (by rw [e_])))]
        exact ⟨rfl, (bt (bt HB hb_4) hb_21)⟩
    · refine XL_run 1 [(15, .eq (.bool false))] [(0, .slice A xs.length c), (1, .slice B ys.length d), (13, .int .i64 (xs.length : Int)), (14, .int .i64 (i : Int)), (15, .bool false)] wl [Value.bool (decide ((i : Int) < (xs.length : Int))) = Value.bool false] (by kernel_rfl) ⟨congrArg Value.bool (decide_eq_false (c_2)), trivial⟩ ?_
      refine XL_nil ?_
      refine X_seq ?_
      refine X_cond false rfl ?_
      refine X_exit ?_
      refine X_seq ?_
      refine X_region ?_
      refine XL_run 1 [] [(4, .bool true)] wl [] (by kernel_rfl) trivial ?_
      refine XL_nil ?_
      refine X_ret ?_
      refine RX.ret_ok (P := Tryd.prog) (fn := Tryd.f102) (N := 29) (R := R_) [.bool true] (by kernel_rfl) (hR_ _ _ ?_)
      rw [(opsEqP_iff xs ys).2 (ops_ext hlen (fun q hq => hq0 q (by omega)))]
      exact ⟨rfl, HB⟩
  · refine XL_run 1 [(11, .eq (.bool true))] [(0, .slice A xs.length c), (1, .slice B ys.length d), (11, .bool true)] w [Value.bool ((xs.length : Int) != (ys.length : Int)) = Value.bool true] (by kernel_rfl) ⟨congrArg Value.bool (bneT (c_1)), trivial⟩ ?_
    refine XL_nil ?_
    refine X_cond true rfl ?_
    refine X_seq ?_
    refine X_region ?_
    refine XL_run 1 [] [(4, .bool false)] w [] (by kernel_rfl) trivial ?_
    refine XL_nil ?_
    refine X_ret ?_
    refine RX.ret_ok (P := Tryd.prog) (fn := Tryd.f102) (N := 29) (R := R_) [.bool false] (by kernel_rfl) (hR_ _ _ ?_)
    rw [(opsEqP_false xs ys).2 (fun e_ => by subst e_; omega)]
    exact ⟨rfl, (Below.refl _ _)⟩
def cellEqP (a b : CellA) : Bool := decide (a.rune = b.rune) && (decide (a.kind = b.kind) && (decide (((a.vk, a.vn, a.vt) : Pl) = (b.vk, b.vn, b.vt)) && decide (a.attrs = b.attrs)))
theorem cellEqP_iff (a b : CellA) : cellEqP a b = true ↔ a = b := by
  obtain ⟨a1, a2, a3, a4, a5, a6⟩ := a
  obtain ⟨b1, b2, b3, b4, b5, b6⟩ := b
  simp only [cellEqP, Bool.and_eq_true, decide_eq_true_eq, Prod.mk.injEq, CellA.mk.injEq]
  exact ⟨fun ⟨h1, h2, ⟨h3, h4, h5⟩, h6⟩ => ⟨h1, h2, h3, h4, h5, h6⟩, fun ⟨h1, h2, h3, h4, h5, h6⟩ => ⟨h1, h2, ⟨h3, h4, h5⟩, h6⟩⟩
noncomputable def cellsEqP (xs ys : List CellA) : Bool := @decide (xs = ys) (Classical.propDecidable _)
theorem cellsEqP_iff (xs ys : List CellA) : cellsEqP xs ys = true ↔ xs = ys := by unfold cellsEqP; exact @decide_eq_true_iff _ (Classical.propDecidable _)
theorem cellsEqP_false (xs ys : List CellA) : cellsEqP xs ys = false ↔ ¬ xs = ys := by rw [← cellsEqP_iff]; cases cellsEqP xs ys <;> simp
theorem cells_ext {xs ys : List CellA} (hl : xs.length = ys.length) (h : ∀ q, q < xs.length → xs.getD q cell0 = ys.getD q cell0) : xs = ys :=
  List.ext_getElem hl fun q h1 h2 => by have := h q h1; simpa [List.getD_eq_getElem?_getD, List.getElem?_eq_getElem h1, List.getElem?_eq_getElem h2] using this
theorem sameCell_any (a b : CellA) (A B : Option Addr) (c d : Nat) (w : World) (hA : kAttr.C w A a.attrs.length a.attrs) (hB : kAttr.C w B b.attrs.length b.attrs) : Calls Tryd.prog 105 #[.agg #[.int .i32 a.rune, .string a.kind, .int .i64 a.vk, .int .i64 a.vn, .string a.vt, .slice A a.attrs.length c], .agg #[.int .i32 b.rune, .string b.kind, .int .i64 b.vk, .int .i64 b.vn, .string b.vt, .slice B b.attrs.length d]] w fun e w' => e = .returned (.bool (cellEqP a b)) ∧ Below w.heap.size w w' := by
  refine RX.enter Tryd.func105 rfl 31 rfl [(0, .agg #[.int .i32 a.rune, .string a.kind, .int .i64 a.vk, .int .i64 a.vn, .string a.vt, .slice A a.attrs.length c]), (1, .agg #[.int .i32 b.rune, .string b.kind, .int .i64 b.vk, .int .i64 b.vn, .string b.vt, .slice B b.attrs.length d])] rfl (by kernel_rfl) (fun R_ hR_ => ?_)
  refine X_seq ?_
  refine X_region ?_
  refine XL_run 1 [] [(1, .agg #[.int .i32 b.rune, .string b.kind, .int .i64 b.vk, .int .i64 b.vn, .string b.vt, .slice B b.attrs.length d]), (2, .pointer (some ⟨w.heap.size, 0, none⟩))] (w.alloc (.cells #[.int .i32 a.rune, .string a.kind, .int .i64 a.vk, .int .i64 a.vn, .string a.vt, .slice A a.attrs.length c] 98)) [] (by kernel_rfl) trivial ?_
  obtain ⟨w_1, hw_5, hb_2, hk_3, hz_4⟩ := new_world w #[.int .i32 a.rune, .string a.kind, .int .i64 a.vk, .int .i64 a.vn, .string a.vt, .slice A a.attrs.length c] 98
  rw [hw_5]
  refine XL_run 1 [] [(2, .pointer (some ⟨w.heap.size, 0, none⟩)), (3, .pointer (some ⟨w_1.heap.size, 0, none⟩))] (w_1.alloc (.cells #[.int .i32 b.rune, .string b.kind, .int .i64 b.vk, .int .i64 b.vn, .string b.vt, .slice B b.attrs.length d] 98)) [] (by kernel_rfl) trivial ?_
  obtain ⟨w_6, hw_10, hb_7, hk_8, hz_9⟩ := new_world w_1 #[.int .i32 b.rune, .string b.kind, .int .i64 b.vk, .int .i64 b.vn, .string b.vt, .slice B b.attrs.length d] 98
  rw [hw_10]
  refine XL_run 1 [] [(2, .pointer (some ⟨w.heap.size, 0, none⟩)), (3, .pointer (some ⟨w_1.heap.size, 0, none⟩))] w_6 [] (by kernel_rfl) trivial ?_
  refine XL_nil ?_
  refine X_seq ?_
  refine X_region ?_
  refine XL_run 4 [(6, .load (.int .i32 a.rune)), (8, .load (.int .i32 b.rune))] [(2, .pointer (some ⟨w.heap.size, 0, none⟩)), (3, .pointer (some ⟨w_1.heap.size, 0, none⟩)), (6, .int .i32 a.rune), (8, .int .i32 b.rune)] w_6 [LoadsAs Tryd.prog 21 (⟨w.heap.size, 0, none⟩) (.int .i32 a.rune) w_6, LoadsAs Tryd.prog 21 (⟨w_1.heap.size, 0, none⟩) (.int .i32 b.rune) w_6] (by kernel_rfl) ⟨loads1 rfl (Blk.cell (Blk.below hk_3 hb_7) 0 _ rfl), loads1 rfl (Blk.cell hk_8 0 _ rfl), trivial⟩ ?_
  by_cases c_11 : a.rune = b.rune
  · refine XL_run 6 [(9, .eq (.bool true)), (12, .load (.string a.kind)), (14, .load (.string b.kind))] [(2, .pointer (some ⟨w.heap.size, 0, none⟩)), (3, .pointer (some ⟨w_1.heap.size, 0, none⟩)), (10, .bool true), (12, .string a.kind), (14, .string b.kind)] w_6 [Value.bool (a.rune == b.rune) = Value.bool true, LoadsAs Tryd.prog 9 (⟨w.heap.size, 1, none⟩) (.string a.kind) w_6, LoadsAs Tryd.prog 9 (⟨w_1.heap.size, 1, none⟩) (.string b.kind) w_6] (by kernel_rfl) ⟨congrArg Value.bool (beq_iff_eq.2 (c_11)), loads1 rfl (Blk.cell (Blk.below hk_3 hb_7) 1 _ rfl), loads1 rfl (Blk.cell hk_8 1 _ rfl), trivial⟩ ?_
    by_cases c_12 : a.kind = b.kind
    · refine XL_run 7 [(15, .eq (.bool true)), (19, .load (.agg #[.int .i64 a.vk, .int .i64 a.vn, .string a.vt])), (21, .load (.agg #[.int .i64 b.vk, .int .i64 b.vn, .string b.vt]))] [(2, .pointer (some ⟨w.heap.size, 0, none⟩)), (3, .pointer (some ⟨w_1.heap.size, 0, none⟩)), (17, .bool true), (19, .agg #[.int .i64 a.vk, .int .i64 a.vn, .string a.vt]), (21, .agg #[.int .i64 b.vk, .int .i64 b.vn, .string b.vt])] w_6 [Value.bool (a.kind.toList == b.kind.toList) = Value.bool true, LoadsAs Tryd.prog 30 (⟨w.heap.size, 2, none⟩) (.agg #[.int .i64 a.vk, .int .i64 a.vn, .string a.vt]) w_6, LoadsAs Tryd.prog 30 (⟨w_1.heap.size, 2, none⟩) (.agg #[.int .i64 b.vk, .int .i64 b.vn, .string b.vt]) w_6] (by kernel_rfl) ⟨congrArg Value.bool (strEqT (c_12)), loadsB rfl rfl (Blk.below hk_3 hb_7) 2 ⟨by kernel_rfl, by kernel_rfl⟩, loadsB rfl rfl hk_8 2 ⟨by kernel_rfl, by kernel_rfl⟩, trivial⟩ ?_
      by_cases c_13 : (a.vk, a.vn, a.vt) = (b.vk, b.vn, b.vt)
      · refine XL_run 7 [(22, .as (.bool true)), (26, .load (.slice A a.attrs.length c)), (28, .load (.slice B b.attrs.length d))] [(24, .bool true), (26, .slice A a.attrs.length c), (28, .slice B b.attrs.length d)] w_6 [RunsAs Tryd.prog [(19, .agg #[.int .i64 a.vk, .int .i64 a.vn, .string a.vt]), (21, .agg #[.int .i64 b.vk, .int .i64 b.vn, .string b.vt])] (Go.Op.binOp Go.BinOp.eql 30 (Go.Operand.tmp 19) (Go.Operand.tmp 21) 30) 4 (.bool true) w_6, LoadsAs Tryd.prog 31 (⟨w.heap.size, 5, none⟩) (.slice A a.attrs.length c) w_6, LoadsAs Tryd.prog 31 (⟨w_1.heap.size, 5, none⟩) (.slice B b.attrs.length d) w_6] (by kernel_rfl) ⟨runs_bin rfl rfl (run_eqGuard_agg _ _ _ _ _ _ _ (by kernel_rfl)) (by have h := plain_eqb (a.vk, a.vn, a.vt) (b.vk, b.vn, b.vt) w_6; rw [show ple (a.vk, a.vn, a.vt) (b.vk, b.vn, b.vt) = true from (ple_iff _ _).2 c_13] at h; exact h), loads1 rfl (Blk.cell (Blk.below hk_3 hb_7) 5 _ rfl), loads1 rfl (Blk.cell hk_8 5 _ rfl), trivial⟩ ?_
        refine XL_call 65 rfl rfl rfl ent65 [.slice A a.attrs.length c, .slice B b.attrs.length d] (by kernel_rfl) (sattrs_any _ _ _ _ a.attrs b.attrs _ (Kd.C_below hA (bt hb_2 hb_7)) (Kd.C_below hB (bt hb_2 hb_7))) ?_
        rintro e w_14 ⟨rfl, hb_15⟩; refine ⟨_, rfl, ?_⟩
        refine XL_run 2 [] [(4, .bool (decide (a.attrs = b.attrs)))] w_14 [] (by kernel_rfl) trivial ?_
        refine XL_nil ?_
        refine X_ret ?_
        refine RX.ret_ok (P := Tryd.prog) (fn := Tryd.f105) (N := 31) (R := R_) [.bool (decide (a.attrs = b.attrs))] (by kernel_rfl) (hR_ _ _ ?_)
        rw [show cellEqP a b = decide (a.attrs = b.attrs) from by unfold cellEqP; simp_all]
        exact ⟨rfl, (bt (bt hb_2 hb_7) hb_15)⟩
      · refine XL_run 10 [(22, .as (.bool false))] [(4, .bool false)] w_6 [RunsAs Tryd.prog [(19, .agg #[.int .i64 a.vk, .int .i64 a.vn, .string a.vt]), (21, .agg #[.int .i64 b.vk, .int .i64 b.vn, .string b.vt])] (Go.Op.binOp Go.BinOp.eql 30 (Go.Operand.tmp 19) (Go.Operand.tmp 21) 30) 4 (.bool false) w_6] (by kernel_rfl) ⟨runs_bin rfl rfl (run_eqGuard_agg _ _ _ _ _ _ _ (by kernel_rfl)) (by have h := plain_eqb (a.vk, a.vn, a.vt) (b.vk, b.vn, b.vt) w_6; rw [show ple (a.vk, a.vn, a.vt) (b.vk, b.vn, b.vt) = false from Bool.eq_false_iff.2 (fun k => c_13 ((ple_iff _ _).1 k))] at h; exact h), trivial⟩ ?_
        refine XL_nil ?_
        refine X_ret ?_
        refine RX.ret_ok (P := Tryd.prog) (fn := Tryd.f105) (N := 31) (R := R_) [.bool false] (by kernel_rfl) (hR_ _ _ ?_)
        rw [show cellEqP a b = false from by unfold cellEqP; simp_all]
        exact ⟨rfl, (bt hb_2 hb_7)⟩
    · refine XL_run 17 [(15, .eq (.bool false))] [(4, .bool false)] w_6 [Value.bool (a.kind.toList == b.kind.toList) = Value.bool false] (by kernel_rfl) ⟨congrArg Value.bool (strEqF (c_12)), trivial⟩ ?_
      refine XL_nil ?_
      refine X_ret ?_
      refine RX.ret_ok (P := Tryd.prog) (fn := Tryd.f105) (N := 31) (R := R_) [.bool false] (by kernel_rfl) (hR_ _ _ ?_)
      rw [show cellEqP a b = false from by unfold cellEqP; simp_all]
      exact ⟨rfl, (bt hb_2 hb_7)⟩
  · refine XL_run 23 [(9, .eq (.bool false))] [(4, .bool false)] w_6 [Value.bool (a.rune == b.rune) = Value.bool false] (by kernel_rfl) ⟨congrArg Value.bool (beq_eq_false_iff_ne.2 (c_11)), trivial⟩ ?_
    refine XL_nil ?_
    refine X_ret ?_
    refine RX.ret_ok (P := Tryd.prog) (fn := Tryd.f105) (N := 31) (R := R_) [.bool false] (by kernel_rfl) (hR_ _ _ ?_)
    rw [show cellEqP a b = false from by unfold cellEqP; simp_all]
    exact ⟨rfl, (bt hb_2 hb_7)⟩
theorem sameCells_any (A B : Option Addr) (c d : Nat) (xs ys : List CellA) (w : World) (hx : kCell.C w A xs.length xs) (hy : kCell.C w B ys.length ys) : Calls Tryd.prog 55 #[.slice A xs.length c, .slice B ys.length d] w fun e w' => e = .returned (.bool (cellsEqP xs ys)) ∧ Below w.heap.size w w' := by
  have hpl : xs.length ≤ 9223372036854775807 := hx.2.1
  refine RX.enter Tryd.func55 rfl 29 rfl [(0, .slice A xs.length c), (1, .slice B ys.length d)] rfl (by kernel_rfl) (fun R_ hR_ => ?_)
  refine X_seq ?_
  refine X_region ?_
  refine XL_run 1 [] [(0, .slice A xs.length c), (1, .slice B ys.length d)] w [] (by kernel_rfl) trivial ?_
  refine XL_nil ?_
  refine X_seq ?_
  refine X_seq ?_
  refine X_region ?_
  refine XL_run 4 [] [(0, .slice A xs.length c), (1, .slice B ys.length d), (8, .int .i64 (xs.length : Int)), (10, .int .i64 (ys.length : Int))] w [] (by kernel_rfl) trivial ?_
  by_cases c_1 : (xs.length : Int) = (ys.length : Int)
  · refine XL_run 1 [(11, .eq (.bool false))] [(0, .slice A xs.length c), (1, .slice B ys.length d), (11, .bool false)] w [Value.bool ((xs.length : Int) != (ys.length : Int)) = Value.bool false] (by kernel_rfl) ⟨congrArg Value.bool (bneF (c_1)), trivial⟩ ?_
    refine XL_nil ?_
    refine X_cond false rfl ?_
    refine X_skip ?_
    refine X_seq ?_
    refine X_seq ?_
    refine X_region ?_
    refine XL_run 3 [] [(0, .slice A xs.length c), (1, .slice B ys.length d), (13, .int .i64 (xs.length : Int)), (14, .int .i64 0)] w [] (by kernel_rfl) trivial ?_
    refine XL_nil ?_
    refine X_block ?_
    refine X_loop (ι := Nat) (fun i => [(0, .slice A xs.length c), (1, .slice B ys.length d), (13, .int .i64 (xs.length : Int)), (14, .int .i64 (i : Int))]) (fun i wl => i ≤ xs.length ∧ xs.length = ys.length ∧ (∀ q, q < i → xs.getD q cell0 = ys.getD q cell0) ∧ Below w.heap.size w wl) (fun i => xs.length - i) 0 ⟨by omega, by omega, fun q hq => by omega, (Below.refl _ _)⟩ (by kernel_rfl) ?_
    rintro i wl ⟨hi, hlen, hq0, HB⟩
    refine X_seq ?_
    refine X_region ?_
    by_cases c_2 : (i : Int) < (xs.length : Int)
    · refine XL_run 1 [(15, .eq (.bool true))] [(0, .slice A xs.length c), (1, .slice B ys.length d), (13, .int .i64 (xs.length : Int)), (14, .int .i64 (i : Int)), (15, .bool true)] wl [Value.bool (decide ((i : Int) < (xs.length : Int))) = Value.bool true] (by kernel_rfl) ⟨congrArg Value.bool (decide_eq_true (c_2)), trivial⟩ ?_
      refine XL_nil ?_
      refine X_seq ?_
      refine X_cond true rfl ?_
      refine X_skip ?_
      refine X_seq ?_
      refine X_block ?_
      refine X_seq ?_
      refine X_region ?_
      refine XL_run 2 [] [(0, .slice A xs.length c), (1, .slice B ys.length d), (5, .int .i64 (i : Int)), (13, .int .i64 (xs.length : Int)), (14, .int .i64 (i : Int))] wl [] (by kernel_rfl) trivial ?_
      refine XL_nil ?_
      refine X_seq ?_
      refine X_any [8] 10 #[false, false, false, false, false, false, false, false, false, false] (by kernel_rfl) (by kernel_rfl) (by kernel_rfl) (fun wd_3 hb_4 hh_5 => ?_)
      refine XA_run (fuel' := 8) [0, 1] [] [.slice A xs.length c, .int .i64 (i : Int)] #[true, true, false, false, false, false, false, false, false, false] [(0, .slice A xs.length c), (1, .slice B ys.length d), (5, .int .i64 (i : Int)), (13, .int .i64 (xs.length : Int)), (14, .int .i64 (i : Int)), (17, .slice A xs.length c), (18, .int .i64 (i : Int))] [] (fun _ _ _ _ h => h) (by kernel_rfl) rfl trivial ?_
      obtain ⟨ad_6, B_9, c_10, ha_7, hc_8, hl_11, hC_12⟩ := Kd.atCell (Kd.C_below hx (bt HB hb_4)) (i := (i : Int)) (by omega) (by omega)
      replace hc_8 : CellsAt wd_3 (ad_6.add ((i : Int).toNat * 6)) [.int .i32 ((xs.getD i cell0).rune), .string ((xs.getD i cell0).kind), .int .i64 ((xs.getD i cell0).vk), .int .i64 ((xs.getD i cell0).vn), .string ((xs.getD i cell0).vt), .slice B_9 ((xs.getD i cell0).attrs.length) c_10] := hc_8
      replace hl_11 : (xs.getD i cell0).attrs.length ≤ c_10 := hl_11
      replace hC_12 : kAttr.C wd_3 B_9 ((xs.getD i cell0).attrs.length) (xs.getD i cell0).attrs := hC_12
      refine XA_run (fuel' := 4) [2, 3, 4, 5] [(19, .idx ad_6), (20, .load (.agg #[.int .i32 ((xs.getD i cell0).rune), .string ((xs.getD i cell0).kind), .int .i64 ((xs.getD i cell0).vk), .int .i64 ((xs.getD i cell0).vn), .string ((xs.getD i cell0).vt), .slice B_9 ((xs.getD i cell0).attrs.length) c_10]))] [.pointer (some (ad_6.add ((i : Int).toNat * 6))), .agg #[.int .i32 ((xs.getD i cell0).rune), .string ((xs.getD i cell0).kind), .int .i64 ((xs.getD i cell0).vk), .int .i64 ((xs.getD i cell0).vn), .string ((xs.getD i cell0).vt), .slice B_9 ((xs.getD i cell0).attrs.length) c_10], .slice B ys.length d, .int .i64 (i : Int)] #[true, true, true, true, true, true, false, false, false, false] [(0, .slice A xs.length c), (1, .slice B ys.length d), (13, .int .i64 (xs.length : Int)), (14, .int .i64 (i : Int)), (20, .agg #[.int .i32 ((xs.getD i cell0).rune), .string ((xs.getD i cell0).kind), .int .i64 ((xs.getD i cell0).vk), .int .i64 ((xs.getD i cell0).vn), .string ((xs.getD i cell0).vt), .slice B_9 ((xs.getD i cell0).attrs.length) c_10]), (21, .slice B ys.length d), (22, .int .i64 (i : Int))] [A = some ad_6, (0 : Int) ≤ (i : Int), (i : Int) < (xs.length : Int), LoadsAs Tryd.prog 98 (ad_6.add ((i : Int).toNat * 6)) (.agg #[.int .i32 ((xs.getD i cell0).rune), .string ((xs.getD i cell0).kind), .int .i64 ((xs.getD i cell0).vk), .int .i64 ((xs.getD i cell0).vn), .string ((xs.getD i cell0).vt), .slice B_9 ((xs.getD i cell0).attrs.length) c_10]) wd_3] (fun _ _ _ _ h => h) (by kernel_rfl) rfl ⟨ha_7, (by omega), (by omega), loadsE rfl rfl hc_8 0 ⟨by kernel_rfl, by kernel_rfl⟩, trivial⟩ ?_
      obtain ⟨ad_13, B_16, c_17, ha_14, hc_15, hl_18, hC_19⟩ := Kd.atCell (Kd.C_below hy (bt HB hb_4)) (i := (i : Int)) (by omega) (by omega)
      replace hc_15 : CellsAt wd_3 (ad_13.add ((i : Int).toNat * 6)) [.int .i32 ((ys.getD i cell0).rune), .string ((ys.getD i cell0).kind), .int .i64 ((ys.getD i cell0).vk), .int .i64 ((ys.getD i cell0).vn), .string ((ys.getD i cell0).vt), .slice B_16 ((ys.getD i cell0).attrs.length) c_17] := hc_15
      replace hl_18 : (ys.getD i cell0).attrs.length ≤ c_17 := hl_18
      replace hC_19 : kAttr.C wd_3 B_16 ((ys.getD i cell0).attrs.length) (ys.getD i cell0).attrs := hC_19
      refine XA_run (fuel' := 2) [6, 7] [(23, .idx ad_13), (24, .load (.agg #[.int .i32 ((ys.getD i cell0).rune), .string ((ys.getD i cell0).kind), .int .i64 ((ys.getD i cell0).vk), .int .i64 ((ys.getD i cell0).vn), .string ((ys.getD i cell0).vt), .slice B_16 ((ys.getD i cell0).attrs.length) c_17]))] [.pointer (some (ad_13.add ((i : Int).toNat * 6))), .agg #[.int .i32 ((ys.getD i cell0).rune), .string ((ys.getD i cell0).kind), .int .i64 ((ys.getD i cell0).vk), .int .i64 ((ys.getD i cell0).vn), .string ((ys.getD i cell0).vt), .slice B_16 ((ys.getD i cell0).attrs.length) c_17]] #[true, true, true, true, true, true, true, true, false, false] [(0, .slice A xs.length c), (1, .slice B ys.length d), (13, .int .i64 (xs.length : Int)), (14, .int .i64 (i : Int)), (20, .agg #[.int .i32 ((xs.getD i cell0).rune), .string ((xs.getD i cell0).kind), .int .i64 ((xs.getD i cell0).vk), .int .i64 ((xs.getD i cell0).vn), .string ((xs.getD i cell0).vt), .slice B_9 ((xs.getD i cell0).attrs.length) c_10]), (24, .agg #[.int .i32 ((ys.getD i cell0).rune), .string ((ys.getD i cell0).kind), .int .i64 ((ys.getD i cell0).vk), .int .i64 ((ys.getD i cell0).vn), .string ((ys.getD i cell0).vt), .slice B_16 ((ys.getD i cell0).attrs.length) c_17])] [B = some ad_13, (0 : Int) ≤ (i : Int), (i : Int) < (ys.length : Int), LoadsAs Tryd.prog 98 (ad_13.add ((i : Int).toNat * 6)) (.agg #[.int .i32 ((ys.getD i cell0).rune), .string ((ys.getD i cell0).kind), .int .i64 ((ys.getD i cell0).vk), .int .i64 ((ys.getD i cell0).vn), .string ((ys.getD i cell0).vt), .slice B_16 ((ys.getD i cell0).attrs.length) c_17]) wd_3] (fun _ _ _ _ h => h) (by kernel_rfl) rfl ⟨ha_14, (by omega), (by omega), loadsE rfl rfl hc_15 0 ⟨by kernel_rfl, by kernel_rfl⟩, trivial⟩ ?_
      refine XA_act (fuel' := 1) 8 #[true, true, true, true, true, true, true, true, true, false] _ rfl (by kernel_rfl) rfl (by kernel_rfl) rfl ?_
      refine XL_call 105 rfl rfl rfl ent105 [.agg #[.int .i32 ((xs.getD i cell0).rune), .string ((xs.getD i cell0).kind), .int .i64 ((xs.getD i cell0).vk), .int .i64 ((xs.getD i cell0).vn), .string ((xs.getD i cell0).vt), .slice B_9 ((xs.getD i cell0).attrs.length) c_10], .agg #[.int .i32 ((ys.getD i cell0).rune), .string ((ys.getD i cell0).kind), .int .i64 ((ys.getD i cell0).vk), .int .i64 ((ys.getD i cell0).vn), .string ((ys.getD i cell0).vt), .slice B_16 ((ys.getD i cell0).attrs.length) c_17]] (by kernel_rfl) (sameCell_any (xs.getD i cell0) (ys.getD i cell0) _ _ _ _ _ hC_12 hC_19) ?_
      rintro e w_20 ⟨rfl, hb_21⟩; refine ⟨_, rfl, ?_⟩
      refine XL_nil ?_
      refine XA_pure (fuel' := 0) [9] [] [.bool (cellEqP (xs.getD i cell0) (ys.getD i cell0))] #[true, true, true, true, true, true, true, true, true, true] [(0, .slice A xs.length c), (1, .slice B ys.length d), (6, .bool (cellEqP (xs.getD i cell0) (ys.getD i cell0))), (13, .int .i64 (xs.length : Int)), (14, .int .i64 (i : Int))] (fun w_ => []) (fun _ _ _ _ h => h) (fun w_ => by kernel_rfl) rfl (fun w_ => trivial) ?_
      refine XA_done (by kernel_rfl) ?_
      refine X_seq ?_
      refine X_region ?_
      refine XL_run 1 [] [(0, .slice A xs.length c), (1, .slice B ys.length d), (13, .int .i64 (xs.length : Int)), (14, .int .i64 (i : Int)), (26, .bool (cellEqP (xs.getD i cell0) (ys.getD i cell0)))] w_20 [] (by kernel_rfl) trivial ?_
      by_cases c_22 : cellEqP (xs.getD i cell0) (ys.getD i cell0) = true
      · rw [show (cellEqP (xs.getD i cell0) (ys.getD i cell0) : Bool) = true from by simpa using c_22]
        refine XL_run 1 [] [(0, .slice A xs.length c), (1, .slice B ys.length d), (13, .int .i64 (xs.length : Int)), (14, .int .i64 (i : Int)), (27, .bool false)] w_20 [] (by kernel_rfl) trivial ?_
        refine XL_nil ?_
        refine X_cond false rfl ?_
        refine X_skip ?_
        refine X_region ?_
        refine XL_run 2 [(28, .eq (.int .i64 ((i : Int) + 1)))] [(0, .slice A xs.length c), (1, .slice B ys.length d), (13, .int .i64 (xs.length : Int)), (14, .int .i64 ((i : Int) + 1))] w_20 [Value.int .i64 (IntKind.i64.wrap ((i : Int) + 1)) = Value.int .i64 ((i : Int) + 1)] (by kernel_rfl) ⟨wr_i64 (by omega) (by omega), trivial⟩ ?_
        refine XL_nil ?_
        refine ⟨(i + 1), by kernel_rfl, ?_, ?_⟩
        · exact ⟨by omega, by omega, fun q hq => by by_cases e_ : q = i; (· subst e_; exact (cellEqP_iff _ _).1 c_22); (· exact hq0 q (by omega)), (bt (bt HB hb_4) hb_21)⟩
        · (try dsimp only); omega
      · rw [show (cellEqP (xs.getD i cell0) (ys.getD i cell0) : Bool) = false from by simpa using c_22]
        refine XL_run 1 [] [(0, .slice A xs.length c), (1, .slice B ys.length d), (13, .int .i64 (xs.length : Int)), (14, .int .i64 (i : Int)), (27, .bool true)] w_20 [] (by kernel_rfl) trivial ?_
        refine XL_nil ?_
        refine X_cond true rfl ?_
        refine X_seq ?_
        refine X_region ?_
        refine XL_run 1 [] [(4, .bool false)] w_20 [] (by kernel_rfl) trivial ?_
        refine XL_nil ?_
        refine X_ret ?_
        refine RX.ret_ok (P := Tryd.prog) (fn := Tryd.f55) (N := 29) (R := R_) [.bool false] (by kernel_rfl) (hR_ _ _ ?_)
        rw [(cellsEqP_false xs ys).2 (fun e_ => c_22 ((cellEqP_iff _ _).2 (by rw [e_])))]
        exact ⟨rfl, (bt (bt HB hb_4) hb_21)⟩
    · refine XL_run 1 [(15, .eq (.bool false))] [(0, .slice A xs.length c), (1, .slice B ys.length d), (13, .int .i64 (xs.length : Int)), (14, .int .i64 (i : Int)), (15, .bool false)] wl [Value.bool (decide ((i : Int) < (xs.length : Int))) = Value.bool false] (by kernel_rfl) ⟨congrArg Value.bool (decide_eq_false (c_2)), trivial⟩ ?_
      refine XL_nil ?_
      refine X_seq ?_
      refine X_cond false rfl ?_
      refine X_exit ?_
      refine X_seq ?_
      refine X_region ?_
      refine XL_run 1 [] [(4, .bool true)] wl [] (by kernel_rfl) trivial ?_
      refine XL_nil ?_
      refine X_ret ?_
      refine RX.ret_ok (P := Tryd.prog) (fn := Tryd.f55) (N := 29) (R := R_) [.bool true] (by kernel_rfl) (hR_ _ _ ?_)
      rw [(cellsEqP_iff xs ys).2 (cells_ext hlen (fun q hq => hq0 q (by omega)))]
      exact ⟨rfl, HB⟩
  · refine XL_run 1 [(11, .eq (.bool true))] [(0, .slice A xs.length c), (1, .slice B ys.length d), (11, .bool true)] w [Value.bool ((xs.length : Int) != (ys.length : Int)) = Value.bool true] (by kernel_rfl) ⟨congrArg Value.bool (bneT (c_1)), trivial⟩ ?_
    refine XL_nil ?_
    refine X_cond true rfl ?_
    refine X_seq ?_
    refine X_region ?_
    refine XL_run 1 [] [(4, .bool false)] w [] (by kernel_rfl) trivial ?_
    refine XL_nil ?_
    refine X_ret ?_
    refine RX.ret_ok (P := Tryd.prog) (fn := Tryd.f55) (N := 29) (R := R_) [.bool false] (by kernel_rfl) (hR_ _ _ ?_)
    rw [(cellsEqP_false xs ys).2 (fun e_ => by subst e_; omega)]
    exact ⟨rfl, (Below.refl _ _)⟩
theorem scz_len (s : ByteArray) : (U.scz s).length = (U.sc s).length := List.length_map ..
theorem scz_rd (s : ByteArray) (i : Nat) (h : i < (U.sc s).length) : rd (U.scz s) (i : Int) = (((U.sc s)[i] : Nat) : Int) := by
  unfold rd U.scz
  rw [Int.toNat_natCast, List.getD_eq_getElem?_getD, List.getElem?_map, List.getElem?_eq_getElem h]; rfl
theorem rows_cell1 {w : World} {base : Nat} {x : CellA} {B : Option Addr} {c : Nat} {ok : Nat → Prop} (h : kAttrs.M w base ok x.attrs [.slice B x.attrs.length c]) : Reps (kCell.M w base ok) 6 [x] (cellV x B c) := by
  have := (Reps.none (kCell.M w base ok) 6).snoc (kCell_M h) rfl
  simpa using this
theorem R_lit1 {W0 W w1 : World} {x : CellA} {B : Option Addr} {c : Nat} {cs : Array Value} (hcs : cs.toList = cellV x B c) (hr : kAttr.R 79 w1 W0.heap.size (OkFrom W0.heap.size) (.slice B x.attrs.length c) x.attrs) (hle : W0.heap.size ≤ W.heap.size) (hB : ∀ k, B.map (·.block) = some k → k < W.heap.size) (hk : w1.heap[W.heap.size]? = some (.cells cs 98 (0, 0))) :
    kCell.R 98 w1 W0.heap.size (OkFrom W0.heap.size) (.slice (some ⟨W.heap.size, 0, none⟩) 1 1) [x] := by
  refine ⟨fun k hk2 => ?_, cs.toList, ⟨by rw [hcs]; rfl, .inr ⟨W.heap.size, 1, cs, rfl, hle, hk, Nat.le_refl _, by decide, by rw [← Array.length_toList, hcs]; rfl, List.take_of_length_le (by rw [hcs]; exact Nat.le_refl _)⟩⟩, ?_⟩
  · have : W.heap.size = k := by simpa [Value.ownBlock] using hk2
    subst this
    exact hle
  · rw [hcs]
    refine rows_cell1 (x := x) ⟨_, rfl, ?_⟩
    obtain ⟨h0, inner, ho, hrr⟩ := hr
    refine ⟨fun k hk3 => ⟨h0 k hk3, fun e1 => ?_⟩, inner, ho, hrr.imp_ (fun p q hp => by rw [kAttr_K (kAttr.K_of_M hp)]; exact kAttr_M _ _ _ _)⟩
    have e2 : k = W.heap.size := by simpa [Value.ownBlock] using e1
    have := hB k (by rw [← ownB (n := x.attrs.length) (c := c)]; exact hk3)
    omega
set_option maxHeartbeats 4000000 in
theorem r4cells_any (o : OpA) (A : Option Addr) (c : Nat) (w : World) (hA : kAttr.C w A o.attrs.length o.attrs) (hz : opSz o) : Calls Tryd.prog 53 #[.agg #[.int .i64 o.kind, .string o.text, .int .i64 o.vk, .int .i64 o.vn, .string o.vt, .int .i64 o.count, .slice A o.attrs.length c]] w fun e w' => ∃ A' c', e = .returned (.slice A' (cellsP o).length c') ∧ kCell.R 98 w' w.heap.size (OkFrom w.heap.size) (.slice A' (cellsP o).length c') (cellsP o) ∧ Below w.heap.size w w' := by
  have hz1 := hz.b.1
  have hz3 := hz.2.2.1
  have hscl := U.sc_le o.text
  have hszl := scz_len o.text
  refine RX.enter Tryd.func53 rfl 37 rfl [(0, .agg #[.int .i64 o.kind, .string o.text, .int .i64 o.vk, .int .i64 o.vn, .string o.vt, .int .i64 o.count, .slice A o.attrs.length c])] rfl (by kernel_rfl) (fun R_ hR_ => ?_)
  refine X_seq ?_
  refine X_region ?_
  refine XL_run 1 [] [(1, .pointer (some ⟨w.heap.size, 0, none⟩))] (w.alloc (.cells #[.int .i64 o.kind, .string o.text, .int .i64 o.vk, .int .i64 o.vn, .string o.vt, .int .i64 o.count, .slice A o.attrs.length c] 33)) [] (by kernel_rfl) trivial ?_
  obtain ⟨w_1, hw_5, hb_2, hk_3, hz_4⟩ := new_world w #[.int .i64 o.kind, .string o.text, .int .i64 o.vk, .int .i64 o.vn, .string o.vt, .int .i64 o.count, .slice A o.attrs.length c] 33
  rw [hw_5]
  refine XL_run 1 [] [(1, .pointer (some ⟨w.heap.size, 0, none⟩))] w_1 [] (by kernel_rfl) trivial ?_
  refine XL_nil ?_
  refine X_seq ?_
  refine X_seq ?_
  refine X_region ?_
  refine XL_run 2 [(7, .load (.int .i64 o.kind))] [(1, .pointer (some ⟨w.heap.size, 0, none⟩)), (7, .int .i64 o.kind)] w_1 [LoadsAs Tryd.prog 3 (⟨w.heap.size, 0, none⟩) (.int .i64 o.kind) w_1] (by kernel_rfl) ⟨loads1 rfl (Blk.cell hk_3 0 _ rfl), trivial⟩ ?_
  by_cases c_6 : o.kind = 2
  · refine XL_run 1 [(8, .eq (.bool true))] [(1, .pointer (some ⟨w.heap.size, 0, none⟩)), (8, .bool true)] w_1 [Value.bool (o.kind == 2) = Value.bool true] (by kernel_rfl) ⟨congrArg Value.bool (beq_iff_eq.2 (c_6)), trivial⟩ ?_
    refine XL_nil ?_
    refine X_cond true rfl ?_
    refine X_seq ?_
    refine X_grow [] 10 #[false, false, false, false, false, false, false, false, false, false] (by kernel_rfl) (by kernel_rfl) (by kernel_rfl) (fun wd_7 hb_8 hh_9 => ?_)
    refine XB_run (fuel' := 4) (Below.refl _ _) [0, 1, 2, 3, 4, 5] [(10, .load (.string o.text)), (12, .load (.agg #[.int .i64 o.vk, .int .i64 o.vn, .string o.vt])), (14, .load (.slice A o.attrs.length c))] [.pointer (some ⟨w.heap.size, 1, none⟩), .string o.text, .pointer (some ⟨w.heap.size, 2, none⟩), .agg #[.int .i64 o.vk, .int .i64 o.vn, .string o.vt], .pointer (some ⟨w.heap.size, 6, none⟩), .slice A o.attrs.length c] #[true, true, true, true, true, true, false, false, false, false] [(10, .string o.text), (12, .agg #[.int .i64 o.vk, .int .i64 o.vn, .string o.vt]), (14, .slice A o.attrs.length c)] (fun w_ => [LoadsAs Tryd.prog 9 (⟨w.heap.size, 1, none⟩) (.string o.text) w_, LoadsAs Tryd.prog 30 (⟨w.heap.size, 2, none⟩) (.agg #[.int .i64 o.vk, .int .i64 o.vn, .string o.vt]) w_, LoadsAs Tryd.prog 31 (⟨w.heap.size, 6, none⟩) (.slice A o.attrs.length c) w_]) (fun _ _ _ _ h => h) (fun w_ => by kernel_rfl) rfl (fun w_ hC_ => ⟨loads1 rfl (Blk.cell (Blk.below hk_3 (bt hb_8 hC_)) 1 _ rfl), loadsB rfl rfl (Blk.below hk_3 (bt hb_8 hC_)) 2 ⟨by kernel_rfl, by kernel_rfl⟩, loads1 rfl (Blk.cell (Blk.below hk_3 (bt hb_8 hC_)) 6 _ rfl), trivial⟩) ?_
    refine XB_mid (fuel' := 3) 6 #[true, true, true, true, true, true, true, false, false, false] _ rfl (by kernel_rfl) (by kernel_rfl) rfl ?_
    refine XL_call 103 rfl rfl rfl ent103 [.slice A o.attrs.length c] (by kernel_rfl) (r4copied_any _ _ o.attrs _ (Kd.C_below hA (bt hb_2 hb_8)) (by omega)) ?_
    rintro e w_12 ⟨A_10, c_11, rfl, hl_14, hr_15, hb_13⟩; refine ⟨_, rfl, ?_⟩
    refine XL_nil ?_
    refine ⟨hb_13, ?_⟩
    refine XB_run (fuel' := 2) hb_13 [7] [] [.agg #[.int .i32 (-1), .string o.text, .int .i64 o.vk, .int .i64 o.vn, .string o.vt, .slice A_10 o.attrs.length c_11]] #[true, true, true, true, true, true, true, true, false, false] [(16, .agg #[.int .i32 (-1), .string o.text, .int .i64 o.vk, .int .i64 o.vn, .string o.vt, .slice A_10 o.attrs.length c_11])] (fun w_ => []) (fun _ _ _ _ h => h) (fun w_ => by kernel_rfl) rfl (fun w_ hC_ => trivial) ?_
    refine XB_mid (fuel' := 1) 8 #[true, true, true, true, true, true, true, true, true, false] _ rfl (by kernel_rfl) (by kernel_rfl) rfl ?_
    refine XL_run 1 [] [(17, .slice (some ⟨w_12.heap.size, 0, none⟩) 1 1)] (w_12.alloc (.cells #[.int .i32 (-1), .string o.text, .int .i64 o.vk, .int .i64 o.vn, .string o.vt, .slice A_10 o.attrs.length c_11] 98)) [] (by kernel_rfl) trivial ?_
    obtain ⟨w_16, hw_20, hb_17, hk_18, hz_19⟩ := new_world w_12 #[.int .i32 (-1), .string o.text, .int .i64 o.vk, .int .i64 o.vn, .string o.vt, .slice A_10 o.attrs.length c_11] 98
    rw [hw_20]
    refine XL_nil ?_
    refine ⟨(bt hb_13 hb_17), ?_⟩
    refine XB_run (fuel' := 0) (bt hb_13 hb_17) [9] [] [.slice (some ⟨w_12.heap.size, 0, none⟩) 1 1] #[true, true, true, true, true, true, true, true, true, true] [(2, .slice (some ⟨w_12.heap.size, 0, none⟩) 1 1)] (fun w_ => []) (fun _ _ _ _ h => h) (fun w_ => by kernel_rfl) rfl (fun w_ hC_ => trivial) ?_
    refine XB_done (by kernel_rfl) ?_
    refine X_ret ?_
    refine RX.ret_ok (P := Tryd.prog) (fn := Tryd.f53) (N := 37) (R := R_) [.slice (some ⟨w_12.heap.size, 0, none⟩) 1 1] (by kernel_rfl) (hR_ _ _ ?_)
    rw [cellsP_2 c_6]
    exact ⟨_, _, rfl, Kd.R_low (R_lit1 (x := ⟨-1, o.text, o.vk, o.vn, o.vt, o.attrs⟩) rfl (Kd.R_below hr_15 hb_17) (hb_13).size (RX.Kd.R_lt hr_15) hk_18) ((bt hb_2 hb_8)).size, (bt (bt (bt hb_2 hb_8) hb_13) hb_17)⟩
  · refine XL_run 1 [(8, .eq (.bool false))] [(1, .pointer (some ⟨w.heap.size, 0, none⟩)), (8, .bool false)] w_1 [Value.bool (o.kind == 2) = Value.bool false] (by kernel_rfl) ⟨congrArg Value.bool (beq_eq_false_iff_ne.2 (c_6)), trivial⟩ ?_
    refine XL_nil ?_
    refine X_cond false rfl ?_
    refine X_skip ?_
    refine X_seq ?_
    refine X_region ?_
    refine XL_run 1 [] [(1, .pointer (some ⟨w.heap.size, 0, none⟩)), (18, .slice (some ⟨w_1.heap.size, 0, none⟩) 0 0)] (w_1.alloc (.cells #[] 98)) [] (by kernel_rfl) trivial ?_
    obtain ⟨w_21, hw_25, hb_22, hk_23, hz_24⟩ := new_world w_1 #[] 98
    rw [hw_25]
    refine XL_run 1 [] [(1, .pointer (some ⟨w.heap.size, 0, none⟩)), (3, .slice (some ⟨w_1.heap.size, 0, none⟩) 0 0)] w_21 [] (by kernel_rfl) trivial ?_
    refine XL_nil ?_
    refine X_seq ?_
    refine X_seq ?_
    refine X_region ?_
    refine XL_run 2 [(20, .load (.string o.text))] [(1, .pointer (some ⟨w.heap.size, 0, none⟩)), (3, .slice (some ⟨w_1.heap.size, 0, none⟩) 0 0), (20, .string o.text)] w_21 [LoadsAs Tryd.prog 9 (⟨w.heap.size, 1, none⟩) (.string o.text) w_21] (by kernel_rfl) ⟨loads1 rfl (Blk.cell (Blk.below hk_3 hb_22) 1 _ rfl), trivial⟩ ?_
    refine XL_call 104 rfl rfl rfl ent104 [.string o.text] (by kernel_rfl) (rlist_any o.text _ (by omega)) ?_
    rintro e w_30 ⟨A_26, c_27, rfl, hl_28, hr_29, hb_31⟩; refine ⟨_, rfl, ?_⟩
    refine XL_run 2 [] [(1, .pointer (some ⟨w.heap.size, 0, none⟩)), (3, .slice (some ⟨w_1.heap.size, 0, none⟩) 0 0), (21, .slice A_26 ((U.scz o.text).length) c_27), (22, .int .i64 ((U.scz o.text).length : Int)), (23, .int .i64 0)] w_30 [] (by kernel_rfl) trivial ?_
    refine XL_nil ?_
    refine X_block ?_
    have hr_32 := Kd.R_litB kCell (W := w_1) (e := 98) (cs := #[]) [] hk_23 (repsCell0) (Nat.le_of_ble_eq_true (by kernel_rfl))
    refine X_loop (ι := Nat × Option Addr × Nat × List CellA) (fun ⟨i, A6, c6, zs6⟩ => [(1, .pointer (some ⟨w.heap.size, 0, none⟩)), (3, .slice A6 zs6.length c6), (21, .slice A_26 ((U.scz o.text).length) c_27), (22, .int .i64 ((U.scz o.text).length : Int)), (23, .int .i64 (i : Int))]) (fun ⟨i, A6, c6, zs6⟩ wl => i ≤ (U.sc o.text).length ∧ zs6 = ((U.sc o.text).take i).map (cellR o.attrs) ∧ kCell.R 98 wl w_1.heap.size (OkFrom w_1.heap.size) (.slice A6 zs6.length c6) zs6 ∧ (Kd.int .i32).R 21 wl w_21.heap.size (OkFrom w_21.heap.size) (.slice A_26 (U.scz o.text).length c_27) (U.scz o.text) ∧ w_21.heap.size ≤ wl.heap.size ∧ Below w_1.heap.size w_1 wl) (fun ⟨i, A6, c6, zs6⟩ => (U.sc o.text).length - i) (0, (some ⟨w_1.heap.size, 0, none⟩), 0, []) ⟨by omega, rfl, (Kd.R_below hr_32 hb_31), hr_29, (hb_31).size, (bt hb_22 hb_31)⟩ (by kernel_rfl) ?_
    rintro ⟨i, A6, c6, zs6⟩ wl ⟨hi, he6, hr6, hq6, hle6, HB⟩
    have hzl : zs6.length = min i (U.sc o.text).length := by rw [he6, List.length_map, List.length_take]
    refine X_seq ?_
    refine X_region ?_
    by_cases c_33 : (i : Int) < ((U.scz o.text).length : Int)
    · refine XL_run 1 [(24, .eq (.bool true))] [(1, .pointer (some ⟨w.heap.size, 0, none⟩)), (3, .slice A6 zs6.length c6), (21, .slice A_26 ((U.scz o.text).length) c_27), (22, .int .i64 ((U.scz o.text).length : Int)), (23, .int .i64 (i : Int)), (24, .bool true)] wl [Value.bool (decide ((i : Int) < ((U.scz o.text).length : Int))) = Value.bool true] (by kernel_rfl) ⟨congrArg Value.bool (decide_eq_true (c_33)), trivial⟩ ?_
      refine XL_nil ?_
      refine X_seq ?_
      refine X_cond true rfl ?_
      refine X_skip ?_
      refine X_seq ?_
      refine X_block ?_
      refine X_seq ?_
      refine X_region ?_
      obtain ⟨ad_34, ha_35, hc_36⟩ := Kd.atI (Kd.R_C hq6) (i := (i : Int)) (by omega) (by omega)
      refine XL_run 3 [(25, .idx ad_34), (26, .load (.int .i32 (rd (U.scz o.text) (i : Int))))] [(1, .pointer (some ⟨w.heap.size, 0, none⟩)), (3, .slice A6 zs6.length c6), (5, .int .i32 (rd (U.scz o.text) (i : Int))), (21, .slice A_26 ((U.scz o.text).length) c_27), (22, .int .i64 ((U.scz o.text).length : Int)), (23, .int .i64 (i : Int))] wl [A_26 = some ad_34, (0 : Int) ≤ (i : Int), (i : Int) < ((U.scz o.text).length : Int), LoadsAs Tryd.prog 21 (ad_34.add ((i : Int).toNat * 1)) (.int .i32 (rd (U.scz o.text) (i : Int))) wl] (by kernel_rfl) ⟨ha_35, (by omega), (by omega), loads1 rfl (elem_cell hc_36 0 _ rfl), trivial⟩ ?_
      refine XL_nil ?_
      refine X_region ?_
      refine XL_run 4 [(30, .load (.slice A o.attrs.length c))] [(1, .pointer (some ⟨w.heap.size, 0, none⟩)), (21, .slice A_26 ((U.scz o.text).length) c_27), (22, .int .i64 ((U.scz o.text).length : Int)), (23, .int .i64 (i : Int)), (27, .slice A6 zs6.length c6), (28, .int .i32 (rd (U.scz o.text) (i : Int))), (30, .slice A o.attrs.length c)] wl [LoadsAs Tryd.prog 31 (⟨w.heap.size, 6, none⟩) (.slice A o.attrs.length c) wl] (by kernel_rfl) ⟨loads1 rfl (Blk.cell (Blk.below hk_3 HB) 6 _ rfl), trivial⟩ ?_
      refine XL_call 103 rfl rfl rfl ent103 [.slice A o.attrs.length c] (by kernel_rfl) (r4copied_any _ _ o.attrs _ (Kd.C_below hA (bt hb_2 HB)) (by omega)) ?_
      rintro e w_39 ⟨A_37, c_38, rfl, hl_41, hr_42, hb_40⟩; refine ⟨_, rfl, ?_⟩
      refine XL_run 2 [] [(1, .pointer (some ⟨w.heap.size, 0, none⟩)), (21, .slice A_26 ((U.scz o.text).length) c_27), (22, .int .i64 ((U.scz o.text).length : Int)), (23, .int .i64 (i : Int)), (27, .slice A6 zs6.length c6), (33, .slice (some ⟨w_39.heap.size, 0, none⟩) 1 1)] (w_39.alloc (.cells #[.int .i32 (rd (U.scz o.text) (i : Int)), .string ByteArray.empty, .int .i64 0, .int .i64 0, .string ByteArray.empty, .slice A_37 o.attrs.length c_38] 98)) [] (by kernel_rfl) trivial ?_
      obtain ⟨w_43, hw_47, hb_44, hk_45, hz_46⟩ := new_world w_39 #[.int .i32 (rd (U.scz o.text) (i : Int)), .string ByteArray.empty, .int .i64 0, .int .i64 0, .string ByteArray.empty, .slice A_37 o.attrs.length c_38] 98
      rw [hw_47]
      obtain ⟨okp_48, hM_49, hok_50⟩ := Kd.M_rowApart hr_42 (HB).size (Kd.R_below hr6 hb_40) (by decide)
      rw [← hw_47]
      refine XL_append kCell rfl rfl rfl w_1.heap.size 98 (.agg #[.int .i32 0, .string ByteArray.empty, .int .i64 0, .int .i64 0, .string ByteArray.empty, .slice none 0 0]) 80 Tryd.underlying90 info98 rfl (by decide) (by omega) zs6 (⟨rd (U.scz o.text) (i : Int), ByteArray.empty, 0, 0, ByteArray.empty, o.attrs⟩ : CellA) [.int .i32 (rd (U.scz o.text) (i : Int)), .string ByteArray.empty, .int .i64 0, .int .i64 0, .string ByteArray.empty, .slice A_37 o.attrs.length c_38] okp_48 (by kernel_rfl) (kCell_M (x := (⟨rd (U.scz o.text) (i : Int), ByteArray.empty, 0, 0, ByteArray.empty, o.attrs⟩ : CellA)) hM_49) hok_50 (Kd.R_below hr6 hb_40) ((bt HB hb_40)).size (by first | omega | (simp; omega)) ?_
      intro A_51 c_52 w_53 hr_54 hc_55 hg_56 hl_57 ha_58
      have hr_59 := Kd.R_apart hr_42 (Kd.R_below hr6 hb_40) (by decide) hg_56
      have hr_60 := Kd.R_apart (Kd.R_below hq6 hb_40) (Kd.R_below hr6 hb_40) (by decide) hg_56
      refine XL_run 1 [] [(1, .pointer (some ⟨w.heap.size, 0, none⟩)), (3, .slice A_51 ((zs6 ++ [(⟨rd (U.scz o.text) (i : Int), ByteArray.empty, 0, 0, ByteArray.empty, o.attrs⟩ : CellA)]).length) c_52), (21, .slice A_26 ((U.scz o.text).length) c_27), (22, .int .i64 ((U.scz o.text).length : Int)), (23, .int .i64 (i : Int))] w_53 [] (by kernel_rfl) trivial ?_
      refine XL_nil ?_
      refine X_region ?_
      refine XL_run 2 [(35, .eq (.int .i64 ((i : Int) + 1)))] [(1, .pointer (some ⟨w.heap.size, 0, none⟩)), (3, .slice A_51 ((zs6 ++ [(⟨rd (U.scz o.text) (i : Int), ByteArray.empty, 0, 0, ByteArray.empty, o.attrs⟩ : CellA)]).length) c_52), (21, .slice A_26 ((U.scz o.text).length) c_27), (22, .int .i64 ((U.scz o.text).length : Int)), (23, .int .i64 ((i : Int) + 1))] w_53 [Value.int .i64 (IntKind.i64.wrap ((i : Int) + 1)) = Value.int .i64 ((i : Int) + 1)] (by kernel_rfl) ⟨wr_i64 (by omega) (by omega), trivial⟩ ?_
      refine XL_nil ?_
      have hB_61 : Below w_1.heap.size w_1 w_53 := (bgo (bt HB hb_40) hg_56 hl_57 (Nat.le_refl _))
      refine ⟨(i + 1, A_51, c_52, (zs6 ++ [(⟨rd (U.scz o.text) (i : Int), ByteArray.empty, 0, 0, ByteArray.empty, o.attrs⟩ : CellA)])), by kernel_rfl, ?_, ?_⟩
      · have hlt : i < (U.sc o.text).length := by omega
        exact ⟨by omega, by rw [scz_rd o.text i hlt, he6]; exact cells_snoc o.text o.attrs i hlt, hr_54, hr_60, (Nat.le_trans hle6 (Nat.le_trans hb_40.size hg_56.size)), hB_61⟩
      · (try dsimp only); omega
    · refine XL_run 1 [(24, .eq (.bool false))] [(1, .pointer (some ⟨w.heap.size, 0, none⟩)), (3, .slice A6 zs6.length c6), (21, .slice A_26 ((U.scz o.text).length) c_27), (22, .int .i64 ((U.scz o.text).length : Int)), (23, .int .i64 (i : Int)), (24, .bool false)] wl [Value.bool (decide ((i : Int) < ((U.scz o.text).length : Int))) = Value.bool false] (by kernel_rfl) ⟨congrArg Value.bool (decide_eq_false (c_33)), trivial⟩ ?_
      refine XL_nil ?_
      refine X_seq ?_
      refine X_cond false rfl ?_
      refine X_exit ?_
      refine X_seq ?_
      refine X_region ?_
      refine XL_run 2 [] [(2, .slice A6 zs6.length c6)] wl [] (by kernel_rfl) trivial ?_
      refine XL_nil ?_
      refine X_ret ?_
      refine RX.ret_ok (P := Tryd.prog) (fn := Tryd.f53) (N := 37) (R := R_) [.slice A6 zs6.length c6] (by kernel_rfl) (hR_ _ _ ?_)
      have hend : i = (U.sc o.text).length := by omega
      rw [hend, List.take_length] at he6
      rw [show cellsP o = zs6 from by rw [he6]; exact if_neg c_6]
      exact ⟨_, _, rfl, Kd.R_low hr6 (hb_2).size, (bt hb_2 HB)⟩
end Go.Proofs.YtekfdfafhfhfbaaDoor
