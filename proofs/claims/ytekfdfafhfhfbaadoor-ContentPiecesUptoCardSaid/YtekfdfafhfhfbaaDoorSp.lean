/- What vellumspare.Attrs, Copy, Kept and Spoil do. Conditions: sizes. -/
import Derived.Test.YtekfdfafhfhfbaaDoorP2
import Derived.Test.YtekfdfafhfhfbaaDoorSpare
set_option linter.unusedVariables false
set_option linter.unusedSimpArgs false
set_option maxRecDepth 100000
namespace Go.Proofs.YtekfdfafhfhfbaaDoor
open Go Go.RowKit Go.Proofs.YtekfdfafhfhfbaaDoorW.PrintWords RX
theorem ent96 : Ent Tryd.prog 96 := ent_of Tryd.func96 (by kernel_rfl) rfl
theorem ent47 : Ent Tryd.prog 47 := ent_of Tryd.func47 (by kernel_rfl) rfl
theorem ent52 : Ent Tryd.prog 52 := ent_of Tryd.func52 (by kernel_rfl) rfl
theorem ent57 : Ent Tryd.prog 57 := ent_of Tryd.func57 (by kernel_rfl) rfl
theorem infoSp : (Tryd.prog.info? 33).map (fun i => (i.zero, i.size, i.bytes)) = some (some (.agg #[.int .i64 0, .string ByteArray.empty, .int .i64 0, .int .i64 0, .string ByteArray.empty, .int .i64 0, .slice none 0 0]), 7, 88) := by kernel_rfl
theorem spAttrs_any (A : Option Addr) (c : Nat) (xs : List At) (w : World) (hx : kAttr.C w A xs.length xs) (hn : xs.length ≤ 100000000) : Calls Tryd.prog 96 #[.slice A xs.length c] w fun e w' => ∃ A' c', e = .returned (.slice A' xs.length c') ∧ kAttrsS.M w' w.heap.size (OkFrom w.heap.size) xs [.slice A' xs.length c'] ∧ Below w.heap.size w w' := by
  have hpl : xs.length ≤ 9223372036854775807 := hx.2.1
  refine RX.enter Tryd.func96 rfl 15 rfl [(0, .slice A xs.length c)] rfl (by kernel_rfl) (fun R_ hR_ => ?_)
  refine X_seq ?_
  refine X_region ?_
  refine XL_run 1 [] [(0, .slice A xs.length c)] w [] (by kernel_rfl) trivial ?_
  refine XL_nil ?_
  refine X_seq ?_
  refine X_seq ?_
  refine X_region ?_
  refine XL_run 2 [] [(0, .slice A xs.length c), (4, .int .i64 (xs.length : Int))] w [] (by kernel_rfl) trivial ?_
  by_cases c_1 : (xs.length : Int) = 0
  · refine XL_run 1 [(5, .eq (.bool true))] [(0, .slice A xs.length c), (5, .bool true)] w [Value.bool ((xs.length : Int) == 0) = Value.bool true] (by kernel_rfl) ⟨congrArg Value.bool (beq_iff_eq.2 (c_1)), trivial⟩ ?_
    refine XL_nil ?_
    refine X_cond true rfl ?_
    refine X_seq ?_
    refine X_region ?_
    refine XL_run 1 [] [(2, .slice none 0 0)] w [] (by kernel_rfl) trivial ?_
    refine XL_nil ?_
    refine X_ret ?_
    refine RX.ret_ok (P := Tryd.prog) (fn := Tryd.f96) (N := 15) (R := R_) [.slice none 0 0] (by kernel_rfl) (hR_ _ _ ?_)
    have h0 : xs = [] := List.eq_nil_of_length_eq_zero (by omega)
    subst h0
    exact ⟨none, 0, rfl, ⟨none, 0, rfl, .inl ⟨rfl, rfl, rfl⟩⟩, (Below.refl _ _)⟩
  · refine XL_run 1 [(5, .eq (.bool false))] [(0, .slice A xs.length c), (5, .bool false)] w [Value.bool ((xs.length : Int) == 0) = Value.bool false] (by kernel_rfl) ⟨congrArg Value.bool (beq_eq_false_iff_ne.2 (c_1)), trivial⟩ ?_
    refine XL_nil ?_
    refine X_cond false rfl ?_
    refine X_skip ?_
    refine X_seq ?_
    refine X_region ?_
    refine XL_run 1 [] [(0, .slice A xs.length c), (6, .slice (some ⟨w.heap.size, 0, none⟩) 0 0)] (w.alloc (.cells #[] 79)) [] (by kernel_rfl) trivial ?_
    obtain ⟨w_2, hw_6, hb_3, hk_4, hz_5⟩ := new_world w #[] 79
    rw [hw_6]
    refine XL_run 1 [] [(0, .slice A xs.length c), (6, .slice (some ⟨w.heap.size, 0, none⟩) 0 0), (7, .slice A xs.length c)] w_2 [] (by kernel_rfl) trivial ?_
    have hr_7 := Kd.R_litB kAttr (W := w) (e := 79) (cs := #[]) [] hk_4 (repsAttr []) (Nat.le_of_ble_eq_true (by kernel_rfl))
    refine XL_appendAll (c' := c) kAttr rfl rfl rfl w.heap.size 79 (.agg #[.string ByteArray.empty, .int .i64 0, .int .i64 0, .string ByteArray.empty]) 48 Tryd.underlying31 info79 rfl (by decide) (by omega) ([]) xs (by kernel_rfl) hr_7 (Kd.C_below hx hb_3) kAttr_KM (hb_3).size (by first | omega | (simp; omega)) ?_
    intro A_8 c_9 w_10 hr_11 hc_12 hg_13 hl_14 ha_15
    have he_16 : ([] ++ xs) = xs := List.nil_append _
    rw [he_16] at hr_11 ⊢
    refine XL_run 2 [] [(0, .slice A xs.length c), (8, .slice A_8 xs.length c_9), (10, .slice (some ⟨w_10.heap.size, 0, none⟩) 1 1)] (w_10.alloc (.cells #[.string (⟨#[115, 112, 97, 114, 101]⟩ : ByteArray), .int .i64 0, .int .i64 0, .string ByteArray.empty] 79)) [] (by kernel_rfl) trivial ?_
    obtain ⟨w_17, hw_21, hb_18, hk_19, hz_20⟩ := new_world w_10 #[.string (⟨#[115, 112, 97, 114, 101]⟩ : ByteArray), .int .i64 0, .int .i64 0, .string ByteArray.empty] 79
    rw [hw_21]
    rw [← hw_21]
    refine XL_append kAttr rfl rfl rfl w.heap.size 79 (.agg #[.string ByteArray.empty, .int .i64 0, .int .i64 0, .string ByteArray.empty]) 48 Tryd.underlying31 info79 rfl (by decide) (by omega) xs ((⟨#[115, 112, 97, 114, 101]⟩ : ByteArray), 0, 0, ByteArray.empty) [.string (⟨#[115, 112, 97, 114, 101]⟩ : ByteArray), .int .i64 0, .int .i64 0, .string ByteArray.empty] (fun _ => False) (by kernel_rfl) (kAttr_M _ _ _ _) (fun _ h => h.elim) hr_11 ((bgo hb_3 hg_13 hl_14 (Nat.le_refl _))).size (by omega) ?_
    intro A_22 c_23 w_24 hr_25 hc_26 hg_27 hl_28 ha_29
    have hC_30 : kAttr.C w_24 A_22 xs.length xs := by have h := RX.Kd.C_take (m := xs.length) (Kd.R_C hr_25) (by first | omega | (simp; done) | (simp; omega)); rwa [show (List.take xs.length (xs ++ [((⟨#[115, 112, 97, 114, 101]⟩ : ByteArray), 0, 0, ByteArray.empty)])) = xs from List.take_left ..] at h
    refine XL_run 4 [(14, .as (.slice A_22 xs.length c_23))] [(2, .slice A_22 xs.length c_23)] w_24 [RunsAs Tryd.prog [(11, .slice A_22 ((xs ++ [((⟨#[115, 112, 97, 114, 101]⟩ : ByteArray), 0, 0, ByteArray.empty)]).length) c_23), (13, .int .i64 (xs.length : Int))] (Go.Op.slice 31 (Go.Operand.tmp 11) none (some (Go.Operand.tmp 13)) none) 31 (.slice A_22 xs.length c_23) w_24] (by kernel_rfl) ⟨runs_slice_h (h := (xs.length : Int)) rfl rfl rfl rfl (by omega) (by have h := hc_26; (try simp only [List.length_append, List.length_cons, List.length_nil] at h); omega), trivial⟩ ?_
    refine XL_nil ?_
    refine X_ret ?_
    refine RX.ret_ok (P := Tryd.prog) (fn := Tryd.f96) (N := 15) (R := R_) [.slice A_22 xs.length c_23] (by kernel_rfl) (hR_ _ _ ?_)
    have hB_31 : Below w.heap.size w w_24 := (bgo (bgo hb_3 hg_13 hl_14 (Nat.le_refl _)) hg_27 hl_28 (Nat.le_refl _))
    have hR := hr_25
    rw [List.length_append, List.length_singleton] at hR
    exact ⟨_, _, rfl, ⟨_, _, rfl, .inr ⟨_, rfl, Kd.R_low hR (Nat.le_refl _)⟩⟩, hB_31⟩
set_option maxHeartbeats 2000000 in
theorem spCopy_any (A : Option Addr) (c : Nat) (xs : List OpA) (w : World) (hx : kOp.C w A xs.length xs) (hn : xs.length ≤ 1100000) (hz : ∀ i, i < xs.length → opSz (xs.getD i op0)) : Calls Tryd.prog 47 #[.slice A xs.length c] w fun e w' => ∃ A' c', e = .returned (.slice A' xs.length c') ∧ xs.length + 1 ≤ c' ∧ kOpS.R 33 w' w.heap.size (OkFrom w.heap.size) (.slice A' (xs.length + 1) c') (xs ++ [sp77]) ∧ Below w.heap.size w w' := by
  have hpl : xs.length ≤ 9223372036854775807 := hx.2.1
  refine RX.enter Tryd.func47 rfl 29 rfl [(0, .slice A xs.length c)] rfl (by kernel_rfl) (fun R_ hR_ => ?_)
  refine X_seq ?_
  refine X_region ?_
  refine XL_run 1 [] [(0, .slice A xs.length c)] w [] (by kernel_rfl) trivial ?_
  refine XL_nil ?_
  refine X_seq ?_
  refine X_region ?_
  refine XL_run 1 [] [(0, .slice A xs.length c), (6, .slice (some ⟨w.heap.size, 0, none⟩) 0 0)] (w.alloc (.cells #[] 33)) [] (by kernel_rfl) trivial ?_
  obtain ⟨w_1, hw_5, hb_2, hk_3, hz_4⟩ := new_world w #[] 33
  rw [hw_5]
  refine XL_run 1 [] [(0, .slice A xs.length c), (3, .slice (some ⟨w.heap.size, 0, none⟩) 0 0)] w_1 [] (by kernel_rfl) trivial ?_
  refine XL_nil ?_
  refine X_seq ?_
  refine X_seq ?_
  refine X_region ?_
  refine XL_run 3 [] [(0, .slice A xs.length c), (3, .slice (some ⟨w.heap.size, 0, none⟩) 0 0), (7, .slice A xs.length c), (8, .int .i64 (xs.length : Int)), (9, .int .i64 0)] w_1 [] (by kernel_rfl) trivial ?_
  refine XL_nil ?_
  refine X_block ?_
  have hr_6 := Kd.R_litB kOpS (W := w) (e := 33) (cs := #[]) [] hk_3 (repsOpS0 [] (fun _ h => by cases h)) (Nat.le_of_ble_eq_true (by kernel_rfl))
  refine X_loop (ι := Nat × Option Addr × Nat × List OpA) (fun ⟨i, A3, c3, zs3⟩ => [(0, .slice A xs.length c), (3, .slice A3 zs3.length c3), (7, .slice A xs.length c), (8, .int .i64 (xs.length : Int)), (9, .int .i64 (i : Int))]) (fun ⟨i, A3, c3, zs3⟩ wl => i ≤ xs.length ∧ zs3 = xs.take i ∧ kOpS.R 33 wl w.heap.size (OkFrom w.heap.size) (.slice A3 zs3.length c3) zs3 ∧ w.heap.size ≤ wl.heap.size ∧ Below w.heap.size w wl) (fun ⟨i, A3, c3, zs3⟩ => xs.length - i) (0, (some ⟨w.heap.size, 0, none⟩), 0, []) ⟨by omega, rfl, hr_6, (hb_2).size, hb_2⟩ (by kernel_rfl) ?_
  rintro ⟨i, A3, c3, zs3⟩ wl ⟨hi, he3, hr3, hle3, HB⟩
  have hzl : zs3.length = min i xs.length := by rw [he3, List.length_take]
  have hatl := fun (h_ : i < xs.length) => (hz i h_).2.2.1
  refine X_seq ?_
  refine X_region ?_
  by_cases c_7 : (i : Int) < (xs.length : Int)
  · refine XL_run 1 [(10, .eq (.bool true))] [(0, .slice A xs.length c), (3, .slice A3 zs3.length c3), (7, .slice A xs.length c), (8, .int .i64 (xs.length : Int)), (9, .int .i64 (i : Int)), (10, .bool true)] wl [Value.bool (decide ((i : Int) < (xs.length : Int))) = Value.bool true] (by kernel_rfl) ⟨congrArg Value.bool (decide_eq_true (c_7)), trivial⟩ ?_
    refine XL_nil ?_
    refine X_seq ?_
    refine X_cond true rfl ?_
    refine X_skip ?_
    refine X_seq ?_
    refine X_block ?_
    refine X_seq ?_
    refine X_region ?_
    obtain ⟨ad_8, B_11, c_12, ha_9, hc_10, hl_13, hC_14⟩ := Kd.atOp (Kd.C_below hx HB) (i := (i : Int)) (by omega) (by omega)
    replace hc_10 : CellsAt wl (ad_8.add ((i : Int).toNat * 7)) [.int .i64 ((xs.getD i op0).kind), .string ((xs.getD i op0).text), .int .i64 ((xs.getD i op0).vk), .int .i64 ((xs.getD i op0).vn), .string ((xs.getD i op0).vt), .int .i64 ((xs.getD i op0).count), .slice B_11 ((xs.getD i op0).attrs.length) c_12] := hc_10
    replace hl_13 : (xs.getD i op0).attrs.length ≤ c_12 := hl_13
    replace hC_14 : kAttr.C wl B_11 ((xs.getD i op0).attrs.length) (xs.getD i op0).attrs := hC_14
    refine XL_run 3 [(11, .idx ad_8), (12, .load (.agg #[.int .i64 ((xs.getD i op0).kind), .string ((xs.getD i op0).text), .int .i64 ((xs.getD i op0).vk), .int .i64 ((xs.getD i op0).vn), .string ((xs.getD i op0).vt), .int .i64 ((xs.getD i op0).count), .slice B_11 ((xs.getD i op0).attrs.length) c_12]))] [(0, .slice A xs.length c), (3, .slice A3 zs3.length c3), (5, .pointer (some ⟨wl.heap.size, 0, none⟩)), (7, .slice A xs.length c), (8, .int .i64 (xs.length : Int)), (9, .int .i64 (i : Int)), (12, .agg #[.int .i64 ((xs.getD i op0).kind), .string ((xs.getD i op0).text), .int .i64 ((xs.getD i op0).vk), .int .i64 ((xs.getD i op0).vn), .string ((xs.getD i op0).vt), .int .i64 ((xs.getD i op0).count), .slice B_11 ((xs.getD i op0).attrs.length) c_12])] (wl.alloc (.cells #[.int .i64 0, .string ByteArray.empty, .int .i64 0, .int .i64 0, .string ByteArray.empty, .int .i64 0, .slice none 0 0] 33)) [A = some ad_8, (0 : Int) ≤ (i : Int), (i : Int) < (xs.length : Int), LoadsAs Tryd.prog 33 (ad_8.add ((i : Int).toNat * 7)) (.agg #[.int .i64 ((xs.getD i op0).kind), .string ((xs.getD i op0).text), .int .i64 ((xs.getD i op0).vk), .int .i64 ((xs.getD i op0).vn), .string ((xs.getD i op0).vt), .int .i64 ((xs.getD i op0).count), .slice B_11 ((xs.getD i op0).attrs.length) c_12]) wl] (by kernel_rfl) ⟨ha_9, (by omega), (by omega), loadsE rfl rfl hc_10 0 ⟨by kernel_rfl, by kernel_rfl⟩, trivial⟩ ?_
    obtain ⟨w_15, hw_19, hb_16, hk_17, hz_18⟩ := new_world wl #[.int .i64 0, .string ByteArray.empty, .int .i64 0, .int .i64 0, .string ByteArray.empty, .int .i64 0, .slice none 0 0] 33
    rw [hw_19]
    refine XL_store (v := .agg #[.int .i64 ((xs.getD i op0).kind), .string ((xs.getD i op0).text), .int .i64 ((xs.getD i op0).vk), .int .i64 ((xs.getD i op0).vn), .string ((xs.getD i op0).vt), .int .i64 ((xs.getD i op0).count), .slice B_11 ((xs.getD i op0).attrs.length) c_12]) rfl rfl rfl (by kernel_rfl) hk_17 0 [.int .i64 ((xs.getD i op0).kind), .string ((xs.getD i op0).text), .int .i64 ((xs.getD i op0).vk), .int .i64 ((xs.getD i op0).vn), .string ((xs.getD i op0).vt), .int .i64 ((xs.getD i op0).count), .slice B_11 ((xs.getD i op0).attrs.length) c_12] #[.int .i64 ((xs.getD i op0).kind), .string ((xs.getD i op0).text), .int .i64 ((xs.getD i op0).vk), .int .i64 ((xs.getD i op0).vn), .string ((xs.getD i op0).vt), .int .i64 ((xs.getD i op0).count), .slice B_11 ((xs.getD i op0).attrs.length) c_12] ⟨by kernel_rfl, rfl, by kernel_rfl⟩ ⟨by kernel_rfl, by kernel_rfl⟩ (Nat.le_of_ble_eq_true (by kernel_rfl)) (fun w_20 hg_21 hk_22 hz_23 => ?_)
    refine XL_nil ?_
    refine X_seq ?_
    refine X_region ?_
    refine XL_run 2 [(14, .load (.slice B_11 ((xs.getD i op0).attrs.length) c_12))] [(0, .slice A xs.length c), (3, .slice A3 zs3.length c3), (5, .pointer (some ⟨wl.heap.size, 0, none⟩)), (7, .slice A xs.length c), (8, .int .i64 (xs.length : Int)), (9, .int .i64 (i : Int)), (14, .slice B_11 ((xs.getD i op0).attrs.length) c_12)] w_20 [LoadsAs Tryd.prog 31 (⟨wl.heap.size, 6, none⟩) (.slice B_11 ((xs.getD i op0).attrs.length) c_12) w_20] (by kernel_rfl) ⟨loads1 rfl (Blk.cell hk_22 6 _ rfl), trivial⟩ ?_
    refine XL_call 96 rfl rfl rfl ent96 [.slice B_11 ((xs.getD i op0).attrs.length) c_12] (by kernel_rfl) (spAttrs_any _ _ ((xs.getD i op0).attrs) _ (Kd.C_below hC_14 (bg hb_16 hg_21 (Nat.le_refl _))) (by omega)) ?_
    rintro e w_26 ⟨A_24, c_25, rfl, hM_28, hb_27⟩; refine ⟨_, rfl, ?_⟩
    refine XL_run 1 [] [(0, .slice A xs.length c), (3, .slice A3 zs3.length c3), (5, .pointer (some ⟨wl.heap.size, 0, none⟩)), (7, .slice A xs.length c), (8, .int .i64 (xs.length : Int)), (9, .int .i64 (i : Int)), (15, .slice A_24 ((xs.getD i op0).attrs.length) c_25), (16, .pointer (some ⟨wl.heap.size, 6, none⟩))] w_26 [] (by kernel_rfl) trivial ?_
    refine XL_store (v := .slice A_24 ((xs.getD i op0).attrs.length) c_25) rfl rfl rfl (by kernel_rfl) (Blk.below hk_22 hb_27) 6 [.slice A_24 ((xs.getD i op0).attrs.length) c_25] #[.int .i64 ((xs.getD i op0).kind), .string ((xs.getD i op0).text), .int .i64 ((xs.getD i op0).vk), .int .i64 ((xs.getD i op0).vn), .string ((xs.getD i op0).vt), .int .i64 ((xs.getD i op0).count), .slice A_24 ((xs.getD i op0).attrs.length) c_25] ⟨by kernel_rfl, rfl, by kernel_rfl⟩ ⟨by kernel_rfl, by kernel_rfl⟩ (Nat.le_of_ble_eq_true (by kernel_rfl)) (fun w_29 hg_30 hk_31 hz_32 => ?_)
    refine XL_nil ?_
    refine X_region ?_
    refine XL_run 3 [(18, .load (.agg #[.int .i64 ((xs.getD i op0).kind), .string ((xs.getD i op0).text), .int .i64 ((xs.getD i op0).vk), .int .i64 ((xs.getD i op0).vn), .string ((xs.getD i op0).vt), .int .i64 ((xs.getD i op0).count), .slice A_24 ((xs.getD i op0).attrs.length) c_25]))] [(0, .slice A xs.length c), (7, .slice A xs.length c), (8, .int .i64 (xs.length : Int)), (9, .int .i64 (i : Int)), (17, .slice A3 zs3.length c3), (19, .slice (some ⟨w_29.heap.size, 0, none⟩) 1 1)] (w_29.alloc (.cells #[.int .i64 ((xs.getD i op0).kind), .string ((xs.getD i op0).text), .int .i64 ((xs.getD i op0).vk), .int .i64 ((xs.getD i op0).vn), .string ((xs.getD i op0).vt), .int .i64 ((xs.getD i op0).count), .slice A_24 ((xs.getD i op0).attrs.length) c_25] 33)) [LoadsAs Tryd.prog 33 (⟨wl.heap.size, 0, none⟩) (.agg #[.int .i64 ((xs.getD i op0).kind), .string ((xs.getD i op0).text), .int .i64 ((xs.getD i op0).vk), .int .i64 ((xs.getD i op0).vn), .string ((xs.getD i op0).vt), .int .i64 ((xs.getD i op0).count), .slice A_24 ((xs.getD i op0).attrs.length) c_25]) w_29] (by kernel_rfl) ⟨loadsB rfl rfl hk_31 0 ⟨by kernel_rfl, by kernel_rfl⟩, trivial⟩ ?_
    obtain ⟨w_33, hw_37, hb_34, hk_35, hz_36⟩ := new_world w_29 #[.int .i64 ((xs.getD i op0).kind), .string ((xs.getD i op0).text), .int .i64 ((xs.getD i op0).vk), .int .i64 ((xs.getD i op0).vn), .string ((xs.getD i op0).vt), .int .i64 ((xs.getD i op0).count), .slice A_24 ((xs.getD i op0).attrs.length) c_25] 33
    rw [hw_37]
    have hB_41 : Below wl.heap.size wl w_29 := (bg (bt (bg hb_16 hg_21 (Nat.le_refl _)) hb_27) hg_30 (Nat.le_refl _))
    obtain ⟨okp_38, hM_39, hok_40⟩ := Kd.M_apart (Kd.M_past hM_28 hg_30 (Nat.lt_of_lt_of_le (Blk.lt hk_17) hg_21.size)) ((bg (bt HB hb_16) hg_21 hle3)).size (Kd.R_below hr3 hB_41) (by decide)
    rw [← hw_37]
    have hB_50 : Below w.heap.size w w_29 := (bg (bt (bg (bt HB hb_16) hg_21 hle3) hb_27) hg_30 hle3)
    refine XL_append kOpS rfl rfl rfl w.heap.size 33 (.agg #[.int .i64 0, .string ByteArray.empty, .int .i64 0, .int .i64 0, .string ByteArray.empty, .int .i64 0, .slice none 0 0]) 88 Tryd.underlying22 infoSp rfl (by decide) (by omega) zs3 (⟨(xs.getD i op0).kind, (xs.getD i op0).text, (xs.getD i op0).vk, (xs.getD i op0).vn, (xs.getD i op0).vt, (xs.getD i op0).count, (xs.getD i op0).attrs⟩ : OpA) [.int .i64 ((xs.getD i op0).kind), .string ((xs.getD i op0).text), .int .i64 ((xs.getD i op0).vk), .int .i64 ((xs.getD i op0).vn), .string ((xs.getD i op0).vt), .int .i64 ((xs.getD i op0).count), .slice A_24 ((xs.getD i op0).attrs.length) c_25] okp_38 (by kernel_rfl) (kOpS_M (x := (⟨(xs.getD i op0).kind, (xs.getD i op0).text, (xs.getD i op0).vk, (xs.getD i op0).vn, (xs.getD i op0).vt, (xs.getD i op0).count, (xs.getD i op0).attrs⟩ : OpA)) hM_39) hok_40 (Kd.R_below hr3 hB_41) (hB_50).size (by first | omega | (simp; omega)) ?_
    intro A_42 c_43 w_44 hr_45 hc_46 hg_47 hl_48 ha_49
    have he_51 : (zs3 ++ [(⟨(xs.getD i op0).kind, (xs.getD i op0).text, (xs.getD i op0).vk, (xs.getD i op0).vn, (xs.getD i op0).vt, (xs.getD i op0).count, (xs.getD i op0).attrs⟩ : OpA)]) = (xs.take (i + 1)) := by rw [he3]; exact (take_snocD op0 xs i (by omega)).symm
    rw [he_51] at hr_45 ⊢
    refine XL_run 1 [] [(0, .slice A xs.length c), (3, .slice A_42 ((xs.take (i + 1)).length) c_43), (7, .slice A xs.length c), (8, .int .i64 (xs.length : Int)), (9, .int .i64 (i : Int))] w_44 [] (by kernel_rfl) trivial ?_
    refine XL_nil ?_
    refine X_region ?_
    refine XL_run 2 [(21, .eq (.int .i64 ((i : Int) + 1)))] [(0, .slice A xs.length c), (3, .slice A_42 ((xs.take (i + 1)).length) c_43), (7, .slice A xs.length c), (8, .int .i64 (xs.length : Int)), (9, .int .i64 ((i : Int) + 1))] w_44 [Value.int .i64 (IntKind.i64.wrap ((i : Int) + 1)) = Value.int .i64 ((i : Int) + 1)] (by kernel_rfl) ⟨wr_i64 (by omega) (by omega), trivial⟩ ?_
    refine XL_nil ?_
    refine ⟨(i + 1, A_42, c_43, (xs.take (i + 1))), by kernel_rfl, ?_, ?_⟩
    · exact ⟨by omega, rfl, hr_45, ((bgo hB_50 hg_47 hl_48 (Nat.le_refl _))).size, (bgo hB_50 hg_47 hl_48 (Nat.le_refl _))⟩
    · (try dsimp only); omega
  · refine XL_run 1 [(10, .eq (.bool false))] [(0, .slice A xs.length c), (3, .slice A3 zs3.length c3), (7, .slice A xs.length c), (8, .int .i64 (xs.length : Int)), (9, .int .i64 (i : Int)), (10, .bool false)] wl [Value.bool (decide ((i : Int) < (xs.length : Int))) = Value.bool false] (by kernel_rfl) ⟨congrArg Value.bool (decide_eq_false (c_7)), trivial⟩ ?_
    refine XL_nil ?_
    refine X_seq ?_
    refine X_cond false rfl ?_
    refine X_exit ?_
    refine X_seq ?_
    refine X_region ?_
    refine XL_run 3 [] [(0, .slice A xs.length c), (22, .slice A3 zs3.length c3), (24, .slice (some ⟨wl.heap.size, 0, none⟩) 1 1)] (wl.alloc (.cells #[.int .i64 77, .string ByteArray.empty, .int .i64 0, .int .i64 0, .string ByteArray.empty, .int .i64 0, .slice none 0 0] 33)) [] (by kernel_rfl) trivial ?_
    obtain ⟨w_52, hw_56, hb_53, hk_54, hz_55⟩ := new_world wl #[.int .i64 77, .string ByteArray.empty, .int .i64 0, .int .i64 0, .string ByteArray.empty, .int .i64 0, .slice none 0 0] 33
    rw [hw_56]
    rw [← hw_56]
    refine XL_append kOpS rfl rfl rfl w.heap.size 33 (.agg #[.int .i64 0, .string ByteArray.empty, .int .i64 0, .int .i64 0, .string ByteArray.empty, .int .i64 0, .slice none 0 0]) 88 Tryd.underlying22 infoSp rfl (by decide) (by omega) zs3 (⟨77, ByteArray.empty, 0, 0, ByteArray.empty, 0, []⟩ : OpA) [.int .i64 77, .string ByteArray.empty, .int .i64 0, .int .i64 0, .string ByteArray.empty, .int .i64 0, .slice none 0 0] (fun _ => False) (by kernel_rfl) (kOpS_M0 (⟨77, ByteArray.empty, 0, 0, ByteArray.empty, 0, []⟩ : OpA) rfl) (fun _ h => h.elim) hr3 hle3 (by first | omega | (simp; omega)) ?_
    intro A_57 c_58 w_59 hr_60 hc_61 hg_62 hl_63 ha_64
    have hC_65 : kOpS.C w_59 A_57 xs.length xs := by have h := RX.Kd.C_take (m := xs.length) (Kd.R_C hr_60) (by first | omega | (simp; done) | (simp; omega)); rwa [show (List.take xs.length (zs3 ++ [(⟨77, ByteArray.empty, 0, 0, ByteArray.empty, 0, []⟩ : OpA)])) = xs from by rw [show zs3 = xs from by rw [he3]; exact List.take_of_length_le (by omega)]; exact List.take_left ..] at h
    refine XL_run 4 [(28, .as (.slice A_57 xs.length c_58))] [(2, .slice A_57 xs.length c_58)] w_59 [RunsAs Tryd.prog [(25, .slice A_57 ((zs3 ++ [(⟨77, ByteArray.empty, 0, 0, ByteArray.empty, 0, []⟩ : OpA)]).length) c_58), (27, .int .i64 (xs.length : Int))] (Go.Op.slice 22 (Go.Operand.tmp 25) none (some (Go.Operand.tmp 27)) none) 22 (.slice A_57 xs.length c_58) w_59] (by kernel_rfl) ⟨runs_slice_h (h := (xs.length : Int)) rfl rfl rfl rfl (by omega) (by have h := hc_61; (try simp only [List.length_append, List.length_cons, List.length_nil] at h); omega), trivial⟩ ?_
    refine XL_nil ?_
    refine X_ret ?_
    refine RX.ret_ok (P := Tryd.prog) (fn := Tryd.f47) (N := 29) (R := R_) [.slice A_57 xs.length c_58] (by kernel_rfl) (hR_ _ _ ?_)
    have hxi : xs.take i = xs := List.take_of_length_le (by omega)
    have hR := hr_60
    have hcp := hc_61
    rw [hxi] at he3
    subst he3
    rw [List.length_append, List.length_singleton] at hR hcp
    exact ⟨_, _, rfl, hcp, Kd.R_low hR (Nat.le_refl _), (bgo HB hg_62 hl_63 (Nat.le_refl _))⟩
theorem spare_key (xs : List At) : ((xs ++ [spAt]).getD xs.length at0).1 = (⟨#[115, 112, 97, 114, 101]⟩ : ByteArray) := by
  rw [List.getD_eq_getElem?_getD, List.getElem?_append_right (Nat.le_refl _), Nat.sub_self]; rfl
theorem spare_kind (xs : List OpA) : ((xs ++ [sp77]).getD xs.length op0).kind = 77 := by
  rw [List.getD_eq_getElem?_getD, List.getElem?_append_right (Nat.le_refl _), Nat.sub_self]; rfl
set_option maxHeartbeats 2000000 in
theorem spKept_any (A : Option Addr) (c : Nat) (B : Option Addr) (d : Nat) (xs : List OpA) (w : World) (hS : kOpS.C w A (xs.length + 1) (xs ++ [sp77])) (hc : xs.length + 1 ≤ c) (hy : kOp.C w B xs.length xs) (hn : xs.length ≤ 1100000) (hz : ∀ i, i < xs.length → opSz (xs.getD i op0)) : Calls Tryd.prog 52 #[.slice A xs.length c, .slice B xs.length d] w fun e w' => e = .returned (.bool true) ∧ Below w.heap.size w w' := by
  have hpl : xs.length ≤ 9223372036854775807 := hy.2.1
  refine RX.enter Tryd.func52 rfl 51 rfl [(0, .slice A xs.length c), (1, .slice B xs.length d)] rfl (by kernel_rfl) (fun R_ hR_ => ?_)
  refine X_seq ?_
  refine X_region ?_
  refine XL_run 1 [] [(0, .slice A xs.length c), (1, .slice B xs.length d)] w [] (by kernel_rfl) trivial ?_
  refine XL_nil ?_
  refine X_seq ?_
  refine X_region ?_
  refine XL_run 2 [] [(0, .slice A xs.length c), (9, .slice A xs.length c), (10, .slice B xs.length d)] w [] (by kernel_rfl) trivial ?_
  refine XL_call 102 rfl rfl rfl ent102 [.slice A xs.length c, .slice B xs.length d] (by kernel_rfl) (sameOps_any _ _ _ _ xs xs _ (kOpS_C (kOpS_init hS)) hy) ?_
  rintro e w_1 ⟨rfl, hb_2⟩; refine ⟨_, rfl, ?_⟩
  rw [(opsEqP_iff xs xs).2 rfl]
  refine XL_run 1 [] [(0, .slice A xs.length c), (5, .bool true)] w_1 [] (by kernel_rfl) trivial ?_
  refine XL_nil ?_
  refine X_seq ?_
  refine X_seq ?_
  refine X_region ?_
  refine XL_run 7 [(18, .eq (.int .i64 ((xs.length : Int) + 1)))] [(0, .slice A xs.length c), (14, .bool false), (15, .slice A xs.length c), (18, .int .i64 ((xs.length : Int) + 1))] w_1 [Value.int .i64 (IntKind.i64.wrap ((xs.length : Int) + 1)) = Value.int .i64 ((xs.length : Int) + 1)] (by kernel_rfl) ⟨wr_i64 (by omega) (by omega), trivial⟩ ?_
  refine XL_run 3 [(19, .as (.slice A (xs.length + 1) c))] [(0, .slice A xs.length c), (14, .bool false), (19, .slice A (xs.length + 1) c), (21, .int .i64 (xs.length : Int))] w_1 [RunsAs Tryd.prog [(15, .slice A xs.length c), (18, .int .i64 ((xs.length : Int) + 1))] (Go.Op.slice 22 (Go.Operand.tmp 15) none (some (Go.Operand.tmp 18)) none) 22 (.slice A (xs.length + 1) c) w_1] (by kernel_rfl) ⟨runs_slice_h (h := (xs.length : Int) + 1) rfl rfl rfl rfl (by omega) (by omega), trivial⟩ ?_
  obtain ⟨ad_3, B_6, c_7, ha_4, hc_5, hl_8, hC_9, hS_10⟩ := Kd.atOpS (Kd.C_below hS hb_2) (i := (xs.length : Int)) (by omega) (by omega)
  replace hc_5 : CellsAt w_1 (ad_3.add ((xs.length : Int).toNat * 7)) [.int .i64 (((xs ++ [sp77]).getD xs.length op0).kind), .string (((xs ++ [sp77]).getD xs.length op0).text), .int .i64 (((xs ++ [sp77]).getD xs.length op0).vk), .int .i64 (((xs ++ [sp77]).getD xs.length op0).vn), .string (((xs ++ [sp77]).getD xs.length op0).vt), .int .i64 (((xs ++ [sp77]).getD xs.length op0).count), .slice B_6 (((xs ++ [sp77]).getD xs.length op0).attrs.length) c_7] := hc_5
  replace hl_8 : ((xs ++ [sp77]).getD xs.length op0).attrs.length ≤ c_7 := hl_8
  replace hC_9 : kAttr.C w_1 B_6 (((xs ++ [sp77]).getD xs.length op0).attrs.length) ((xs ++ [sp77]).getD xs.length op0).attrs := hC_9
  replace hS_10 : ((xs ++ [sp77]).getD xs.length op0).attrs = [] ∨ ((xs ++ [sp77]).getD xs.length op0).attrs.length + 1 ≤ c_7 ∧ kAttr.C w_1 B_6 (((xs ++ [sp77]).getD xs.length op0).attrs.length + 1) (((xs ++ [sp77]).getD xs.length op0).attrs ++ [spAt]) := hS_10
  refine XL_run 5 [(22, .idx ad_3), (24, .load (.int .i64 (((xs ++ [sp77]).getD xs.length op0).kind))), (25, .eq (.bool false))] [(0, .slice A xs.length c), (26, .bool false)] w_1 [A = some ad_3, (0 : Int) ≤ (xs.length : Int), (xs.length : Int) < ((xs.length + 1) : Int), LoadsAs Tryd.prog 3 (ad_3.add ((xs.length : Int).toNat * 7)) (.int .i64 (((xs ++ [sp77]).getD xs.length op0).kind)) w_1, Value.bool (((xs ++ [sp77]).getD xs.length op0).kind != 77) = Value.bool false] (by kernel_rfl) ⟨ha_4, (by omega), (by omega), loads1 rfl (elem_cell hc_5 0 _ rfl), congrArg Value.bool (bneF ((spare_kind xs))), trivial⟩ ?_
  refine XL_nil ?_
  refine X_cond false rfl ?_
  refine X_skip ?_
  refine X_seq ?_
  refine X_seq ?_
  refine X_region ?_
  refine XL_run 3 [] [(27, .slice A xs.length c), (28, .int .i64 (xs.length : Int)), (29, .int .i64 0)] w_1 [] (by kernel_rfl) trivial ?_
  refine XL_nil ?_
  refine X_block ?_
  refine X_loop (ι := Nat) (fun i => [(27, .slice A xs.length c), (28, .int .i64 (xs.length : Int)), (29, .int .i64 (i : Int))]) (fun i wl => i ≤ xs.length ∧ Below w.heap.size w wl) (fun i => xs.length - i) 0 ⟨by omega, hb_2⟩ (by kernel_rfl) ?_
  rintro i wl ⟨hi, HB⟩
  have hatl := fun (h_ : i < xs.length) => (hz i h_).2.2.1
  refine X_seq ?_
  refine X_region ?_
  by_cases c_11 : (i : Int) < (xs.length : Int)
  · refine XL_run 1 [(30, .eq (.bool true))] [(27, .slice A xs.length c), (28, .int .i64 (xs.length : Int)), (29, .int .i64 (i : Int)), (30, .bool true)] wl [Value.bool (decide ((i : Int) < (xs.length : Int))) = Value.bool true] (by kernel_rfl) ⟨congrArg Value.bool (decide_eq_true (c_11)), trivial⟩ ?_
    refine XL_nil ?_
    refine X_seq ?_
    refine X_cond true rfl ?_
    refine X_skip ?_
    refine X_seq ?_
    refine X_block ?_
    refine X_seq ?_
    refine X_region ?_
    obtain ⟨ad_12, B_15, c_16, ha_13, hc_14, hl_17, hC_18, hS_19⟩ := Kd.atOpS (Kd.C_below (kOpS_init hS) HB) (i := (i : Int)) (by omega) (by omega)
    replace hc_14 : CellsAt wl (ad_12.add ((i : Int).toNat * 7)) [.int .i64 ((xs.getD i op0).kind), .string ((xs.getD i op0).text), .int .i64 ((xs.getD i op0).vk), .int .i64 ((xs.getD i op0).vn), .string ((xs.getD i op0).vt), .int .i64 ((xs.getD i op0).count), .slice B_15 ((xs.getD i op0).attrs.length) c_16] := hc_14
    replace hl_17 : (xs.getD i op0).attrs.length ≤ c_16 := hl_17
    replace hC_18 : kAttr.C wl B_15 ((xs.getD i op0).attrs.length) (xs.getD i op0).attrs := hC_18
    replace hS_19 : (xs.getD i op0).attrs = [] ∨ (xs.getD i op0).attrs.length + 1 ≤ c_16 ∧ kAttr.C wl B_15 ((xs.getD i op0).attrs.length + 1) ((xs.getD i op0).attrs ++ [spAt]) := hS_19
    refine XL_run 3 [(31, .idx ad_12), (32, .load (.agg #[.int .i64 ((xs.getD i op0).kind), .string ((xs.getD i op0).text), .int .i64 ((xs.getD i op0).vk), .int .i64 ((xs.getD i op0).vn), .string ((xs.getD i op0).vt), .int .i64 ((xs.getD i op0).count), .slice B_15 ((xs.getD i op0).attrs.length) c_16]))] [(7, .pointer (some ⟨wl.heap.size, 0, none⟩)), (27, .slice A xs.length c), (28, .int .i64 (xs.length : Int)), (29, .int .i64 (i : Int)), (32, .agg #[.int .i64 ((xs.getD i op0).kind), .string ((xs.getD i op0).text), .int .i64 ((xs.getD i op0).vk), .int .i64 ((xs.getD i op0).vn), .string ((xs.getD i op0).vt), .int .i64 ((xs.getD i op0).count), .slice B_15 ((xs.getD i op0).attrs.length) c_16])] (wl.alloc (.cells #[.int .i64 0, .string ByteArray.empty, .int .i64 0, .int .i64 0, .string ByteArray.empty, .int .i64 0, .slice none 0 0] 33)) [A = some ad_12, (0 : Int) ≤ (i : Int), (i : Int) < (xs.length : Int), LoadsAs Tryd.prog 33 (ad_12.add ((i : Int).toNat * 7)) (.agg #[.int .i64 ((xs.getD i op0).kind), .string ((xs.getD i op0).text), .int .i64 ((xs.getD i op0).vk), .int .i64 ((xs.getD i op0).vn), .string ((xs.getD i op0).vt), .int .i64 ((xs.getD i op0).count), .slice B_15 ((xs.getD i op0).attrs.length) c_16]) wl] (by kernel_rfl) ⟨ha_13, (by omega), (by omega), loadsE rfl rfl hc_14 0 ⟨by kernel_rfl, by kernel_rfl⟩, trivial⟩ ?_
    obtain ⟨w_20, hw_24, hb_21, hk_22, hz_23⟩ := new_world wl #[.int .i64 0, .string ByteArray.empty, .int .i64 0, .int .i64 0, .string ByteArray.empty, .int .i64 0, .slice none 0 0] 33
    rw [hw_24]
    refine XL_store (v := .agg #[.int .i64 ((xs.getD i op0).kind), .string ((xs.getD i op0).text), .int .i64 ((xs.getD i op0).vk), .int .i64 ((xs.getD i op0).vn), .string ((xs.getD i op0).vt), .int .i64 ((xs.getD i op0).count), .slice B_15 ((xs.getD i op0).attrs.length) c_16]) rfl rfl rfl (by kernel_rfl) hk_22 0 [.int .i64 ((xs.getD i op0).kind), .string ((xs.getD i op0).text), .int .i64 ((xs.getD i op0).vk), .int .i64 ((xs.getD i op0).vn), .string ((xs.getD i op0).vt), .int .i64 ((xs.getD i op0).count), .slice B_15 ((xs.getD i op0).attrs.length) c_16] #[.int .i64 ((xs.getD i op0).kind), .string ((xs.getD i op0).text), .int .i64 ((xs.getD i op0).vk), .int .i64 ((xs.getD i op0).vn), .string ((xs.getD i op0).vt), .int .i64 ((xs.getD i op0).count), .slice B_15 ((xs.getD i op0).attrs.length) c_16] ⟨by kernel_rfl, rfl, by kernel_rfl⟩ ⟨by kernel_rfl, by kernel_rfl⟩ (Nat.le_of_ble_eq_true (by kernel_rfl)) (fun w_25 hg_26 hk_27 hz_28 => ?_)
    refine XL_nil ?_
    refine X_seq ?_
    refine X_region ?_
    refine XL_run 4 [(34, .load (.slice B_15 ((xs.getD i op0).attrs.length) c_16))] [(7, .pointer (some ⟨wl.heap.size, 0, none⟩)), (8, .int .i64 ((xs.getD i op0).attrs.length : Int)), (27, .slice A xs.length c), (28, .int .i64 (xs.length : Int)), (29, .int .i64 (i : Int))] w_25 [LoadsAs Tryd.prog 31 (⟨wl.heap.size, 6, none⟩) (.slice B_15 ((xs.getD i op0).attrs.length) c_16) w_25] (by kernel_rfl) ⟨loads1 rfl (Blk.cell hk_27 6 _ rfl), trivial⟩ ?_
    refine XL_nil ?_
    refine X_seq ?_
    refine X_region ?_
    refine XL_run 1 [] [(7, .pointer (some ⟨wl.heap.size, 0, none⟩)), (8, .int .i64 ((xs.getD i op0).attrs.length : Int)), (27, .slice A xs.length c), (28, .int .i64 (xs.length : Int)), (29, .int .i64 (i : Int)), (36, .int .i64 ((xs.getD i op0).attrs.length : Int))] w_25 [] (by kernel_rfl) trivial ?_
    by_cases c_29 : ((xs.getD i op0).attrs.length : Int) > 0
    · refine XL_run 6 [(37, .eq (.bool true)), (40, .load (.slice B_15 ((xs.getD i op0).attrs.length) c_16)), (42, .eq (.int .i64 (((xs.getD i op0).attrs.length : Int) + 1)))] [(8, .int .i64 ((xs.getD i op0).attrs.length : Int)), (27, .slice A xs.length c), (28, .int .i64 (xs.length : Int)), (29, .int .i64 (i : Int)), (38, .bool true), (40, .slice B_15 ((xs.getD i op0).attrs.length) c_16), (42, .int .i64 (((xs.getD i op0).attrs.length : Int) + 1))] w_25 [Value.bool (decide (((xs.getD i op0).attrs.length : Int) > 0)) = Value.bool true, LoadsAs Tryd.prog 31 (⟨wl.heap.size, 6, none⟩) (.slice B_15 ((xs.getD i op0).attrs.length) c_16) w_25, Value.int .i64 (IntKind.i64.wrap (((xs.getD i op0).attrs.length : Int) + 1)) = Value.int .i64 (((xs.getD i op0).attrs.length : Int) + 1)] (by kernel_rfl) ⟨congrArg Value.bool (decide_eq_true (c_29)), loads1 rfl (Blk.cell hk_27 6 _ rfl), wr_i64 (by omega) (by omega), trivial⟩ ?_
      have hS_30 : (xs.getD i op0).attrs.length + 1 ≤ c_16 ∧ kAttr.C wl B_15 ((xs.getD i op0).attrs.length + 1) ((xs.getD i op0).attrs ++ [spAt]) := by rcases hS_19 with h_ | h_; (· exfalso; have h2_ := congrArg List.length h_; simp only [List.length_nil] at h2_; omega); (· exact h_)
      refine XL_run 2 [(43, .as (.slice B_15 ((xs.getD i op0).attrs.length + 1) c_16))] [(27, .slice A xs.length c), (28, .int .i64 (xs.length : Int)), (29, .int .i64 (i : Int)), (38, .bool true), (43, .slice B_15 ((xs.getD i op0).attrs.length + 1) c_16), (44, .int .i64 ((xs.getD i op0).attrs.length : Int))] w_25 [RunsAs Tryd.prog [(40, .slice B_15 ((xs.getD i op0).attrs.length) c_16), (42, .int .i64 (((xs.getD i op0).attrs.length : Int) + 1))] (Go.Op.slice 31 (Go.Operand.tmp 40) none (some (Go.Operand.tmp 42)) none) 31 (.slice B_15 ((xs.getD i op0).attrs.length + 1) c_16) w_25] (by kernel_rfl) ⟨runs_slice_h (h := ((xs.getD i op0).attrs.length : Int) + 1) rfl rfl rfl rfl (by omega) (by have h_ := hS_30.1; omega), trivial⟩ ?_
      obtain ⟨ad_31, ha_32, hc_33⟩ := Kd.atAttr (Kd.C_below hS_30.2 (bg hb_21 hg_26 (Nat.le_refl _))) (i := ((xs.getD i op0).attrs.length : Int)) (by omega) (by omega)
      replace hc_33 : CellsAt w_25 (ad_31.add (((xs.getD i op0).attrs.length : Int).toNat * 4)) [.string ((((xs.getD i op0).attrs ++ [spAt]).getD ((xs.getD i op0).attrs.length : Int).toNat at0).1), .int .i64 ((((xs.getD i op0).attrs ++ [spAt]).getD ((xs.getD i op0).attrs.length : Int).toNat at0).2.1), .int .i64 ((((xs.getD i op0).attrs ++ [spAt]).getD ((xs.getD i op0).attrs.length : Int).toNat at0).2.2.1), .string ((((xs.getD i op0).attrs ++ [spAt]).getD ((xs.getD i op0).attrs.length : Int).toNat at0).2.2.2)] := hc_33
      refine XL_run 5 [(45, .idx ad_31), (47, .load (.string ((((xs.getD i op0).attrs ++ [spAt]).getD ((xs.getD i op0).attrs.length : Int).toNat at0).1))), (48, .eq (.bool false))] [(27, .slice A xs.length c), (28, .int .i64 (xs.length : Int)), (29, .int .i64 (i : Int)), (49, .bool false)] w_25 [B_15 = some ad_31, (0 : Int) ≤ ((xs.getD i op0).attrs.length : Int), ((xs.getD i op0).attrs.length : Int) < (((xs.getD i op0).attrs.length + 1) : Int), LoadsAs Tryd.prog 9 (ad_31.add (((xs.getD i op0).attrs.length : Int).toNat * 4)) (.string ((((xs.getD i op0).attrs ++ [spAt]).getD ((xs.getD i op0).attrs.length : Int).toNat at0).1)) w_25, Value.bool (!((((xs.getD i op0).attrs ++ [spAt]).getD ((xs.getD i op0).attrs.length : Int).toNat at0).1).toList == (⟨#[115, 112, 97, 114, 101]⟩ : ByteArray).toList) = Value.bool false] (by kernel_rfl) ⟨ha_32, (by omega), (by omega), loads1 rfl (elem_cell hc_33 0 _ rfl), congrArg Value.bool (strNeF ((spare_key _))), trivial⟩ ?_
      refine XL_nil ?_
      refine X_cond false rfl ?_
      refine X_skip ?_
      refine X_region ?_
      refine XL_run 2 [(50, .eq (.int .i64 ((i : Int) + 1)))] [(27, .slice A xs.length c), (28, .int .i64 (xs.length : Int)), (29, .int .i64 ((i : Int) + 1))] w_25 [Value.int .i64 (IntKind.i64.wrap ((i : Int) + 1)) = Value.int .i64 ((i : Int) + 1)] (by kernel_rfl) ⟨wr_i64 (by omega) (by omega), trivial⟩ ?_
      refine XL_nil ?_
      refine ⟨(i + 1), by kernel_rfl, ?_, ?_⟩
      · exact ⟨by omega, (bg (bt HB hb_21) hg_26 (HB).size)⟩
      · (try dsimp only); omega
    · refine XL_run 13 [(37, .eq (.bool false))] [(27, .slice A xs.length c), (28, .int .i64 (xs.length : Int)), (29, .int .i64 (i : Int)), (49, .bool false)] w_25 [Value.bool (decide (((xs.getD i op0).attrs.length : Int) > 0)) = Value.bool false] (by kernel_rfl) ⟨congrArg Value.bool (decide_eq_false (c_29)), trivial⟩ ?_
      refine XL_nil ?_
      refine X_cond false rfl ?_
      refine X_skip ?_
      refine X_region ?_
      refine XL_run 2 [(50, .eq (.int .i64 ((i : Int) + 1)))] [(27, .slice A xs.length c), (28, .int .i64 (xs.length : Int)), (29, .int .i64 ((i : Int) + 1))] w_25 [Value.int .i64 (IntKind.i64.wrap ((i : Int) + 1)) = Value.int .i64 ((i : Int) + 1)] (by kernel_rfl) ⟨wr_i64 (by omega) (by omega), trivial⟩ ?_
      refine XL_nil ?_
      refine ⟨(i + 1), by kernel_rfl, ?_, ?_⟩
      · exact ⟨by omega, (bg (bt HB hb_21) hg_26 (HB).size)⟩
      · (try dsimp only); omega
  · refine XL_run 1 [(30, .eq (.bool false))] [(27, .slice A xs.length c), (28, .int .i64 (xs.length : Int)), (29, .int .i64 (i : Int)), (30, .bool false)] wl [Value.bool (decide ((i : Int) < (xs.length : Int))) = Value.bool false] (by kernel_rfl) ⟨congrArg Value.bool (decide_eq_false (c_11)), trivial⟩ ?_
    refine XL_nil ?_
    refine X_seq ?_
    refine X_cond false rfl ?_
    refine X_exit ?_
    refine X_seq ?_
    refine X_region ?_
    refine XL_run 1 [] [(4, .bool true)] wl [] (by kernel_rfl) trivial ?_
    refine XL_nil ?_
    refine X_ret ?_
    refine RX.ret_ok (P := Tryd.prog) (fn := Tryd.f52) (N := 51) (R := R_) [.bool true] (by kernel_rfl) (hR_ _ _ ?_)
    exact ⟨rfl, HB⟩
set_option maxHeartbeats 2000000 in
theorem spoil_any (A : Option Addr) (c : Nat) (xs : List OpA) (w0 w1 w : World) (hR : kOpS.R 33 w1 w0.heap.size (OkFrom w0.heap.size) (.slice A (xs.length + 1) c) (xs ++ [sp77])) (hb : Below w1.heap.size w1 w) (h01 : w0.heap.size ≤ w1.heap.size) (hn : xs.length ≤ 1100000) : Calls Tryd.prog 57 #[.slice A xs.length c] w fun e w' => e = .returned (.tuple #[]) ∧ Spoilt w0.heap.size w1.heap.size w w' := by
  obtain ⟨vss, hV, hvl, hA, hN⟩ := nest_opS hR
  have hlo : w0.heap.size ≤ w.heap.size := Nat.le_trans h01 hb.size
  replace hV := Kd.R_below hV hb
  replace hN := Nest.below hb hN
  refine RX.enter Tryd.func57 rfl 32 rfl [(0, .slice A xs.length c)] rfl (by kernel_rfl) (fun R_ hR_ => ?_)
  refine X_seq ?_
  refine X_region ?_
  refine XL_run 3 [] [(0, .slice A xs.length c), (5, .int .i64 (xs.length : Int)), (6, .int .i64 0)] w [] (by kernel_rfl) trivial ?_
  refine XL_nil ?_
  refine X_block ?_
  refine X_loop (ι := Nat × List (List Value)) (fun ⟨i, vs⟩ => [(0, .slice A xs.length c), (5, .int .i64 (xs.length : Int)), (6, .int .i64 (i : Int))]) (fun ⟨i, vs⟩ wl => i ≤ xs.length ∧ vs.length = xs.length ∧ (kRaw 7).R 33 wl w0.heap.size (OkFrom w0.heap.size) (.slice A xs.length c) vs ∧ Nest 6 79 4 w0.heap.size w1.heap.size wl vs ∧ Spoilt w0.heap.size w1.heap.size w wl) (fun ⟨i, vs⟩ => xs.length - i) (0, vss) ⟨by omega, hvl, hV, hN, (Spoilt.refl _ _ _)⟩ (by kernel_rfl) ?_
  rintro ⟨i, vs⟩ wl ⟨hi, hvl1, hV1, hN1, hS1⟩
  refine X_seq ?_
  refine X_region ?_
  by_cases c_1 : (i : Int) < (xs.length : Int)
  · refine XL_run 1 [(7, .eq (.bool true))] [(0, .slice A xs.length c), (5, .int .i64 (xs.length : Int)), (6, .int .i64 (i : Int)), (7, .bool true)] wl [Value.bool (decide ((i : Int) < (xs.length : Int))) = Value.bool true] (by kernel_rfl) ⟨congrArg Value.bool (decide_eq_true (c_1)), trivial⟩ ?_
    refine XL_nil ?_
    refine X_seq ?_
    refine X_cond true rfl ?_
    refine X_skip ?_
    refine X_seq ?_
    refine X_block ?_
    refine X_seq ?_
    refine X_region ?_
    refine XL_run 2 [] [(0, .slice A xs.length c), (2, .int .i64 (i : Int)), (5, .int .i64 (xs.length : Int)), (6, .int .i64 (i : Int))] wl [] (by kernel_rfl) trivial ?_
    refine XL_nil ?_
    refine X_seq ?_
    refine X_seq ?_
    refine X_region ?_
    refine XL_run 2 [] [(0, .slice A xs.length c), (2, .int .i64 (i : Int)), (5, .int .i64 (xs.length : Int)), (6, .int .i64 (i : Int)), (9, .slice A xs.length c), (10, .int .i64 (i : Int))] wl [] (by kernel_rfl) trivial ?_
    obtain ⟨ad_2, cc_5, ha_3, hK_6, hc_4⟩ := Kd.atC (Kd.R_C hV1) [] (i := (i : Int)) (by omega) (by omega)
    obtain ⟨pre_10, B_11, m_12, c_13, hv_7, hp_8, hq_9, hL_14⟩ := hN1 i (by omega)
    obtain ⟨a_15, a_16, a_17, a_18, a_19, a_20, rfl⟩ := six hp_8
    have hL_14m : m_12 ≤ 9223372036854775807 := hL_14.1
    replace hc_4 : CellsAt wl (ad_2.add ((i : Int).toNat * 7)) [a_15, a_16, a_17, a_18, a_19, a_20, .slice B_11 m_12 c_13] := by have h_ := hc_4; rw [hK_6.1] at h_; rw [show vs.getD (Int.toNat (i : Int)) [] = _ from hv_7] at h_; exact h_
    refine XL_run 5 [(11, .idx ad_2), (13, .load (.slice B_11 m_12 c_13))] [(0, .slice A xs.length c), (2, .int .i64 (i : Int)), (5, .int .i64 (xs.length : Int)), (6, .int .i64 (i : Int)), (14, .int .i64 (m_12 : Int)), (15, .int .i64 0)] wl [A = some ad_2, (0 : Int) ≤ (i : Int), (i : Int) < (xs.length : Int), LoadsAs Tryd.prog 31 ((ad_2.add ((i : Int).toNat * 7)).add 6) (.slice B_11 m_12 c_13) wl] (by kernel_rfl) ⟨ha_3, (by omega), (by omega), loads1 rfl (elem_cell hc_4 6 _ rfl), trivial⟩ ?_
    refine XL_nil ?_
    refine X_block ?_
    refine X_loop (ι := Nat) (fun k => [(0, .slice A xs.length c), (2, .int .i64 (i : Int)), (5, .int .i64 (xs.length : Int)), (6, .int .i64 (i : Int)), (14, .int .i64 (m_12 : Int)), (15, .int .i64 (k : Int))]) (fun k wm => k ≤ m_12 ∧ (kRaw 7).R 33 wm w0.heap.size (OkFrom w0.heap.size) (.slice A xs.length c) vs ∧ Nest 6 79 4 w0.heap.size w1.heap.size wm vs ∧ Spoilt w0.heap.size w1.heap.size w wm) (fun k => m_12 - k) 0 ⟨by omega, hV1, hN1, hS1⟩ (by kernel_rfl) ?_
    rintro k wm ⟨hk, hV2, hN2, hS2⟩
    refine X_seq ?_
    refine X_region ?_
    by_cases c_21 : (k : Int) < (m_12 : Int)
    · refine XL_run 1 [(16, .eq (.bool true))] [(0, .slice A xs.length c), (2, .int .i64 (i : Int)), (5, .int .i64 (xs.length : Int)), (6, .int .i64 (i : Int)), (14, .int .i64 (m_12 : Int)), (15, .int .i64 (k : Int)), (16, .bool true)] wm [Value.bool (decide ((k : Int) < (m_12 : Int))) = Value.bool true] (by kernel_rfl) ⟨congrArg Value.bool (decide_eq_true (c_21)), trivial⟩ ?_
      refine XL_nil ?_
      refine X_seq ?_
      refine X_cond true rfl ?_
      refine X_skip ?_
      refine X_seq ?_
      refine X_block ?_
      refine X_seq ?_
      refine X_region ?_
      refine XL_run 2 [] [(0, .slice A xs.length c), (2, .int .i64 (i : Int)), (3, .int .i64 (k : Int)), (5, .int .i64 (xs.length : Int)), (6, .int .i64 (i : Int)), (14, .int .i64 (m_12 : Int)), (15, .int .i64 (k : Int))] wm [] (by kernel_rfl) trivial ?_
      refine XL_nil ?_
      refine X_region ?_
      refine XL_run 2 [] [(0, .slice A xs.length c), (2, .int .i64 (i : Int)), (3, .int .i64 (k : Int)), (5, .int .i64 (xs.length : Int)), (6, .int .i64 (i : Int)), (14, .int .i64 (m_12 : Int)), (15, .int .i64 (k : Int)), (18, .slice A xs.length c), (19, .int .i64 (i : Int))] wm [] (by kernel_rfl) trivial ?_
      obtain ⟨ad_22, cc_25, ha_23, hK_26, hc_24⟩ := Kd.atC (Kd.R_C hV2) [] (i := (i : Int)) (by omega) (by omega)
      replace hc_24 : CellsAt wm (ad_22.add ((i : Int).toNat * 7)) [a_15, a_16, a_17, a_18, a_19, a_20, .slice B_11 m_12 c_13] := by have h_ := hc_24; rw [hK_26.1] at h_; rw [show vs.getD (Int.toNat (i : Int)) [] = _ from hv_7] at h_; exact h_
      refine XL_run 5 [(20, .idx ad_22), (22, .load (.slice B_11 m_12 c_13))] [(0, .slice A xs.length c), (2, .int .i64 (i : Int)), (5, .int .i64 (xs.length : Int)), (6, .int .i64 (i : Int)), (14, .int .i64 (m_12 : Int)), (15, .int .i64 (k : Int)), (22, .slice B_11 m_12 c_13), (23, .int .i64 (k : Int)), (24, .agg #[.string (⟨#[115, 112, 111, 105, 108, 116]⟩ : ByteArray), .int .i64 0, .int .i64 0, .string ByteArray.empty])] wm [A = some ad_22, (0 : Int) ≤ (i : Int), (i : Int) < (xs.length : Int), LoadsAs Tryd.prog 31 ((ad_22.add ((i : Int).toNat * 7)).add 6) (.slice B_11 m_12 c_13) wm] (by kernel_rfl) ⟨ha_23, (by omega), (by omega), loads1 rfl (elem_cell hc_24 6 _ rfl), trivial⟩ ?_
      obtain ⟨g_31, cs_32, ha_28, lo_33, hi_34, hk_35, hs_36⟩ := Lies.at (Nest.lies hN2 (by omega) hv_7) (by omega)
      obtain ⟨ad_27, had_37⟩ : ∃ ad_, ad_ = (⟨g_31, 0, none⟩ : Addr) := ⟨_, rfl⟩
      rw [← had_37] at ha_28
      have hc_29 : True := trivial
      refine XL_run 1 [(25, .idx ad_27)] [(0, .slice A xs.length c), (2, .int .i64 (i : Int)), (5, .int .i64 (xs.length : Int)), (6, .int .i64 (i : Int)), (14, .int .i64 (m_12 : Int)), (15, .int .i64 (k : Int)), (24, .agg #[.string (⟨#[115, 112, 111, 105, 108, 116]⟩ : ByteArray), .int .i64 0, .int .i64 0, .string ByteArray.empty]), (25, .pointer (some (ad_27.add ((k : Int).toNat * 4))))] wm [B_11 = some ad_27, (0 : Int) ≤ (k : Int), (k : Int) < (m_12 : Int)] (by kernel_rfl) ⟨ha_28, (by omega), (by omega), trivial⟩ ?_
      refine XL_spoil (v := .agg #[.string (⟨#[115, 112, 111, 105, 108, 116]⟩ : ByteArray), .int .i64 0, .int .i64 0, .string ByteArray.empty]) rfl rfl rfl (n := (k : Int).toNat * 4) had_37 (by kernel_rfl) hk_35 [.string (⟨#[115, 112, 111, 105, 108, 116]⟩ : ByteArray), .int .i64 0, .int .i64 0, .string ByteArray.empty] ⟨by kernel_rfl, by kernel_rfl⟩ (by kernel_rfl) (by simp only [List.length_cons, List.length_nil]; omega) (fun w_38 cs_39 hg_40 hk_41 hs_42 => ?_)
      have hr_43 := Kd.R_off hV2 hk_35 (by decide) hg_40
      have hN_44 := Nest.wrote hN2 hg_40 hk_35 hk_41 hs_42
      have hS_45 := Spoilt.wrote hS2 hg_40 lo_33 hi_34 hlo
      refine XL_nil ?_
      refine X_region ?_
      refine XL_run 2 [(26, .eq (.int .i64 ((k : Int) + 1)))] [(0, .slice A xs.length c), (2, .int .i64 (i : Int)), (5, .int .i64 (xs.length : Int)), (6, .int .i64 (i : Int)), (14, .int .i64 (m_12 : Int)), (15, .int .i64 ((k : Int) + 1))] w_38 [Value.int .i64 (IntKind.i64.wrap ((k : Int) + 1)) = Value.int .i64 ((k : Int) + 1)] (by kernel_rfl) ⟨wr_i64 (by omega) (by omega), trivial⟩ ?_
      refine XL_nil ?_
      refine ⟨(k + 1), by kernel_rfl, ?_, ?_⟩
      · exact ⟨by omega, hr_43, hN_44, hS_45⟩
      · (try dsimp only); omega
    · refine XL_run 1 [(16, .eq (.bool false))] [(0, .slice A xs.length c), (2, .int .i64 (i : Int)), (5, .int .i64 (xs.length : Int)), (6, .int .i64 (i : Int)), (14, .int .i64 (m_12 : Int)), (15, .int .i64 (k : Int)), (16, .bool false)] wm [Value.bool (decide ((k : Int) < (m_12 : Int))) = Value.bool false] (by kernel_rfl) ⟨congrArg Value.bool (decide_eq_false (c_21)), trivial⟩ ?_
      refine XL_nil ?_
      refine X_seq ?_
      refine X_cond false rfl ?_
      refine X_exit ?_
      refine X_region ?_
      refine XL_run 3 [] [(0, .slice A xs.length c), (5, .int .i64 (xs.length : Int)), (6, .int .i64 (i : Int)), (27, .slice A xs.length c), (28, .int .i64 (i : Int)), (29, .agg #[.int .i64 99, .string ByteArray.empty, .int .i64 0, .int .i64 0, .string ByteArray.empty, .int .i64 0, .slice none 0 0])] wm [] (by kernel_rfl) trivial ?_
      obtain ⟨ad_46, cc_49, ha_47, hK_50, hc_48⟩ := Kd.atC (Kd.R_C hV2) [] (i := (i : Int)) (by omega) (by omega)
      replace hc_48 : CellsAt wm (ad_46.add ((i : Int).toNat * 7)) [a_15, a_16, a_17, a_18, a_19, a_20, .slice B_11 m_12 c_13] := by have h_ := hc_48; rw [hK_50.1] at h_; rw [show vs.getD (Int.toNat (i : Int)) [] = _ from hv_7] at h_; exact h_
      refine XL_run 1 [(30, .idx ad_46)] [(0, .slice A xs.length c), (5, .int .i64 (xs.length : Int)), (6, .int .i64 (i : Int)), (29, .agg #[.int .i64 99, .string ByteArray.empty, .int .i64 0, .int .i64 0, .string ByteArray.empty, .int .i64 0, .slice none 0 0]), (30, .pointer (some (ad_46.add ((i : Int).toNat * 7))))] wm [A = some ad_46, (0 : Int) ≤ (i : Int), (i : Int) < (xs.length : Int)] (by kernel_rfl) ⟨ha_47, (by omega), (by omega), trivial⟩ ?_
      refine XL_rowset (kRaw 7) rfl rfl rfl w0.heap.size 33 (ad := ad_46) (i := (i : Int)) (v := .agg #[.int .i64 99, .string ByteArray.empty, .int .i64 0, .int .i64 0, .string ByteArray.empty, .int .i64 0, .slice none 0 0]) vs ([.int .i64 99, .string ByteArray.empty, .int .i64 0, .int .i64 0, .string ByteArray.empty, .int .i64 0, .slice none 0 0]) (by kernel_rfl) ha_47 hV2 (by omega) (by omega) [.int .i64 99, .string ByteArray.empty, .int .i64 0, .int .i64 0, .string ByteArray.empty, .int .i64 0, .slice none 0 0] ⟨by kernel_rfl, by kernel_rfl⟩ (by kernel_rfl) (raw_M [.int .i64 99, .string ByteArray.empty, .int .i64 0, .int .i64 0, .string ByteArray.empty, .int .i64 0, .slice none 0 0] rfl (by kernel_rfl)) ?_
      intro w_51 hr_52 hg_53 hl_54
      have hN_55 := Nest.set (pre := [.int .i64 99, .string ByteArray.empty, .int .i64 0, .int .i64 0, .string ByteArray.empty, .int .i64 0]) (i := i) (B := none) (m := 0) (c := 0) (Nest.apart hN2 hV2 (by decide) hg_53) rfl (by decide) ⟨by decide, .inl ⟨rfl, rfl⟩⟩
      have hS_56 : Spoilt w0.heap.size w1.heap.size w w_51 := by obtain ⟨g_, hg_⟩ : ∃ g_, A.map (·.block) = some g_ := ⟨_, by rw [ha_47]; rfl⟩; have h_ := hA g_ hg_; have h2_ := hg_53; rw [hg_] at h2_; exact Spoilt.wrote hS2 h2_ h_.1 h_.2 hlo
      refine XL_nil ?_
      refine X_region ?_
      refine XL_run 2 [(31, .eq (.int .i64 ((i : Int) + 1)))] [(0, .slice A xs.length c), (5, .int .i64 (xs.length : Int)), (6, .int .i64 ((i : Int) + 1))] w_51 [Value.int .i64 (IntKind.i64.wrap ((i : Int) + 1)) = Value.int .i64 ((i : Int) + 1)] (by kernel_rfl) ⟨wr_i64 (by omega) (by omega), trivial⟩ ?_
      refine XL_nil ?_
      refine ⟨(i + 1, (vs.set (i : Int).toNat ([.int .i64 99, .string ByteArray.empty, .int .i64 0, .int .i64 0, .string ByteArray.empty, .int .i64 0, .slice none 0 0]))), by kernel_rfl, ?_, ?_⟩
      · exact ⟨by omega, by (try simp only [List.length_set]); omega, hr_52, hN_55, hS_56⟩
      · (try dsimp only); omega
  · refine XL_run 1 [(7, .eq (.bool false))] [(0, .slice A xs.length c), (5, .int .i64 (xs.length : Int)), (6, .int .i64 (i : Int)), (7, .bool false)] wl [Value.bool (decide ((i : Int) < (xs.length : Int))) = Value.bool false] (by kernel_rfl) ⟨congrArg Value.bool (decide_eq_false (c_1)), trivial⟩ ?_
    refine XL_nil ?_
    refine X_seq ?_
    refine X_cond false rfl ?_
    refine X_exit ?_
    refine RX.end_ok (P := Tryd.prog) (fn := Tryd.f57) (N := 32) (R := R_) [] (by kernel_rfl) (hR_ _ _ ?_)
    exact ⟨rfl, hS1⟩
end Go.Proofs.YtekfdfafhfhfbaaDoor
