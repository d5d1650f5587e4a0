/- vellumref06.Canonical: B.can. Conditions: sizes, good operations. -/
import Derived.Test.YtkehomiogkoomaaDoorT15
import Derived.Test.YtkehomiogkoomaaDoorCanP
set_option linter.unusedVariables false
set_option linter.unusedSimpArgs false
set_option maxRecDepth 100000
namespace Go.Proofs.YtkehomiogkoomaaDoor
open Go Go.RowKit Go.Proofs.YtkehomiogkoomaaDoorW.PrintWords RX
theorem ent54 : Ent Tryd.prog 54 := ent_of Tryd.func54 (by kernel_rfl) rfl
namespace B
/-- the loop's state, or its end -/
def CLoop (xs out gap : List OpA) (g : Int) (i : Nat) : Prop := CS xs out gap g i ∨ (i = xs.length + 1 ∧ fin out = can xs ∧ badE out = 0 ∧ out.length ≤ 4000000)
theorem cs_bd {xs out gap : List OpA} {g : Int} {i : Nat} (h : CS xs out gap g i) (hb : badE xs = 0) (hL : sB xs ≤ L) (ht : txS xs ≤ 50000000) (hn : xs.length ≤ 1048576) : 0 ≤ g ∧ g ≤ 1099511627776 ∧ txS out + txS gap ≤ 50000000 ∧ out.length + gap.length ≤ 3145728 := by
 have h1 := sB_ok h.ok.g
 have h2 := (take_ok hb hL h.i1).2
 have h3 := h.sb
 have h4 := txS_take xs i
 have h5 := h.tx
 have h6 := h.ln
 have h7 := h.i1
 have h8 := h.g0
 have h9 : L = 1099511627776 := rfl
 have h1 : 0 ≤ sB out := by first | exact h1 | exact h1.1
 exact ⟨h8, by omega, by omega, by omega⟩
theorem fs_pre {xs out gap P : List OpA} {g : Int} {i j : Nat} (h : CS xs out gap g i) (hf : FS out gap P j) (hj : j < gap.length) (hT : txS out + txS gap ≤ 50000000) : badE P = 0 ∧ pErr (gap.getD j op0) = 0 ∧ txS P + (gap.getD j op0).text.size ≤ 50000000 := by
 have h1 := hf.tx
 have h2 : txS (gap.take (j + 1)) = txS (gap.take j) + (gap.getD j op0).text.size := by rw [take_snocD op0 gap j hj, txS_snoc]
 have h3 := txS_take gap (j + 1)
 exact ⟨hf.ok.g, (h.gi _ (getD_mem op0 hj)).1, by omega⟩
theorem fs_end {xs out gap P : List OpA} {g : Int} {i : Nat} (h : CS xs out gap g i) (hf : FS out gap P gap.length) : P = gap.foldl push out ∧ badE P = 0 ∧ txS P ≤ txS out + txS gap ∧ P.length ≤ out.length + gap.length ∧ (∀ o ∈ P, fine o) := by
 have h1 := hf.tx
 rw [List.take_length] at h1
 exact ⟨fs_all hf rfl, hf.ok.g, h1, hf.ln, hf.ok.f⟩
end B
theorem RX.MixK.cut {α : Type} {d : Kd α} {z : α} {e B : Nat} {W0 w : World} {A : Option Addr} {n c m : Nat} {xs : List α} (h : RX.MixK d z e B W0 w A n c xs) (hm : m ≤ n) : RX.MixK d z e B W0 w A m c (xs.take m) := by
 obtain ⟨hl1, _⟩ := h.len
 obtain ⟨vs, hR, hl, hK⟩ := h
 refine ⟨vs.take m, RX.Kd.R_take hR hm, by rw [List.length_take, List.length_take, hl], fun i hi => ?_⟩
 rw [List.length_take] at hi
 rw [List.getD_eq_getElem?_getD, List.getElem?_take, if_pos (by omega), List.getD_eq_getElem?_getD, List.getElem?_take, if_pos (by omega), ← List.getD_eq_getElem?_getD, ← List.getD_eq_getElem?_getD]
 exact hK i (by omega)
set_option maxHeartbeats 8000000 in
theorem r6canonical_any (A : Option Addr) (c : Nat) (xs : List OpA) (W0 w : World) (hW : Below W0.heap.size W0 w) (hx : kOp.C W0 A xs.length xs) (hb : badE xs = 0) (hsB : sB xs ≤ B.L) (hn : xs.length ≤ 1048576) (hz : ∀ i, i < xs.length → opSz (xs.getD i op0)) (ht : B.txS xs ≤ 50000000) :
  Calls Tryd.prog 54 #[.slice A xs.length c] w fun e w' => ∃ A1 c1, e = .returned (.slice A1 (B.can xs).length c1) ∧ MixK kOp op0 47 w.heap.size W0 w' A1 (B.can xs).length c1 (B.can xs) ∧ Below w.heap.size w w' := by
 have hfx := fun o_ (h_ : o_ ∈ xs) => (by obtain ⟨i_, hi_, e_⟩ := List.mem_iff_getElem.1 h_; have h2_ := hz i_ hi_; rw [List.getD_eq_getElem?_getD, List.getElem?_eq_getElem hi_] at h2_; rw [← e_]; exact B.fine_of h2_ : B.fine o_)
 have hpl : xs.length ≤ 9223372036854775807 := hx.2.1
 refine RX.enter Tryd.func54 rfl 98 rfl [(0, .slice A xs.length c)] rfl (by kernel_rfl) (fun R_ hR_ => ?_)
 refine sq (rg (xe0 1 [(0, .slice A xs.length c)] ?_))
 refine nl (sq (rg (xw 1 [] [(9, .slice (some ⟨w.heap.size, 0, none⟩) 0 0)] [] (w.alloc (.cells #[] 47)) [] trivial ?_)))
 obtain ⟨w_1, hw_5, hb_2, hk_3, hz_4⟩ := new_world w #[] 47
 rw [hw_5]
 refine xr0 1 [(3, .slice (some ⟨w.heap.size, 0, none⟩) 0 0)] [9] ?_
 refine nl (sq (rg (xw 1 [] [(10, .slice (some ⟨w_1.heap.size, 0, none⟩) 0 0)] [] (w_1.alloc (.cells #[] 47)) [] trivial ?_)))
 obtain ⟨w_6, hw_10, hb_7, hk_8, hz_9⟩ := new_world w_1 #[] 47
 rw [hw_10]
 refine xr0 1 [(4, .slice (some ⟨w_1.heap.size, 0, none⟩) 0 0)] [10] ?_
 refine nl (sq (rg (xr0 1 [(5, .int .i64 0)] [] ?_)))
 refine nl (sq (sq (rg (xe0 1 [(0, .slice A xs.length c), (3, .slice (some ⟨w.heap.size, 0, none⟩) 0 0), (4, .slice (some ⟨w_1.heap.size, 0, none⟩) 0 0), (5, .int .i64 0), (6, .int .i64 0)] ?_))))
 refine nl (X_block ?_)
 have hap0 : Apt (some ⟨w.heap.size, 0, none⟩) (some ⟨w_1.heap.size, 0, none⟩) := fun x_ h1_ h2_ => by
  have h3_ : w.heap.size = x_ := by injection h1_
  have h4_ : w_1.heap.size = x_ := by injection h2_
  have h5_ := Blk.lt hk_3
  have h6_ : w_1.heap.size ≤ w_1.heap.size := (Nat.le_refl _)
  omega
 have hr_11 := Kd.R_litB kOp (W := w) (e := 47) (cs := #[]) [] hk_3 (repsOp0 [] (fun _ h => by cases h)) (Nat.le_of_ble_eq_true (by kernel_rfl))
 have hr_12 := Kd.R_litB kOp (W := w_1) (e := 47) (cs := #[]) [] hk_8 (repsOp0 [] (fun _ h => by cases h)) (Nat.le_of_ble_eq_true (by kernel_rfl))
 refine X_loop (ι := Nat × List OpA × Option Addr × Nat × List OpA × Option Addr × Nat × Int) (fun ⟨i, out, A3, c3, gap, A4, c4, g⟩ => [(0, .slice A xs.length c), (3, .slice A3 out.length c3), (4, .slice A4 gap.length c4), (5, .int .i64 g), (6, .int .i64 (i : Int))]) (fun ⟨i, out, A3, c3, gap, A4, c4, g⟩ wl => i ≤ xs.length + 1 ∧ B.CLoop xs out gap g i ∧ MixK kOp op0 47 w.heap.size W0 wl A3 out.length c3 out ∧ MixK kOp op0 47 w.heap.size W0 wl A4 gap.length c4 gap ∧ Apt A3 A4 ∧ Below w.heap.size w wl) (fun ⟨i, out, A3, c3, gap, A4, c4, g⟩ => xs.length + 1 - i) (0, [], (some ⟨w.heap.size, 0, none⟩), 0, [], (some ⟨w_1.heap.size, 0, none⟩), 0, 0) ⟨Nat.zero_le _, .inl (B.cs_nil xs), (MixK.nil (z := op0) (B := w.heap.size) (W0 := W0) (Kd.R_below hr_11 hb_7) (Nat.le_refl _)), (MixK.nil (z := op0) (B := w.heap.size) (W0 := W0) hr_12 (hb_2).size), hap0, (bt hb_2 hb_7)⟩ (by kernel_rfl) ?_
 rintro ⟨i, out, A3, c3, gap, A4, c4, g⟩ wl ⟨hi, hcl, hm3, hm4, hap, HB⟩
 have hC_13 : kOp.C wl A3 out.length out := MixK.C hm3 (bt hW HB)
 have hC_14 : kOp.C wl A4 gap.length gap := MixK.C hm4 (bt hW HB)
 refine sq (sq (rg (xr0 3 [(11, nv i), (13, .int .i64 (xs.length : Int))] [] ?_)))
 by_cases c_15 : (i : Int) ≤ (xs.length : Int)
 ·have hcs := hcl.resolve_right (fun h_ => by have h2_ := h_.1; omega)
  have hbd := B.cs_bd hcs hb hsB ht hn
  refine xr 1 [(14, .eq (.bool true))] [(14, .bool true)] [11, 13] [Value.bool (decide ((i : Int) ≤ (xs.length : Int))) = Value.bool true] ⟨congrArg Value.bool (decide_eq_true (c_15)), trivial⟩ ?_
  refine nl (ct (sk (sq (bk (sq (sq (rg (xr0 3 [(17, nv i), (19, .int .i64 (xs.length : Int))] [14] ?_))))))))
  by_cases c_16 : (i : Int) < (xs.length : Int)
  ·refine xr 4 [(20, .eq (.bool true))] [(21, .bool true), (22, .slice A xs.length c), (23, nv i)] [17, 19] [Value.bool (decide ((i : Int) < (xs.length : Int))) = Value.bool true] ⟨congrArg Value.bool (decide_eq_true (c_16)), trivial⟩ ?_
   obtain ⟨ad_17, B_20, c_21, ha_18, hc_19, hl_22, hC_23⟩ := C_opK hx (bt hW HB) (i := (i : Int)) (by omega) (by omega)
   replace hc_19 : CellsAt wl (ad_17.add ((i : Int).toNat * 7)) [.int .i64 ((xs.getD i op0).kind), .string ((xs.getD i op0).text), .int .i64 ((xs.getD i op0).vk), .int .i64 ((xs.getD i op0).vn), .string ((xs.getD i op0).vt), .int .i64 ((xs.getD i op0).count), .slice B_20 ((xs.getD i op0).attrs.length) c_21] := hc_19
   replace hl_22 : (xs.getD i op0).attrs.length ≤ c_21 := hl_22
   replace hC_23 : kAttr.C W0 B_20 ((xs.getD i op0).attrs.length) (xs.getD i op0).attrs := hC_23
   refine xr 2 [(24, .idx ad_17), (25, .load (.agg #[.int .i64 ((xs.getD i op0).kind), .string ((xs.getD i op0).text), .int .i64 ((xs.getD i op0).vk), .int .i64 ((xs.getD i op0).vn), .string ((xs.getD i op0).vt), .int .i64 ((xs.getD i op0).count), .slice B_20 ((xs.getD i op0).attrs.length) c_21]))] [(25, .agg #[.int .i64 ((xs.getD i op0).kind), .string ((xs.getD i op0).text), .int .i64 ((xs.getD i op0).vk), .int .i64 ((xs.getD i op0).vn), .string ((xs.getD i op0).vt), .int .i64 ((xs.getD i op0).count), .slice B_20 ((xs.getD i op0).attrs.length) c_21])] [22, 23] [A = some ad_17, (0 : Int) ≤ (i : Int), (i : Int) < (xs.length : Int), LoadsAs Tryd.prog 47 (ad_17.add ((i : Int).toNat * 7)) (.agg #[.int .i64 ((xs.getD i op0).kind), .string ((xs.getD i op0).text), .int .i64 ((xs.getD i op0).vk), .int .i64 ((xs.getD i op0).vn), .string ((xs.getD i op0).vt), .int .i64 ((xs.getD i op0).count), .slice B_20 ((xs.getD i op0).attrs.length) c_21]) wl] ⟨ha_18, (by omega), (by omega), loadsE rfl rfl hc_19 0 ⟨by kernel_rfl, by kernel_rfl⟩, trivial⟩ ?_
   refine xc 28 ent28 [.agg #[.int .i64 ((xs.getD i op0).kind), .string ((xs.getD i op0).text), .int .i64 ((xs.getD i op0).vk), .int .i64 ((xs.getD i op0).vn), .string ((xs.getD i op0).vt), .int .i64 ((xs.getD i op0).count), .slice B_20 ((xs.getD i op0).attrs.length) c_21]] (r6ins_any (xs.getD i op0) _ _ _ (Kd.C_below hC_23 (bt hW HB))) ?_
   rintro e w_24 ⟨rfl, hb_25⟩; refine ⟨_, rfl, ?_⟩
   refine xe0 1 [(0, .slice A xs.length c), (3, .slice A3 out.length c3), (4, .slice A4 gap.length c4), (5, .int .i64 g), (6, nv i), (27, .bool (decide (insO (xs.getD i op0))))] ?_
   refine nl ?_
   by_cases c_26 : decide (insO (xs.getD i op0)) = true
   ·rw [show (decide (insO (xs.getD i op0)) : Bool) = true from by simpa using c_26]
    refine ct (sq (rg (xr0 3 [(28, .slice A4 gap.length c4), (29, .slice A xs.length c), (30, nv i)] [4, 27] ?_)))
    obtain ⟨ad_27, B_30, c_31, ha_28, hc_29, hl_32, hC_33⟩ := C_opK hx (bt (bt hW HB) hb_25) (i := (i : Int)) (by omega) (by omega)
    replace hc_29 : CellsAt w_24 (ad_27.add ((i : Int).toNat * 7)) [.int .i64 ((xs.getD i op0).kind), .string ((xs.getD i op0).text), .int .i64 ((xs.getD i op0).vk), .int .i64 ((xs.getD i op0).vn), .string ((xs.getD i op0).vt), .int .i64 ((xs.getD i op0).count), .slice B_30 ((xs.getD i op0).attrs.length) c_31] := hc_29
    replace hl_32 : (xs.getD i op0).attrs.length ≤ c_31 := hl_32
    replace hC_33 : kAttr.C W0 B_30 ((xs.getD i op0).attrs.length) (xs.getD i op0).attrs := hC_33
    refine xw 3 [(31, .idx ad_27), (32, .load (.agg #[.int .i64 ((xs.getD i op0).kind), .string ((xs.getD i op0).text), .int .i64 ((xs.getD i op0).vk), .int .i64 ((xs.getD i op0).vn), .string ((xs.getD i op0).vt), .int .i64 ((xs.getD i op0).count), .slice B_30 ((xs.getD i op0).attrs.length) c_31]))] [(33, .slice (some ⟨w_24.heap.size, 0, none⟩) 1 1)] [29, 30] (w_24.alloc (.cells #[.int .i64 ((xs.getD i op0).kind), .string ((xs.getD i op0).text), .int .i64 ((xs.getD i op0).vk), .int .i64 ((xs.getD i op0).vn), .string ((xs.getD i op0).vt), .int .i64 ((xs.getD i op0).count), .slice B_30 ((xs.getD i op0).attrs.length) c_31] 47)) [A = some ad_27, (0 : Int) ≤ (i : Int), (i : Int) < (xs.length : Int), LoadsAs Tryd.prog 47 (ad_27.add ((i : Int).toNat * 7)) (.agg #[.int .i64 ((xs.getD i op0).kind), .string ((xs.getD i op0).text), .int .i64 ((xs.getD i op0).vk), .int .i64 ((xs.getD i op0).vn), .string ((xs.getD i op0).vt), .int .i64 ((xs.getD i op0).count), .slice B_30 ((xs.getD i op0).attrs.length) c_31]) w_24] ⟨ha_28, (by omega), (by omega), loadsE rfl rfl hc_29 0 ⟨by kernel_rfl, by kernel_rfl⟩, trivial⟩ ?_
    obtain ⟨w_34, hw_38, hb_35, hk_36, hz_37⟩ := new_world w_24 #[.int .i64 ((xs.getD i op0).kind), .string ((xs.getD i op0).text), .int .i64 ((xs.getD i op0).vk), .int .i64 ((xs.getD i op0).vn), .string ((xs.getD i op0).vt), .int .i64 ((xs.getD i op0).count), .slice B_30 ((xs.getD i op0).attrs.length) c_31] 47
    rw [hw_38]
    have hR_39 := Kd.R_litB (kRaw 7) (W := w_24) (e := 47) (cs := #[.int .i64 ((xs.getD i op0).kind), .string ((xs.getD i op0).text), .int .i64 ((xs.getD i op0).vk), .int .i64 ((xs.getD i op0).vn), .string ((xs.getD i op0).vt), .int .i64 ((xs.getD i op0).count), .slice B_30 ((xs.getD i op0).attrs.length) c_31]) [[.int .i64 ((xs.getD i op0).kind), .string ((xs.getD i op0).text), .int .i64 ((xs.getD i op0).vk), .int .i64 ((xs.getD i op0).vn), .string ((xs.getD i op0).vt), .int .i64 ((xs.getD i op0).count), .slice B_30 ((xs.getD i op0).attrs.length) c_31]] hk_36 (rawL1 _ rfl (by kernel_rfl)) (Nat.le_of_ble_eq_true (by kernel_rfl))
    refine XL_appendMixH (d := kOp) (W0 := W0) (B := w.heap.size) (c' := 1) (m := 1) op0 rfl rfl rfl 47 (.agg #[.int .i64 0, .string ByteArray.empty, .int .i64 0, .int .i64 0, .string ByteArray.empty, .int .i64 0, .slice none 0 0]) 88 Tryd.underlying37 info47 rfl (by decide) (by omega) gap [(xs.getD i op0)] [[.int .i64 ((xs.getD i op0).kind), .string ((xs.getD i op0).text), .int .i64 ((xs.getD i op0).vk), .int .i64 ((xs.getD i op0).vn), .string ((xs.getD i op0).vt), .int .i64 ((xs.getD i op0).count), .slice B_30 ((xs.getD i op0).attrs.length) c_31]] (by kernel_rfl) (MixK.below hm4 (bt hb_25 hb_35)) (Kd.R_C hR_39) rfl (fun i_ hi_ => by have h_ : i_ = 0 := (by omega); subst h_; exact (kOp_K_of (x := (xs.getD i op0)) hl_32 hC_33)) ((bt (bt HB hb_25) hb_35)).size (by omega) ?_
    intro A_40 c_41 w_42 hm_43 hg_44 hl_45 hat_46
    have hm_47 := MixK.off (MixK.below hm3 (bt hb_25 hb_35)) hg_44 (Apt.symm hap)
    have ap_48 := Apt.symm (Apt.grow (Apt.symm hap) hat_46 (MixK.lt (MixK.below hm3 (bt hb_25 hb_35))))
    have hB_50 : Below W0.heap.size W0 w_42 := (bgo (bt (bt (bt hW HB) hb_25) hb_35) hg_44 hl_45 (hW).size)
    have hC_49 : kOp.C w_42 A3 out.length out := MixK.C hm_47 hB_50
    have hC_51 : kOp.C w_42 A_40 (gap ++ [(xs.getD i op0)]).length (gap ++ [(xs.getD i op0)]) := MixK.C hm_43 hB_50
    have hci := B.cs_ins hcs (show i < xs.length by omega) hb hfx (of_decide_eq_true c_26)
    refine xr0 1 [(4, .slice A_40 ((gap ++ [(xs.getD i op0)]).length) c_41)] [28, 33, 34] ?_
    refine nl (X_exit (rg (xr 3 [(16, .eq (.int .i64 ((i : Int) + 1)))] [(6, .int .i64 ((i : Int) + 1))] [] [Value.int .i64 (IntKind.i64.wrap ((i : Int) + 1)) = Value.int .i64 ((i : Int) + 1)] ⟨wr_i64 (by omega) (by omega), trivial⟩ ?_)))
    refine nl ?_
    have hB_52 : Below w.heap.size w w_42 := (bgo (bt (bt HB hb_25) hb_35) hg_44 hl_45 (Nat.le_refl _))
    refine ⟨(i + 1, out, A3, c3, (gap ++ [(xs.getD i op0)]), A_40, c_41, g), by kernel_rfl, ?_, ?_⟩
    ·exact ⟨by omega, (.inl hci), hm_47, hm_43, ap_48, hB_52⟩
    (try dsimp only); omega
   rw [show (decide (insO (xs.getD i op0)) : Bool) = false from by simpa using c_26]
   refine cf (sk (sq (sq (rg (xr 7 [(38, .eq (.bool true))] [(39, .bool true), (40, .slice A xs.length c), (41, nv i)] [27] [Value.bool (decide ((i : Int) < (xs.length : Int))) = Value.bool true] ⟨congrArg Value.bool (decide_eq_true (c_16)), trivial⟩ ?_)))))
   obtain ⟨ad_53, B_56, c_57, ha_54, hc_55, hl_58, hC_59⟩ := C_opK hx (bt (bt hW HB) hb_25) (i := (i : Int)) (by omega) (by omega)
   replace hc_55 : CellsAt w_24 (ad_53.add ((i : Int).toNat * 7)) [.int .i64 ((xs.getD i op0).kind), .string ((xs.getD i op0).text), .int .i64 ((xs.getD i op0).vk), .int .i64 ((xs.getD i op0).vn), .string ((xs.getD i op0).vt), .int .i64 ((xs.getD i op0).count), .slice B_56 ((xs.getD i op0).attrs.length) c_57] := hc_55
   replace hl_58 : (xs.getD i op0).attrs.length ≤ c_57 := hl_58
   replace hC_59 : kAttr.C W0 B_56 ((xs.getD i op0).attrs.length) (xs.getD i op0).attrs := hC_59
   refine xr 3 [(42, .idx ad_53), (44, .load (.int .i64 ((xs.getD i op0).kind)))] [(44, .int .i64 ((xs.getD i op0).kind))] [40, 41] [A = some ad_53, (0 : Int) ≤ (i : Int), (i : Int) < (xs.length : Int), LoadsAs Tryd.prog 3 (ad_53.add ((i : Int).toNat * 7)) (.int .i64 ((xs.getD i op0).kind)) w_24] ⟨ha_54, (by omega), (by omega), loads1 rfl (elem_cell hc_55 0 _ rfl), trivial⟩ ?_
   by_cases c_60 : (xs.getD i op0).kind = 4
   ·have hcd := B.cs_del hcs (show i < xs.length by omega) hb c_60
    have hbd2 := B.cs_bd hcd hb hsB ht hn
    refine xr 2 [(45, .eq (.bool true))] [(46, .bool true)] [39, 44] [Value.bool ((xs.getD i op0).kind == 4) = Value.bool true] ⟨congrArg Value.bool (beq_iff_eq.2 (c_60)), trivial⟩ ?_
    refine nl (ct (sq (rg (xr0 3 [(47, .int .i64 g), (48, .slice A xs.length c), (49, nv i)] [5, 46] ?_))))
    obtain ⟨ad_61, B_64, c_65, ha_62, hc_63, hl_66, hC_67⟩ := C_opK hx (bt (bt hW HB) hb_25) (i := (i : Int)) (by omega) (by omega)
    replace hc_63 : CellsAt w_24 (ad_61.add ((i : Int).toNat * 7)) [.int .i64 ((xs.getD i op0).kind), .string ((xs.getD i op0).text), .int .i64 ((xs.getD i op0).vk), .int .i64 ((xs.getD i op0).vn), .string ((xs.getD i op0).vt), .int .i64 ((xs.getD i op0).count), .slice B_64 ((xs.getD i op0).attrs.length) c_65] := hc_63
    replace hl_66 : (xs.getD i op0).attrs.length ≤ c_65 := hl_66
    replace hC_67 : kAttr.C W0 B_64 ((xs.getD i op0).attrs.length) (xs.getD i op0).attrs := hC_67
    refine xr 5 [(50, .idx ad_61), (52, .load (.int .i64 ((xs.getD i op0).count))), (53, .eq (.int .i64 (g + ((xs.getD i op0).count))))] [(5, .int .i64 (g + ((xs.getD i op0).count)))] [47, 48, 49] [A = some ad_61, (0 : Int) ≤ (i : Int), (i : Int) < (xs.length : Int), LoadsAs Tryd.prog 3 ((ad_61.add ((i : Int).toNat * 7)).add 5) (.int .i64 ((xs.getD i op0).count)) w_24, Value.int .i64 (IntKind.i64.wrap (g + ((xs.getD i op0).count))) = Value.int .i64 (g + ((xs.getD i op0).count))] ⟨ha_62, (by omega), (by omega), loads1 rfl (elem_cell hc_63 5 _ rfl), wr_i64 (by omega) (by omega), trivial⟩ ?_
    refine nl (X_exit (rg (xe 3 [(16, .eq (.int .i64 ((i : Int) + 1)))] [(0, .slice A xs.length c), (3, .slice A3 out.length c3), (4, .slice A4 gap.length c4), (5, .int .i64 (g + ((xs.getD i op0).count))), (6, .int .i64 ((i : Int) + 1))] [Value.int .i64 (IntKind.i64.wrap ((i : Int) + 1)) = Value.int .i64 ((i : Int) + 1)] ⟨wr_i64 (by omega) (by omega), trivial⟩ ?_)))
    refine nl ?_
    refine ⟨(i + 1, out, A3, c3, gap, A4, c4, g + ((xs.getD i op0).count)), by kernel_rfl, ?_, ?_⟩
    ·exact ⟨by omega, (.inl hcd), (MixK.below hm3 hb_25), (MixK.below hm4 hb_25), hap, (bt HB hb_25)⟩
    (try dsimp only); omega
   refine xr 2 [(45, .eq (.bool false))] [(46, .bool false)] [39, 44] [Value.bool ((xs.getD i op0).kind == 4) = Value.bool false] ⟨congrArg Value.bool (beq_eq_false_iff_ne.2 (c_60)), trivial⟩ ?_
   refine nl (cf (sk (sq (sq (rg (xr0 3 [(54, .slice A4 gap.length c4), (55, .int .i64 (gap.length : Int)), (56, .int .i64 0)] [4, 46] ?_))))))
   refine nl (bk (X_loop (ι := Nat × List OpA × Option Addr × Nat) (fun ⟨j, P, A5, c5⟩ => [(0, .slice A xs.length c), (3, .slice A5 P.length c5), (5, .int .i64 g), (6, .int .i64 (i : Int)), (54, .slice A4 gap.length c4), (55, .int .i64 (gap.length : Int)), (56, .int .i64 (j : Int))]) (fun ⟨j, P, A5, c5⟩ wm => j ≤ gap.length ∧ B.FS out gap P j ∧ MixK kOp op0 47 w.heap.size W0 wm A5 P.length c5 P ∧ MixK kOp op0 47 w.heap.size W0 wm A4 gap.length c4 gap ∧ Apt A5 A4 ∧ Below w.heap.size w wm) (fun ⟨j, P, A5, c5⟩ => gap.length - j) (0, out, A3, c3) ⟨Nat.zero_le _, B.fs_nil hcs, (MixK.below hm3 hb_25), (MixK.below hm4 hb_25), hap, (bt HB hb_25)⟩ (by kernel_rfl) ?_))
   rintro ⟨j, P, A5, c5⟩ wm ⟨hj, hfs, hm5, hm6, hap5, HB2⟩
   have hC_68 : kOp.C wm A5 P.length P := MixK.C hm5 (bt hW HB2)
   have hC_69 : kOp.C wm A4 gap.length gap := MixK.C hm6 (bt hW HB2)
   have hPl := hfs.ln
   refine sq (X_region ?_)
   by_cases c_70 : (j : Int) < (gap.length : Int)
   ·refine xr 1 [(57, .eq (.bool true))] [(57, .bool true)] [] [Value.bool (decide ((j : Int) < (gap.length : Int))) = Value.bool true] ⟨congrArg Value.bool (decide_eq_true (c_70)), trivial⟩ ?_
    refine nl (sq (ct (sk (sq (bk (sq (X_region ?_)))))))
    obtain ⟨ad_71, B_74, c_75, ha_72, hc_73, hl_76, hC_77⟩ := MixK.op hm6 (i := (j : Int)) (by omega) (by omega)
    replace hc_73 : CellsAt wm (ad_71.add ((j : Int).toNat * 7)) [.int .i64 ((gap.getD j op0).kind), .string ((gap.getD j op0).text), .int .i64 ((gap.getD j op0).vk), .int .i64 ((gap.getD j op0).vn), .string ((gap.getD j op0).vt), .int .i64 ((gap.getD j op0).count), .slice B_74 ((gap.getD j op0).attrs.length) c_75] := hc_73
    replace hl_76 : (gap.getD j op0).attrs.length ≤ c_75 := hl_76
    replace hC_77 : kAttr.C W0 B_74 ((gap.getD j op0).attrs.length) (gap.getD j op0).attrs := hC_77
    refine xw 3 [(58, .idx ad_71), (59, .load (.agg #[.int .i64 ((gap.getD j op0).kind), .string ((gap.getD j op0).text), .int .i64 ((gap.getD j op0).vk), .int .i64 ((gap.getD j op0).vn), .string ((gap.getD j op0).vt), .int .i64 ((gap.getD j op0).count), .slice B_74 ((gap.getD j op0).attrs.length) c_75]))] [(8, pw wm.heap.size 0), (59, .agg #[.int .i64 ((gap.getD j op0).kind), .string ((gap.getD j op0).text), .int .i64 ((gap.getD j op0).vk), .int .i64 ((gap.getD j op0).vn), .string ((gap.getD j op0).vt), .int .i64 ((gap.getD j op0).count), .slice B_74 ((gap.getD j op0).attrs.length) c_75])] [57] (wm.alloc (.cells #[.int .i64 0, .string ByteArray.empty, .int .i64 0, .int .i64 0, .string ByteArray.empty, .int .i64 0, .slice none 0 0] 47)) [A4 = some ad_71, (0 : Int) ≤ (j : Int), (j : Int) < (gap.length : Int), LoadsAs Tryd.prog 47 (ad_71.add ((j : Int).toNat * 7)) (.agg #[.int .i64 ((gap.getD j op0).kind), .string ((gap.getD j op0).text), .int .i64 ((gap.getD j op0).vk), .int .i64 ((gap.getD j op0).vn), .string ((gap.getD j op0).vt), .int .i64 ((gap.getD j op0).count), .slice B_74 ((gap.getD j op0).attrs.length) c_75]) wm] ⟨ha_72, (by omega), (by omega), loadsE rfl rfl hc_73 0 ⟨by kernel_rfl, by kernel_rfl⟩, trivial⟩ ?_
    obtain ⟨w_78, hw_82, hb_79, hk_80, hz_81⟩ := new_world wm #[.int .i64 0, .string ByteArray.empty, .int .i64 0, .int .i64 0, .string ByteArray.empty, .int .i64 0, .slice none 0 0] 47
    rw [hw_82]
    refine xst (.agg #[.int .i64 ((gap.getD j op0).kind), .string ((gap.getD j op0).text), .int .i64 ((gap.getD j op0).vk), .int .i64 ((gap.getD j op0).vn), .string ((gap.getD j op0).vt), .int .i64 ((gap.getD j op0).count), .slice B_74 ((gap.getD j op0).attrs.length) c_75]) hk_80 0 #[.int .i64 ((gap.getD j op0).kind), .string ((gap.getD j op0).text), .int .i64 ((gap.getD j op0).vk), .int .i64 ((gap.getD j op0).vn), .string ((gap.getD j op0).vt), .int .i64 ((gap.getD j op0).count), .slice B_74 ((gap.getD j op0).attrs.length) c_75] (fun w_83 hg_84 hk_85 hz_86 => ?_)
    refine nl (rg (xr 2 [(61, .load (.agg #[.int .i64 ((gap.getD j op0).kind), .string ((gap.getD j op0).text), .int .i64 ((gap.getD j op0).vk), .int .i64 ((gap.getD j op0).vn), .string ((gap.getD j op0).vt), .int .i64 ((gap.getD j op0).count), .slice B_74 ((gap.getD j op0).attrs.length) c_75]))] [(60, .slice A5 P.length c5), (61, .agg #[.int .i64 ((gap.getD j op0).kind), .string ((gap.getD j op0).text), .int .i64 ((gap.getD j op0).vk), .int .i64 ((gap.getD j op0).vn), .string ((gap.getD j op0).vt), .int .i64 ((gap.getD j op0).count), .slice B_74 ((gap.getD j op0).attrs.length) c_75])] [3, 8, 59] [LoadsAs Tryd.prog 47 (⟨wm.heap.size, 0, none⟩) (.agg #[.int .i64 ((gap.getD j op0).kind), .string ((gap.getD j op0).text), .int .i64 ((gap.getD j op0).vk), .int .i64 ((gap.getD j op0).vn), .string ((gap.getD j op0).vt), .int .i64 ((gap.getD j op0).count), .slice B_74 ((gap.getD j op0).attrs.length) c_75]) w_83] ⟨loadsB rfl rfl hk_85 0 ⟨by kernel_rfl, by kernel_rfl⟩, trivial⟩ ?_))
    have hpre := B.fs_pre hcs hfs (by omega) hbd.2.2.1
    have hfs1 := B.fs_step hcs hfs (by omega)
    have hpp_93 := B.push_pre (out := P) (o := (gap.getD j op0)) hpre.1 hpre.2.1 hpre.2.2
    have hB_94 : Below W0.heap.size W0 w_83 := (bg (bt (bt hW HB2) hb_79) hg_84 ((bt hW HB2)).size)
    refine xc 117 ent117 [.slice A5 P.length c5, .agg #[.int .i64 ((gap.getD j op0).kind), .string ((gap.getD j op0).text), .int .i64 ((gap.getD j op0).vk), .int .i64 ((gap.getD j op0).vn), .string ((gap.getD j op0).vt), .int .i64 ((gap.getD j op0).count), .slice B_74 ((gap.getD j op0).attrs.length) c_75]] (r6push_any _ _ P (gap.getD j op0) _ _ w.heap.size W0 _ hB_94 (MixK.below hm5 (bg hb_79 hg_84 (Nat.le_refl _))) hC_77 hl_76 ((bg (bt HB2 hb_79) hg_84 (HB2).size)).size (by omega) hpp_93.1 hpp_93.2) ?_
    rintro e w_89 ⟨A_87, c_88, rfl, hm_90, hg_91, hat_92⟩; refine ⟨_, rfl, ?_⟩
    have hm_95 := MixK.off (MixK.below hm6 (bg hb_79 hg_84 (Nat.le_refl _))) hg_91 hap5
    have ap_96 := Apt.grow hap5 hat_92 (MixK.lt (MixK.below hm6 (bg hb_79 hg_84 (Nat.le_refl _))))
    obtain ⟨z_97, hz_98⟩ : ∃ z_, (B.push P (gap.getD j op0)) = z_ := ⟨_, rfl⟩; rw [hz_98] at hm_90 ⊢
    have hB_100 : Below W0.heap.size W0 w_89 := (bgo hB_94 hg_91 (MixK.ge (MixK.below hm5 (bg hb_79 hg_84 (Nat.le_refl _)))) (hW).size)
    have hC_99 : kOp.C w_89 A4 gap.length gap := MixK.C hm_95 hB_100
    have hC_101 : kOp.C w_89 A_87 z_97.length z_97 := MixK.C hm_90 hB_100
    rw [hz_98] at hfs1
    refine xr0 1 [(3, .slice A_87 z_97.length c_88)] [60, 61, 62] ?_
    refine nl (rg (xr 2 [(63, .eq (.int .i64 ((j : Int) + 1)))] [(56, .int .i64 ((j : Int) + 1))] [] [Value.int .i64 (IntKind.i64.wrap ((j : Int) + 1)) = Value.int .i64 ((j : Int) + 1)] ⟨wr_i64 (by omega) (by omega), trivial⟩ ?_))
    refine nl ?_
    have hB_102 : Below w.heap.size w w_89 := (bgo (bg (bt HB2 hb_79) hg_84 (HB2).size) hg_91 (MixK.ge (MixK.below hm5 (bg hb_79 hg_84 (Nat.le_refl _)))) (Nat.le_refl _))
    refine ⟨(j + 1, z_97, A_87, c_88), by kernel_rfl, ?_, ?_⟩
    ·exact ⟨by omega, hfs1, hm_90, hm_95, ap_96, hB_102⟩
    (try dsimp only); omega
   have hfe := B.fs_end hcs (show B.FS out gap P gap.length from by rw [← show j = gap.length by omega]; exact hfs)
   have hfl := B.cs_flush hcs hb hsB
   refine xr 1 [(57, .eq (.bool false))] [(57, .bool false)] [] [Value.bool (decide ((j : Int) < (gap.length : Int))) = Value.bool false] ⟨congrArg Value.bool (decide_eq_false (c_70)), trivial⟩ ?_
   refine nl (sq (cf (X_exit (sq (sq (rg (xr0 1 [(64, .int .i64 g)] [54, 55, 56, 57] ?_)))))))
   by_cases c_103 : g > 0
   ·refine xr 1 [(65, .eq (.bool true))] [(65, .bool true)] [64] [Value.bool (decide (g > 0)) = Value.bool true] ⟨congrArg Value.bool (decide_eq_true (c_103)), trivial⟩ ?_
    refine nl (ct (rg (xr0 3 [(66, .slice A5 P.length c5), (68, .agg #[.int .i64 4, .string ByteArray.empty, .int .i64 0, .int .i64 0, .string ByteArray.empty, .int .i64 g, .slice none 0 0])] [3, 5, 65] ?_)))
    have hpre : badE P = 0 ∧ pErr (B.gone g) = 0 ∧ B.txS P + (B.gone g).text.size ≤ 50000000 := ⟨hfe.2.1, hfl.2.2 (by omega), (by show _ + 0 ≤ _; omega)⟩
    have hpp_110 := B.push_pre (out := P) (o := (B.gone g)) hpre.1 hpre.2.1 hpre.2.2
    refine xc 117 ent117 [.slice A5 P.length c5, .agg #[.int .i64 4, .string ByteArray.empty, .int .i64 0, .int .i64 0, .string ByteArray.empty, .int .i64 g, .slice none 0 0]] (r6push_any _ _ P (B.gone g) _ _ w.heap.size W0 _ (bt hW HB2) hm5 ⟨rfl, Nat.zero_le _, fun h => absurd h (Nat.lt_irrefl 0)⟩ (Nat.zero_le _) (HB2).size (by omega) hpp_110.1 hpp_110.2) ?_
    rintro e w_106 ⟨A_104, c_105, rfl, hm_107, hg_108, hat_109⟩; refine ⟨_, rfl, ?_⟩
    have hm_111 := MixK.off hm6 hg_108 hap5
    have ap_112 := Apt.grow hap5 hat_109 (MixK.lt hm6)
    obtain ⟨z_113, hz_114⟩ : ∃ z_, (B.push P (B.gone g)) = z_ := ⟨_, rfl⟩; rw [hz_114] at hm_107 ⊢
    have hB_116 : Below W0.heap.size W0 w_106 := (bgo (bt hW HB2) hg_108 (MixK.ge hm5) (hW).size)
    have hC_115 : kOp.C w_106 A4 gap.length gap := MixK.C hm_111 hB_116
    have hC_117 : kOp.C w_106 A_104 z_113.length z_113 := MixK.C hm_107 hB_116
    have hdl : z_113 = B.dels (gap.foldl B.push out) g := by rw [← hz_114, hfe.1, ← hfl.1, if_pos (by omega)]
    have hln1 : z_113.length ≤ 3145730 := by have h1_ := B.push_len P (B.gone g); have h2_ := congrArg List.length hz_114; have h3_ := hfe.2.2.2.1; omega
    refine xr0 1 [(3, .slice A_104 z_113.length c_105)] [66, 68, 69] ?_
    refine nl (sq (rg (xe0 2 [(0, .slice A xs.length c), (3, .slice A_104 z_113.length c_105), (4, .slice none 0 0), (5, .int .i64 0), (6, nv i)] ?_)))
    refine nl (sq (rg (xr 4 [(73, .eq (.bool true))] [(73, .bool true)] [] [Value.bool (decide ((i : Int) < (xs.length : Int))) = Value.bool true] ⟨congrArg Value.bool (decide_eq_true (c_16)), trivial⟩ ?_)))
    refine nl (ct (rg (xr0 3 [(74, .slice A_104 z_113.length c_105), (75, .slice A xs.length c), (76, nv i)] [3, 73] ?_)))
    obtain ⟨ad_118, B_121, c_122, ha_119, hc_120, hl_123, hC_124⟩ := C_opK hx hB_116 (i := (i : Int)) (by omega) (by omega)
    replace hc_120 : CellsAt w_106 (ad_118.add ((i : Int).toNat * 7)) [.int .i64 ((xs.getD i op0).kind), .string ((xs.getD i op0).text), .int .i64 ((xs.getD i op0).vk), .int .i64 ((xs.getD i op0).vn), .string ((xs.getD i op0).vt), .int .i64 ((xs.getD i op0).count), .slice B_121 ((xs.getD i op0).attrs.length) c_122] := hc_120
    replace hl_123 : (xs.getD i op0).attrs.length ≤ c_122 := hl_123
    replace hC_124 : kAttr.C W0 B_121 ((xs.getD i op0).attrs.length) (xs.getD i op0).attrs := hC_124
    refine xr 2 [(77, .idx ad_118), (78, .load (.agg #[.int .i64 ((xs.getD i op0).kind), .string ((xs.getD i op0).text), .int .i64 ((xs.getD i op0).vk), .int .i64 ((xs.getD i op0).vn), .string ((xs.getD i op0).vt), .int .i64 ((xs.getD i op0).count), .slice B_121 ((xs.getD i op0).attrs.length) c_122]))] [(78, .agg #[.int .i64 ((xs.getD i op0).kind), .string ((xs.getD i op0).text), .int .i64 ((xs.getD i op0).vk), .int .i64 ((xs.getD i op0).vn), .string ((xs.getD i op0).vt), .int .i64 ((xs.getD i op0).count), .slice B_121 ((xs.getD i op0).attrs.length) c_122])] [75, 76] [A = some ad_118, (0 : Int) ≤ (i : Int), (i : Int) < (xs.length : Int), LoadsAs Tryd.prog 47 (ad_118.add ((i : Int).toNat * 7)) (.agg #[.int .i64 ((xs.getD i op0).kind), .string ((xs.getD i op0).text), .int .i64 ((xs.getD i op0).vk), .int .i64 ((xs.getD i op0).vn), .string ((xs.getD i op0).vt), .int .i64 ((xs.getD i op0).count), .slice B_121 ((xs.getD i op0).attrs.length) c_122]) w_106] ⟨ha_119, (by omega), (by omega), loadsE rfl rfl hc_120 0 ⟨by kernel_rfl, by kernel_rfl⟩, trivial⟩ ?_
    have hpi := badE_getD hb (show i < xs.length by omega)
    have hki := kind_of_ok hpi
    have hin : ¬ ((xs.getD i op0).kind = 1 ∨ (xs.getD i op0).kind = 2) := (of_decide_eq_false (Bool.eq_false_iff.2 c_26))
    have hk3 : (xs.getD i op0).kind = 3 := by omega
    have htx : B.txS z_113 + (xs.getD i op0).text.size ≤ 50000000 := by have h1_ := (B.dels_sz (g := g) hfe.2.2.2.2).2; have h2_ := hcs.tx; have h3_ := B.tx_take (show i < xs.length by omega); have h4_ := B.txS_take xs (i + 1); have h5_ := congrArg B.txS hdl; have h6_ := congrArg B.txS hfe.1; have h7_ := hfe.2.2.1; rw [hfe.1] at h1_; omega
    have hpre2 : badE z_113 = 0 ∧ pErr (xs.getD i op0) = 0 ∧ B.txS z_113 + (xs.getD i op0).text.size ≤ 50000000 := ⟨by rw [hdl]; exact hfl.2.1, hpi, htx⟩
    have hpp_131 := B.push_pre (out := z_113) (o := (xs.getD i op0)) hpre2.1 hpre2.2.1 hpre2.2.2
    have hB_132 : Below w.heap.size w w_106 := (bgo HB2 hg_108 (MixK.ge hm5) (Nat.le_refl _))
    refine xc 117 ent117 [.slice A_104 z_113.length c_105, .agg #[.int .i64 ((xs.getD i op0).kind), .string ((xs.getD i op0).text), .int .i64 ((xs.getD i op0).vk), .int .i64 ((xs.getD i op0).vn), .string ((xs.getD i op0).vt), .int .i64 ((xs.getD i op0).count), .slice B_121 ((xs.getD i op0).attrs.length) c_122]] (r6push_any _ _ z_113 (xs.getD i op0) _ _ w.heap.size W0 _ hB_116 hm_107 hC_124 hl_123 (hB_132).size (by omega) hpp_131.1 hpp_131.2) ?_
    rintro e w_127 ⟨A_125, c_126, rfl, hm_128, hg_129, hat_130⟩; refine ⟨_, rfl, ?_⟩
    have hm_133 := MixK.off hm_111 hg_129 ap_112
    have ap_134 := Apt.grow ap_112 hat_130 (MixK.lt hm_111)
    obtain ⟨z_135, hz_136⟩ : ∃ z_, (B.push z_113 (xs.getD i op0)) = z_ := ⟨_, rfl⟩; rw [hz_136] at hm_128 ⊢
    have hB_138 : Below W0.heap.size W0 w_127 := (bgo hB_116 hg_129 (MixK.ge hm_107) (hW).size)
    have hC_137 : kOp.C w_127 A4 gap.length gap := MixK.C hm_133 hB_138
    have hC_139 : kOp.C w_127 A_125 z_135.length z_135 := MixK.C hm_128 hB_138
    have hln2 : z_135.length ≤ 3 * (i + 1) := by have h1_ := B.push_len z_113 (xs.getD i op0); have h2_ := B.dels_len' (gap.foldl B.push out) g; have h3_ := hcs.ln; have h4_ := congrArg List.length hdl; have h5_ := congrArg List.length hfe.1; have h6_ := congrArg List.length hz_136; omega
    have hcr : B.CS xs z_135 [] 0 (i + 1) := by have h_ := B.cs_ret hcs (show i < xs.length by omega) hb hsB hfx hk3 (by rw [← hdl, hz_136]; exact hln2); rw [← hdl, hz_136] at h_; exact h_
    refine xr0 1 [(3, .slice A_125 z_135.length c_126)] [74, 78, 79] ?_
    refine nl (rg (xr 3 [(16, .eq (.int .i64 ((i : Int) + 1)))] [(6, .int .i64 ((i : Int) + 1))] [] [Value.int .i64 (IntKind.i64.wrap ((i : Int) + 1)) = Value.int .i64 ((i : Int) + 1)] ⟨wr_i64 (by omega) (by omega), trivial⟩ ?_))
    refine nl ?_
    have hB_140 : Below w.heap.size w w_127 := (bgo hB_132 hg_129 (MixK.ge hm_107) (Nat.le_refl _))
    refine ⟨(i + 1, z_135, A_125, c_126, [], none, 0, 0), by kernel_rfl, ?_, ?_⟩
    ·exact ⟨by omega, (.inl hcr), hm_128, (MixK.nil (z := op0) (B := w.heap.size) (W0 := W0) (Kd.R_nil kOp 47 _ w.heap.size (OkFrom w.heap.size)) (Nat.le_refl _)), (Apt.symm (Apt.none _)), hB_140⟩
    (try dsimp only); omega
   have hdl : P = B.dels (gap.foldl B.push out) g := by rw [hfe.1, ← hfl.1, if_neg (by omega)]
   refine xr 1 [(65, .eq (.bool false))] [(65, .bool false)] [64] [Value.bool (decide (g > 0)) = Value.bool false] ⟨congrArg Value.bool (decide_eq_false (c_103)), trivial⟩ ?_
   refine nl (cf (sk (sq (rg (xr0 2 [(4, .slice none 0 0), (5, .int .i64 0)] [65] ?_)))))
   refine nl (sq (rg (xr 4 [(73, .eq (.bool true))] [(73, .bool true)] [] [Value.bool (decide ((i : Int) < (xs.length : Int))) = Value.bool true] ⟨congrArg Value.bool (decide_eq_true (c_16)), trivial⟩ ?_)))
   refine nl (ct (rg (xe0 3 [(0, .slice A xs.length c), (4, .slice none 0 0), (5, .int .i64 0), (6, nv i), (74, .slice A5 P.length c5), (75, .slice A xs.length c), (76, nv i)] ?_)))
   obtain ⟨ad_141, B_144, c_145, ha_142, hc_143, hl_146, hC_147⟩ := C_opK hx (bt hW HB2) (i := (i : Int)) (by omega) (by omega)
   replace hc_143 : CellsAt wm (ad_141.add ((i : Int).toNat * 7)) [.int .i64 ((xs.getD i op0).kind), .string ((xs.getD i op0).text), .int .i64 ((xs.getD i op0).vk), .int .i64 ((xs.getD i op0).vn), .string ((xs.getD i op0).vt), .int .i64 ((xs.getD i op0).count), .slice B_144 ((xs.getD i op0).attrs.length) c_145] := hc_143
   replace hl_146 : (xs.getD i op0).attrs.length ≤ c_145 := hl_146
   replace hC_147 : kAttr.C W0 B_144 ((xs.getD i op0).attrs.length) (xs.getD i op0).attrs := hC_147
   refine xr 2 [(77, .idx ad_141), (78, .load (.agg #[.int .i64 ((xs.getD i op0).kind), .string ((xs.getD i op0).text), .int .i64 ((xs.getD i op0).vk), .int .i64 ((xs.getD i op0).vn), .string ((xs.getD i op0).vt), .int .i64 ((xs.getD i op0).count), .slice B_144 ((xs.getD i op0).attrs.length) c_145]))] [(78, .agg #[.int .i64 ((xs.getD i op0).kind), .string ((xs.getD i op0).text), .int .i64 ((xs.getD i op0).vk), .int .i64 ((xs.getD i op0).vn), .string ((xs.getD i op0).vt), .int .i64 ((xs.getD i op0).count), .slice B_144 ((xs.getD i op0).attrs.length) c_145])] [75, 76] [A = some ad_141, (0 : Int) ≤ (i : Int), (i : Int) < (xs.length : Int), LoadsAs Tryd.prog 47 (ad_141.add ((i : Int).toNat * 7)) (.agg #[.int .i64 ((xs.getD i op0).kind), .string ((xs.getD i op0).text), .int .i64 ((xs.getD i op0).vk), .int .i64 ((xs.getD i op0).vn), .string ((xs.getD i op0).vt), .int .i64 ((xs.getD i op0).count), .slice B_144 ((xs.getD i op0).attrs.length) c_145]) wm] ⟨ha_142, (by omega), (by omega), loadsE rfl rfl hc_143 0 ⟨by kernel_rfl, by kernel_rfl⟩, trivial⟩ ?_
   have hpi := badE_getD hb (show i < xs.length by omega)
   have hki := kind_of_ok hpi
   have hin : ¬ ((xs.getD i op0).kind = 1 ∨ (xs.getD i op0).kind = 2) := (of_decide_eq_false (Bool.eq_false_iff.2 c_26))
   have hk3 : (xs.getD i op0).kind = 3 := by omega
   have htx : B.txS P + (xs.getD i op0).text.size ≤ 50000000 := by have h1_ := (B.dels_sz (g := g) hfe.2.2.2.2).2; have h2_ := hcs.tx; have h3_ := B.tx_take (show i < xs.length by omega); have h4_ := B.txS_take xs (i + 1); have h5_ := congrArg B.txS hdl; have h6_ := congrArg B.txS hfe.1; have h7_ := hfe.2.2.1; rw [hfe.1] at h1_; omega
   have hpre2 : badE P = 0 ∧ pErr (xs.getD i op0) = 0 ∧ B.txS P + (xs.getD i op0).text.size ≤ 50000000 := ⟨by rw [hdl]; exact hfl.2.1, hpi, htx⟩
   have hpp_154 := B.push_pre (out := P) (o := (xs.getD i op0)) hpre2.1 hpre2.2.1 hpre2.2.2
   refine xc 117 ent117 [.slice A5 P.length c5, .agg #[.int .i64 ((xs.getD i op0).kind), .string ((xs.getD i op0).text), .int .i64 ((xs.getD i op0).vk), .int .i64 ((xs.getD i op0).vn), .string ((xs.getD i op0).vt), .int .i64 ((xs.getD i op0).count), .slice B_144 ((xs.getD i op0).attrs.length) c_145]] (r6push_any _ _ P (xs.getD i op0) _ _ w.heap.size W0 _ (bt hW HB2) hm5 hC_147 hl_146 (HB2).size (by omega) hpp_154.1 hpp_154.2) ?_
   rintro e w_150 ⟨A_148, c_149, rfl, hm_151, hg_152, hat_153⟩; refine ⟨_, rfl, ?_⟩
   have hm_155 := MixK.off hm6 hg_152 hap5
   have ap_156 := Apt.grow hap5 hat_153 (MixK.lt hm6)
   obtain ⟨z_157, hz_158⟩ : ∃ z_, (B.push P (xs.getD i op0)) = z_ := ⟨_, rfl⟩; rw [hz_158] at hm_151 ⊢
   have hB_160 : Below W0.heap.size W0 w_150 := (bgo (bt hW HB2) hg_152 (MixK.ge hm5) (hW).size)
   have hC_159 : kOp.C w_150 A4 gap.length gap := MixK.C hm_155 hB_160
   have hC_161 : kOp.C w_150 A_148 z_157.length z_157 := MixK.C hm_151 hB_160
   have hln2 : z_157.length ≤ 3 * (i + 1) := by have h1_ := B.push_len P (xs.getD i op0); have h2_ := B.dels_len' (gap.foldl B.push out) g; have h3_ := hcs.ln; have h4_ := congrArg List.length hdl; have h5_ := congrArg List.length hfe.1; have h6_ := congrArg List.length hz_158; omega
   have hcr : B.CS xs z_157 [] 0 (i + 1) := by have h_ := B.cs_ret hcs (show i < xs.length by omega) hb hsB hfx hk3 (by rw [← hdl, hz_158]; exact hln2); rw [← hdl, hz_158] at h_; exact h_
   refine xr0 1 [(3, .slice A_148 z_157.length c_149)] [74, 78, 79] ?_
   refine nl (rg (xr 3 [(16, .eq (.int .i64 ((i : Int) + 1)))] [(6, .int .i64 ((i : Int) + 1))] [] [Value.int .i64 (IntKind.i64.wrap ((i : Int) + 1)) = Value.int .i64 ((i : Int) + 1)] ⟨wr_i64 (by omega) (by omega), trivial⟩ ?_))
   refine nl ?_
   have hB_162 : Below w.heap.size w w_150 := (bgo HB2 hg_152 (MixK.ge hm5) (Nat.le_refl _))
   refine ⟨(i + 1, z_157, A_148, c_149, [], none, 0, 0), by kernel_rfl, ?_, ?_⟩
   ·exact ⟨by omega, (.inl hcr), hm_151, (MixK.nil (z := op0) (B := w.heap.size) (W0 := W0) (Kd.R_nil kOp 47 _ w.heap.size (OkFrom w.heap.size)) (Nat.le_refl _)), (Apt.symm (Apt.none _)), hB_162⟩
   (try dsimp only); omega
  refine xr 8 [(20, .eq (.bool false))] [(27, .bool false)] [17, 19] [Value.bool (decide ((i : Int) < (xs.length : Int))) = Value.bool false] ⟨congrArg Value.bool (decide_eq_false (c_16)), trivial⟩ ?_
  refine nl (cf (sk (sq (sq (rg (xr 12 [(38, .eq (.bool false))] [(46, .bool false)] [27] [Value.bool (decide ((i : Int) < (xs.length : Int))) = Value.bool false] ⟨congrArg Value.bool (decide_eq_false (c_16)), trivial⟩ ?_))))))
  refine nl (cf (sk (sq (sq (rg (xe0 3 [(0, .slice A xs.length c), (3, .slice A3 out.length c3), (5, .int .i64 g), (6, nv i), (54, .slice A4 gap.length c4), (55, .int .i64 (gap.length : Int)), (56, .int .i64 0)] ?_))))))
  refine nl (bk (X_loop (ι := Nat × List OpA × Option Addr × Nat) (fun ⟨j, P, A5, c5⟩ => [(0, .slice A xs.length c), (3, .slice A5 P.length c5), (5, .int .i64 g), (6, .int .i64 (i : Int)), (54, .slice A4 gap.length c4), (55, .int .i64 (gap.length : Int)), (56, .int .i64 (j : Int))]) (fun ⟨j, P, A5, c5⟩ wm => j ≤ gap.length ∧ B.FS out gap P j ∧ MixK kOp op0 47 w.heap.size W0 wm A5 P.length c5 P ∧ MixK kOp op0 47 w.heap.size W0 wm A4 gap.length c4 gap ∧ Apt A5 A4 ∧ Below w.heap.size w wm) (fun ⟨j, P, A5, c5⟩ => gap.length - j) (0, out, A3, c3) ⟨Nat.zero_le _, B.fs_nil hcs, hm3, hm4, hap, HB⟩ (by kernel_rfl) ?_))
  rintro ⟨j, P, A5, c5⟩ wm ⟨hj, hfs, hm5, hm6, hap5, HB2⟩
  have hC_163 : kOp.C wm A5 P.length P := MixK.C hm5 (bt hW HB2)
  have hC_164 : kOp.C wm A4 gap.length gap := MixK.C hm6 (bt hW HB2)
  have hPl := hfs.ln
  refine sq (X_region ?_)
  by_cases c_165 : (j : Int) < (gap.length : Int)
  ·refine xr 1 [(57, .eq (.bool true))] [(57, .bool true)] [] [Value.bool (decide ((j : Int) < (gap.length : Int))) = Value.bool true] ⟨congrArg Value.bool (decide_eq_true (c_165)), trivial⟩ ?_
   refine nl (sq (ct (sk (sq (bk (sq (X_region ?_)))))))
   obtain ⟨ad_166, B_169, c_170, ha_167, hc_168, hl_171, hC_172⟩ := MixK.op hm6 (i := (j : Int)) (by omega) (by omega)
   replace hc_168 : CellsAt wm (ad_166.add ((j : Int).toNat * 7)) [.int .i64 ((gap.getD j op0).kind), .string ((gap.getD j op0).text), .int .i64 ((gap.getD j op0).vk), .int .i64 ((gap.getD j op0).vn), .string ((gap.getD j op0).vt), .int .i64 ((gap.getD j op0).count), .slice B_169 ((gap.getD j op0).attrs.length) c_170] := hc_168
   replace hl_171 : (gap.getD j op0).attrs.length ≤ c_170 := hl_171
   replace hC_172 : kAttr.C W0 B_169 ((gap.getD j op0).attrs.length) (gap.getD j op0).attrs := hC_172
   refine xw 3 [(58, .idx ad_166), (59, .load (.agg #[.int .i64 ((gap.getD j op0).kind), .string ((gap.getD j op0).text), .int .i64 ((gap.getD j op0).vk), .int .i64 ((gap.getD j op0).vn), .string ((gap.getD j op0).vt), .int .i64 ((gap.getD j op0).count), .slice B_169 ((gap.getD j op0).attrs.length) c_170]))] [(8, pw wm.heap.size 0), (59, .agg #[.int .i64 ((gap.getD j op0).kind), .string ((gap.getD j op0).text), .int .i64 ((gap.getD j op0).vk), .int .i64 ((gap.getD j op0).vn), .string ((gap.getD j op0).vt), .int .i64 ((gap.getD j op0).count), .slice B_169 ((gap.getD j op0).attrs.length) c_170])] [57] (wm.alloc (.cells #[.int .i64 0, .string ByteArray.empty, .int .i64 0, .int .i64 0, .string ByteArray.empty, .int .i64 0, .slice none 0 0] 47)) [A4 = some ad_166, (0 : Int) ≤ (j : Int), (j : Int) < (gap.length : Int), LoadsAs Tryd.prog 47 (ad_166.add ((j : Int).toNat * 7)) (.agg #[.int .i64 ((gap.getD j op0).kind), .string ((gap.getD j op0).text), .int .i64 ((gap.getD j op0).vk), .int .i64 ((gap.getD j op0).vn), .string ((gap.getD j op0).vt), .int .i64 ((gap.getD j op0).count), .slice B_169 ((gap.getD j op0).attrs.length) c_170]) wm] ⟨ha_167, (by omega), (by omega), loadsE rfl rfl hc_168 0 ⟨by kernel_rfl, by kernel_rfl⟩, trivial⟩ ?_
   obtain ⟨w_173, hw_177, hb_174, hk_175, hz_176⟩ := new_world wm #[.int .i64 0, .string ByteArray.empty, .int .i64 0, .int .i64 0, .string ByteArray.empty, .int .i64 0, .slice none 0 0] 47
   rw [hw_177]
   refine xst (.agg #[.int .i64 ((gap.getD j op0).kind), .string ((gap.getD j op0).text), .int .i64 ((gap.getD j op0).vk), .int .i64 ((gap.getD j op0).vn), .string ((gap.getD j op0).vt), .int .i64 ((gap.getD j op0).count), .slice B_169 ((gap.getD j op0).attrs.length) c_170]) hk_175 0 #[.int .i64 ((gap.getD j op0).kind), .string ((gap.getD j op0).text), .int .i64 ((gap.getD j op0).vk), .int .i64 ((gap.getD j op0).vn), .string ((gap.getD j op0).vt), .int .i64 ((gap.getD j op0).count), .slice B_169 ((gap.getD j op0).attrs.length) c_170] (fun w_178 hg_179 hk_180 hz_181 => ?_)
   refine nl (rg (xr 2 [(61, .load (.agg #[.int .i64 ((gap.getD j op0).kind), .string ((gap.getD j op0).text), .int .i64 ((gap.getD j op0).vk), .int .i64 ((gap.getD j op0).vn), .string ((gap.getD j op0).vt), .int .i64 ((gap.getD j op0).count), .slice B_169 ((gap.getD j op0).attrs.length) c_170]))] [(60, .slice A5 P.length c5), (61, .agg #[.int .i64 ((gap.getD j op0).kind), .string ((gap.getD j op0).text), .int .i64 ((gap.getD j op0).vk), .int .i64 ((gap.getD j op0).vn), .string ((gap.getD j op0).vt), .int .i64 ((gap.getD j op0).count), .slice B_169 ((gap.getD j op0).attrs.length) c_170])] [3, 8, 59] [LoadsAs Tryd.prog 47 (⟨wm.heap.size, 0, none⟩) (.agg #[.int .i64 ((gap.getD j op0).kind), .string ((gap.getD j op0).text), .int .i64 ((gap.getD j op0).vk), .int .i64 ((gap.getD j op0).vn), .string ((gap.getD j op0).vt), .int .i64 ((gap.getD j op0).count), .slice B_169 ((gap.getD j op0).attrs.length) c_170]) w_178] ⟨loadsB rfl rfl hk_180 0 ⟨by kernel_rfl, by kernel_rfl⟩, trivial⟩ ?_))
   have hpre := B.fs_pre hcs hfs (by omega) hbd.2.2.1
   have hfs1 := B.fs_step hcs hfs (by omega)
   have hpp_188 := B.push_pre (out := P) (o := (gap.getD j op0)) hpre.1 hpre.2.1 hpre.2.2
   have hB_189 : Below W0.heap.size W0 w_178 := (bg (bt (bt hW HB2) hb_174) hg_179 ((bt hW HB2)).size)
   refine xc 117 ent117 [.slice A5 P.length c5, .agg #[.int .i64 ((gap.getD j op0).kind), .string ((gap.getD j op0).text), .int .i64 ((gap.getD j op0).vk), .int .i64 ((gap.getD j op0).vn), .string ((gap.getD j op0).vt), .int .i64 ((gap.getD j op0).count), .slice B_169 ((gap.getD j op0).attrs.length) c_170]] (r6push_any _ _ P (gap.getD j op0) _ _ w.heap.size W0 _ hB_189 (MixK.below hm5 (bg hb_174 hg_179 (Nat.le_refl _))) hC_172 hl_171 ((bg (bt HB2 hb_174) hg_179 (HB2).size)).size (by omega) hpp_188.1 hpp_188.2) ?_
   rintro e w_184 ⟨A_182, c_183, rfl, hm_185, hg_186, hat_187⟩; refine ⟨_, rfl, ?_⟩
   have hm_190 := MixK.off (MixK.below hm6 (bg hb_174 hg_179 (Nat.le_refl _))) hg_186 hap5
   have ap_191 := Apt.grow hap5 hat_187 (MixK.lt (MixK.below hm6 (bg hb_174 hg_179 (Nat.le_refl _))))
   obtain ⟨z_192, hz_193⟩ : ∃ z_, (B.push P (gap.getD j op0)) = z_ := ⟨_, rfl⟩; rw [hz_193] at hm_185 ⊢
   have hB_195 : Below W0.heap.size W0 w_184 := (bgo hB_189 hg_186 (MixK.ge (MixK.below hm5 (bg hb_174 hg_179 (Nat.le_refl _)))) (hW).size)
   have hC_194 : kOp.C w_184 A4 gap.length gap := MixK.C hm_190 hB_195
   have hC_196 : kOp.C w_184 A_182 z_192.length z_192 := MixK.C hm_185 hB_195
   rw [hz_193] at hfs1
   refine xr0 1 [(3, .slice A_182 z_192.length c_183)] [60, 61, 62] ?_
   refine nl (rg (xr 2 [(63, .eq (.int .i64 ((j : Int) + 1)))] [(56, .int .i64 ((j : Int) + 1))] [] [Value.int .i64 (IntKind.i64.wrap ((j : Int) + 1)) = Value.int .i64 ((j : Int) + 1)] ⟨wr_i64 (by omega) (by omega), trivial⟩ ?_))
   refine nl ?_
   have hB_197 : Below w.heap.size w w_184 := (bgo (bg (bt HB2 hb_174) hg_179 (HB2).size) hg_186 (MixK.ge (MixK.below hm5 (bg hb_174 hg_179 (Nat.le_refl _)))) (Nat.le_refl _))
   refine ⟨(j + 1, z_192, A_182, c_183), by kernel_rfl, ?_, ?_⟩
   ·exact ⟨by omega, hfs1, hm_185, hm_190, ap_191, hB_197⟩
   (try dsimp only); omega
  have hfe := B.fs_end hcs (show B.FS out gap P gap.length from by rw [← show j = gap.length by omega]; exact hfs)
  have hfl := B.cs_flush hcs hb hsB
  refine xr 1 [(57, .eq (.bool false))] [(57, .bool false)] [] [Value.bool (decide ((j : Int) < (gap.length : Int))) = Value.bool false] ⟨congrArg Value.bool (decide_eq_false (c_165)), trivial⟩ ?_
  refine nl (sq (cf (X_exit (sq (sq (rg (xr0 1 [(64, .int .i64 g)] [54, 55, 56, 57] ?_)))))))
  by_cases c_198 : g > 0
  ·refine xr 1 [(65, .eq (.bool true))] [(65, .bool true)] [64] [Value.bool (decide (g > 0)) = Value.bool true] ⟨congrArg Value.bool (decide_eq_true (c_198)), trivial⟩ ?_
   refine nl (ct (rg (xr0 3 [(66, .slice A5 P.length c5), (68, .agg #[.int .i64 4, .string ByteArray.empty, .int .i64 0, .int .i64 0, .string ByteArray.empty, .int .i64 g, .slice none 0 0])] [3, 5, 65] ?_)))
   have hpre : badE P = 0 ∧ pErr (B.gone g) = 0 ∧ B.txS P + (B.gone g).text.size ≤ 50000000 := ⟨hfe.2.1, hfl.2.2 (by omega), (by show _ + 0 ≤ _; omega)⟩
   have hpp_205 := B.push_pre (out := P) (o := (B.gone g)) hpre.1 hpre.2.1 hpre.2.2
   refine xc 117 ent117 [.slice A5 P.length c5, .agg #[.int .i64 4, .string ByteArray.empty, .int .i64 0, .int .i64 0, .string ByteArray.empty, .int .i64 g, .slice none 0 0]] (r6push_any _ _ P (B.gone g) _ _ w.heap.size W0 _ (bt hW HB2) hm5 ⟨rfl, Nat.zero_le _, fun h => absurd h (Nat.lt_irrefl 0)⟩ (Nat.zero_le _) (HB2).size (by omega) hpp_205.1 hpp_205.2) ?_
   rintro e w_201 ⟨A_199, c_200, rfl, hm_202, hg_203, hat_204⟩; refine ⟨_, rfl, ?_⟩
   have hm_206 := MixK.off hm6 hg_203 hap5
   have ap_207 := Apt.grow hap5 hat_204 (MixK.lt hm6)
   obtain ⟨z_208, hz_209⟩ : ∃ z_, (B.push P (B.gone g)) = z_ := ⟨_, rfl⟩; rw [hz_209] at hm_202 ⊢
   have hB_211 : Below W0.heap.size W0 w_201 := (bgo (bt hW HB2) hg_203 (MixK.ge hm5) (hW).size)
   have hC_210 : kOp.C w_201 A4 gap.length gap := MixK.C hm_206 hB_211
   have hC_212 : kOp.C w_201 A_199 z_208.length z_208 := MixK.C hm_202 hB_211
   have hdl : z_208 = B.dels (gap.foldl B.push out) g := by rw [← hz_209, hfe.1, ← hfl.1, if_pos (by omega)]
   have hln1 : z_208.length ≤ 3145730 := by have h1_ := B.push_len P (B.gone g); have h2_ := congrArg List.length hz_209; have h3_ := hfe.2.2.2.1; omega
   refine xr0 1 [(3, .slice A_199 z_208.length c_200)] [66, 68, 69] ?_
   refine nl (sq (rg (xe0 2 [(0, .slice A xs.length c), (3, .slice A_199 z_208.length c_200), (4, .slice none 0 0), (5, .int .i64 0), (6, nv i)] ?_)))
   refine nl (sq (rg (xr 4 [(73, .eq (.bool false))] [(73, .bool false)] [] [Value.bool (decide ((i : Int) < (xs.length : Int))) = Value.bool false] ⟨congrArg Value.bool (decide_eq_false (c_16)), trivial⟩ ?_)))
   refine nl (cf (sk (rg (xr 3 [(16, .eq (.int .i64 ((i : Int) + 1)))] [(6, .int .i64 ((i : Int) + 1))] [73] [Value.int .i64 (IntKind.i64.wrap ((i : Int) + 1)) = Value.int .i64 ((i : Int) + 1)] ⟨wr_i64 (by omega) (by omega), trivial⟩ ?_))))
   refine nl ?_
   have hB_213 : Below w.heap.size w w_201 := (bgo HB2 hg_203 (MixK.ge hm5) (Nat.le_refl _))
   refine ⟨(i + 1, z_208, A_199, c_200, [], none, 0, 0), by kernel_rfl, ?_, ?_⟩
   ·have hci2 : i = xs.length := by omega
    have hce2 : B.CLoop xs z_208 [] 0 (i + 1) := .inr ⟨by omega, by rw [hdl]; exact B.cs_end hcs hci2, by rw [hdl]; exact hfl.2.1, by have h2_ := B.dels_len' (gap.foldl B.push out) g; have h4_ := congrArg List.length hdl; have h5_ := congrArg List.length hfe.1; omega⟩
    exact ⟨by omega, hce2, hm_202, (MixK.nil (z := op0) (B := w.heap.size) (W0 := W0) (Kd.R_nil kOp 47 _ w.heap.size (OkFrom w.heap.size)) (Nat.le_refl _)), (Apt.symm (Apt.none _)), hB_213⟩
   (try dsimp only); omega
  have hdl : P = B.dels (gap.foldl B.push out) g := by rw [hfe.1, ← hfl.1, if_neg (by omega)]
  refine xr 1 [(65, .eq (.bool false))] [(65, .bool false)] [64] [Value.bool (decide (g > 0)) = Value.bool false] ⟨congrArg Value.bool (decide_eq_false (c_198)), trivial⟩ ?_
  refine nl (cf (sk (sq (rg (xr0 2 [(4, .slice none 0 0), (5, .int .i64 0)] [65] ?_)))))
  refine nl (sq (rg (xr 4 [(73, .eq (.bool false))] [(73, .bool false)] [] [Value.bool (decide ((i : Int) < (xs.length : Int))) = Value.bool false] ⟨congrArg Value.bool (decide_eq_false (c_16)), trivial⟩ ?_)))
  refine nl (cf (sk (rg (xe 3 [(16, .eq (.int .i64 ((i : Int) + 1)))] [(0, .slice A xs.length c), (3, .slice A5 P.length c5), (4, .slice none 0 0), (5, .int .i64 0), (6, .int .i64 ((i : Int) + 1))] [Value.int .i64 (IntKind.i64.wrap ((i : Int) + 1)) = Value.int .i64 ((i : Int) + 1)] ⟨wr_i64 (by omega) (by omega), trivial⟩ ?_))))
  refine nl ?_
  refine ⟨(i + 1, P, A5, c5, [], none, 0, 0), by kernel_rfl, ?_, ?_⟩
  ·have hci2 : i = xs.length := by omega
   have hce2 : B.CLoop xs P [] 0 (i + 1) := .inr ⟨by omega, by rw [hdl]; exact B.cs_end hcs hci2, by rw [hdl]; exact hfl.2.1, by have h2_ := B.dels_len' (gap.foldl B.push out) g; have h4_ := congrArg List.length hdl; have h5_ := congrArg List.length hfe.1; omega⟩
   exact ⟨by omega, hce2, hm5, (MixK.nil (z := op0) (B := w.heap.size) (W0 := W0) (Kd.R_nil kOp 47 _ w.heap.size (OkFrom w.heap.size)) (Nat.le_refl _)), (Apt.symm (Apt.none _)), HB2⟩
  (try dsimp only); omega
 have hce := hcl.resolve_left (fun h_ => by have h2_ := h_.i1; omega)
 refine xr 1 [(14, .eq (.bool false))] [(14, .bool false)] [11, 13] [Value.bool (decide ((i : Int) ≤ (xs.length : Int))) = Value.bool false] ⟨congrArg Value.bool (decide_eq_false (c_15)), trivial⟩ ?_
 refine nl (cf (X_exit (sq (sq (rg (xr0 2 [(81, .int .i64 (out.length : Int))] [0, 4, 5, 6, 14] ?_))))))
 by_cases c_214 : (out.length : Int) > 0
 ·refine xr 6 [(82, .eq (.bool true)), (87, .eq (.int .i64 ((out.length : Int) - 1)))] [(83, .bool true), (84, .slice A3 out.length c3), (87, .int .i64 ((out.length : Int) - 1))] [81] [Value.bool (decide ((out.length : Int) > 0)) = Value.bool true, Value.int .i64 (IntKind.i64.wrap ((out.length : Int) - 1)) = Value.int .i64 ((out.length : Int) - 1)] ⟨congrArg Value.bool (decide_eq_true (c_214)), wr_i64 (by omega) (by omega), trivial⟩ ?_
  obtain ⟨ad_215, B_218, c_219, ha_216, hc_217, hl_220, hC_221⟩ := MixK.op hm3 (i := (out.length : Int) - 1) (by omega) (by omega)
  replace hc_217 : CellsAt wl (ad_215.add (((out.length : Int) - 1).toNat * 7)) [.int .i64 ((out.getD ((out.length : Int) - 1).toNat op0).kind), .string ((out.getD ((out.length : Int) - 1).toNat op0).text), .int .i64 ((out.getD ((out.length : Int) - 1).toNat op0).vk), .int .i64 ((out.getD ((out.length : Int) - 1).toNat op0).vn), .string ((out.getD ((out.length : Int) - 1).toNat op0).vt), .int .i64 ((out.getD ((out.length : Int) - 1).toNat op0).count), .slice B_218 ((out.getD ((out.length : Int) - 1).toNat op0).attrs.length) c_219] := hc_217
  replace hl_220 : (out.getD ((out.length : Int) - 1).toNat op0).attrs.length ≤ c_219 := hl_220
  replace hC_221 : kAttr.C W0 B_218 ((out.getD ((out.length : Int) - 1).toNat op0).attrs.length) (out.getD ((out.length : Int) - 1).toNat op0).attrs := hC_221
  refine xr 2 [(88, .idx ad_215), (89, .load (.agg #[.int .i64 ((out.getD ((out.length : Int) - 1).toNat op0).kind), .string ((out.getD ((out.length : Int) - 1).toNat op0).text), .int .i64 ((out.getD ((out.length : Int) - 1).toNat op0).vk), .int .i64 ((out.getD ((out.length : Int) - 1).toNat op0).vn), .string ((out.getD ((out.length : Int) - 1).toNat op0).vt), .int .i64 ((out.getD ((out.length : Int) - 1).toNat op0).count), .slice B_218 ((out.getD ((out.length : Int) - 1).toNat op0).attrs.length) c_219]))] [(89, .agg #[.int .i64 ((out.getD ((out.length : Int) - 1).toNat op0).kind), .string ((out.getD ((out.length : Int) - 1).toNat op0).text), .int .i64 ((out.getD ((out.length : Int) - 1).toNat op0).vk), .int .i64 ((out.getD ((out.length : Int) - 1).toNat op0).vn), .string ((out.getD ((out.length : Int) - 1).toNat op0).vt), .int .i64 ((out.getD ((out.length : Int) - 1).toNat op0).count), .slice B_218 ((out.getD ((out.length : Int) - 1).toNat op0).attrs.length) c_219])] [84, 87] [A3 = some ad_215, (0 : Int) ≤ (out.length : Int) - 1, (out.length : Int) - 1 < (out.length : Int), LoadsAs Tryd.prog 47 (ad_215.add (((out.length : Int) - 1).toNat * 7)) (.agg #[.int .i64 ((out.getD ((out.length : Int) - 1).toNat op0).kind), .string ((out.getD ((out.length : Int) - 1).toNat op0).text), .int .i64 ((out.getD ((out.length : Int) - 1).toNat op0).vk), .int .i64 ((out.getD ((out.length : Int) - 1).toNat op0).vn), .string ((out.getD ((out.length : Int) - 1).toNat op0).vt), .int .i64 ((out.getD ((out.length : Int) - 1).toNat op0).count), .slice B_218 ((out.getD ((out.length : Int) - 1).toNat op0).attrs.length) c_219]) wl] ⟨ha_216, (by omega), (by omega), loadsE rfl rfl hc_217 0 ⟨by kernel_rfl, by kernel_rfl⟩, trivial⟩ ?_
  refine xc 118 ent118 [.agg #[.int .i64 ((out.getD ((out.length : Int) - 1).toNat op0).kind), .string ((out.getD ((out.length : Int) - 1).toNat op0).text), .int .i64 ((out.getD ((out.length : Int) - 1).toNat op0).vk), .int .i64 ((out.getD ((out.length : Int) - 1).toNat op0).vn), .string ((out.getD ((out.length : Int) - 1).toNat op0).vt), .int .i64 ((out.getD ((out.length : Int) - 1).toNat op0).count), .slice B_218 ((out.getD ((out.length : Int) - 1).toNat op0).attrs.length) c_219]] (r6plain_any (out.getD ((out.length : Int) - 1).toNat op0) _ _ _ (Kd.C_below hC_221 (bt hW HB))) ?_
  rintro e w_222 ⟨rfl, hb_223⟩; refine ⟨_, rfl, ?_⟩
  refine xe0 1 [(3, .slice A3 out.length c3), (91, .bool (decide (plainR (out.getD ((out.length : Int) - 1).toNat op0))))] ?_
  refine nl ?_
  by_cases c_224 : decide (plainR (out.getD ((out.length : Int) - 1).toNat op0)) = true
  ·rw [show (decide (plainR (out.getD ((out.length : Int) - 1).toNat op0)) : Bool) = true from by simpa using c_224]
   refine ct (rg (xe 4 [(95, .eq (.int .i64 ((out.length : Int) - 1)))] [(92, .slice A3 out.length c3), (95, .int .i64 ((out.length : Int) - 1))] [Value.int .i64 (IntKind.i64.wrap ((out.length : Int) - 1)) = Value.int .i64 ((out.length : Int) - 1)] ⟨wr_i64 (by omega) (by omega), trivial⟩ ?_))
   refine xe 2 [(96, .as (.slice A3 (((out.length : Int) - 1).toNat) c3))] [(3, .slice A3 (((out.length : Int) - 1).toNat) c3)] [RunsAs Tryd.prog [(92, .slice A3 out.length c3), (95, .int .i64 ((out.length : Int) - 1))] (Go.Op.slice 37 (Go.Operand.tmp 92) none (some (Go.Operand.tmp 95)) none) 37 (.slice A3 (((out.length : Int) - 1).toNat) c3) w_222] ⟨runs_slice_h (h := (out.length : Int) - 1) rfl rfl rfl rfl (by omega) (by have h_ := (MixK.len hm3).2; omega), trivial⟩ ?_
   refine nl (sq (rg (xe0 2 [(2, .slice A3 (((out.length : Int) - 1).toNat) c3)] ?_)))
   refine nl (X_ret (rk [.slice A3 (((out.length : Int) - 1).toNat) c3] (hR_ _ _ ?_)))
   have hpr : plainR (out.getD ((out.length : Int) - 1).toNat op0) := of_decide_eq_true (by assumption)
   rw [show ((out.length : Int) - 1).toNat = out.length - 1 by omega] at hpr ⊢
   have hfi : B.fin out = out.take (out.length - 1) := if_pos ⟨by omega, hpr⟩
   have hM := MixK.cut (MixK.below hm3 hb_223) (show out.length - 1 ≤ out.length by omega)
   have hlt : (out.take (out.length - 1)).length = out.length - 1 := by rw [List.length_take]; omega
   rw [← hfi, hce.2.1] at hM hlt
   rw [← hlt] at hM ⊢
   exact ⟨A3, c3, rfl, hM, (bt HB hb_223)⟩
  rw [show (decide (plainR (out.getD ((out.length : Int) - 1).toNat op0)) : Bool) = false from by simpa using c_224]
  refine cf (sk (sq (rg (xe0 2 [(2, .slice A3 out.length c3)] ?_))))
  refine nl (X_ret (rk [.slice A3 out.length c3] (hR_ _ _ ?_)))
  have hfi : B.fin out = out := fin_not (by first | exact .inl (by omega) | (refine .inr fun h_ => ?_; have h2_ : ¬ plainR (out.getD ((out.length : Int) - 1).toNat op0) := of_decide_eq_false (Bool.eq_false_iff.2 (by assumption)); rw [show ((out.length : Int) - 1).toNat = out.length - 1 by omega] at h2_; exact h2_ h_))
  have hca := hce.2.1
  rw [hfi] at hca
  rw [← hca]
  exact ⟨A3, c3, rfl, (MixK.below hm3 hb_223), (bt HB hb_223)⟩
 refine xr 10 [(82, .eq (.bool false))] [(91, .bool false)] [81] [Value.bool (decide ((out.length : Int) > 0)) = Value.bool false] ⟨congrArg Value.bool (decide_eq_false (c_214)), trivial⟩ ?_
 refine nl (cf (sk (sq (rg (xe0 2 [(2, .slice A3 out.length c3)] ?_)))))
 refine nl (X_ret (rk [.slice A3 out.length c3] (hR_ _ _ ?_)))
 have hfi : B.fin out = out := fin_not (by first | exact .inl (by omega) | (refine .inr fun h_ => ?_; have h2_ : ¬ plainR (out.getD ((out.length : Int) - 1).toNat op0) := of_decide_eq_false (Bool.eq_false_iff.2 (by assumption)); rw [show ((out.length : Int) - 1).toNat = out.length - 1 by omega] at h2_; exact h2_ h_))
 have hca := hce.2.1
 rw [hfi] at hca
 rw [← hca]
 exact ⟨A3, c3, rfl, hm3, HB⟩
end Go.Proofs.YtkehomiogkoomaaDoor
