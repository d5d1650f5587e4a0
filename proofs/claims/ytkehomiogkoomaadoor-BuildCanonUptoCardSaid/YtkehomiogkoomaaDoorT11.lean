/- vellumlaw06.edited: what operations do to cells. Conditions: sizes, good operations and cells. -/
import Derived.Test.YtkehomiogkoomaaDoorT10
import Derived.Test.YtkehomiogkoomaaDoorPat
set_option linter.unusedVariables false
set_option linter.unusedSimpArgs false
set_option maxRecDepth 100000
namespace Go.Proofs.YtkehomiogkoomaaDoor
open Go Go.RowKit Go.Proofs.YtkehomiogkoomaaDoorW.PrintWords RX
theorem ent68 : Ent Tryd.prog 68 := ent_of Tryd.func68 (by kernel_rfl) rfl
theorem ent130 : Ent Tryd.prog 130 := ent_of Tryd.func130 (by kernel_rfl) rfl
set_option maxHeartbeats 4000000 in
theorem edited_any (A D : Option Addr) (c dc : Nat) (xs : List OpA) (cs : List CellA) (w : World) (hx : kOp.C w A xs.length xs) (hd : kCell.C w D cs.length cs) (hdc : cs.length ≤ dc) (hn : xs.length ≤ 20000) (hb : badE xs = 0) (hz : ∀ i, i < xs.length → opSz (xs.getD i op0)) (hcn : cs.length ≤ 500) (hcc : ∀ i, i < cs.length → chkA false (cs.getD i cell0).attrs = 0 ∧ (cs.getD i cell0).attrs.length ≤ 100000000) :
  Calls Tryd.prog 68 #[.slice A xs.length c, .slice D cs.length dc] w fun e w' => ((∃ x A1 c1, B.edit xs cs = some x ∧ e = .returned (.tuple #[.slice A1 x.length c1, .bool true]) ∧ kCell.C w' A1 x.length x) ∨ (B.edit xs cs = none ∧ e = .returned (.tuple #[.slice none 0 0, .bool false]))) ∧ Below w.heap.size w w' := by
 refine RX.enter Tryd.func68 rfl 63 rfl [(0, .slice A xs.length c), (1, .slice D cs.length dc)] rfl (by kernel_rfl) (fun R_ hR_ => ?_)
 refine sq (rg (xe0 2 [(0, .slice A xs.length c), (1, .slice D cs.length dc)] ?_))
 refine nl (sq (rg (xw 1 [] [(12, .slice (some ⟨w.heap.size, 0, none⟩) 0 0)] [] (w.alloc (.cells #[] 126)) [] trivial ?_)))
 obtain ⟨w_1, hw_5, hb_2, hk_3, hz_4⟩ := new_world w #[] 126
 rw [hw_5]
 refine xr0 1 [(6, .slice (some ⟨w.heap.size, 0, none⟩) 0 0)] [12] ?_
 refine nl (sq (rg (xr0 1 [(7, .int .i64 0)] [] ?_)))
 refine nl (sq (sq (rg (xr0 3 [(13, .slice A xs.length c), (14, .int .i64 (xs.length : Int)), (15, .int .i64 0)] [0] ?_))))
 refine nl (X_block ?_)
 have hr_6 := Kd.R_litB kCell (W := w) (e := 126) (cs := #[]) [] hk_3 (repsCell0) (Nat.le_of_ble_eq_true (by kernel_rfl))
 refine X_loop (ι := Nat × Nat × List CellA × Option Addr × Nat) (fun ⟨i, pt, out, Q, cq⟩ => [(1, .slice D cs.length dc), (6, .slice Q out.length cq), (7, .int .i64 (pt : Int)), (13, .slice A xs.length c), (14, .int .i64 (xs.length : Int)), (15, .int .i64 (i : Int))]) (fun ⟨i, pt, out, Q, cq⟩ wl => i ≤ xs.length ∧ pt ≤ cs.length ∧ B.edit xs cs = (B.edit (xs.drop i) (cs.drop pt)).map (out ++ ·) ∧ out.length ≤ i * 50000501 ∧ Mix kCell cell0 126 w wl Q out.length cq out ∧ Below w.heap.size w wl) (fun ⟨i, pt, out, Q, cq⟩ => xs.length - i) (0, 0, [], (some ⟨w.heap.size, 0, none⟩), 0) ⟨Nat.zero_le _, Nat.zero_le _, B.es_start xs cs, Nat.zero_le _, (Mix.nil (W0 := w) (z := cell0) hr_6 (Nat.le_refl _)), hb_2⟩ (by kernel_rfl) ?_
 rintro ⟨i, pt, out, Q, cq⟩ wl ⟨hi, hpt, he, hol, hm, HB⟩
 refine sq (X_region ?_)
 by_cases c_7 : (i : Int) < (xs.length : Int)
 ·refine xr 1 [(16, .eq (.bool true))] [(16, .bool true)] [] [Value.bool (decide ((i : Int) < (xs.length : Int))) = Value.bool true] ⟨congrArg Value.bool (decide_eq_true (c_7)), trivial⟩ ?_
  refine nl (sq (ct (sk (sq (bk (sq (X_region ?_)))))))
  obtain ⟨ad_8, B_11, c_12, ha_9, hc_10, hl_13, hC_14⟩ := C_opK hx HB (i := (i : Int)) (by omega) (by omega)
  replace hc_10 : CellsAt wl (ad_8.add ((i : Int).toNat * 7)) [.int .i64 ((xs.getD i op0).kind), .string ((xs.getD i op0).text), .int .i64 ((xs.getD i op0).vk), .int .i64 ((xs.getD i op0).vn), .string ((xs.getD i op0).vt), .int .i64 ((xs.getD i op0).count), .slice B_11 ((xs.getD i op0).attrs.length) c_12] := hc_10
  replace hl_13 : (xs.getD i op0).attrs.length ≤ c_12 := hl_13
  replace hC_14 : kAttr.C w B_11 ((xs.getD i op0).attrs.length) (xs.getD i op0).attrs := hC_14
  refine xw 3 [(17, .idx ad_8), (18, .load (.agg #[.int .i64 ((xs.getD i op0).kind), .string ((xs.getD i op0).text), .int .i64 ((xs.getD i op0).vk), .int .i64 ((xs.getD i op0).vn), .string ((xs.getD i op0).vt), .int .i64 ((xs.getD i op0).count), .slice B_11 ((xs.getD i op0).attrs.length) c_12]))] [(9, pw wl.heap.size 0), (18, .agg #[.int .i64 ((xs.getD i op0).kind), .string ((xs.getD i op0).text), .int .i64 ((xs.getD i op0).vk), .int .i64 ((xs.getD i op0).vn), .string ((xs.getD i op0).vt), .int .i64 ((xs.getD i op0).count), .slice B_11 ((xs.getD i op0).attrs.length) c_12])] [16] (wl.alloc (.cells #[.int .i64 0, .string ByteArray.empty, .int .i64 0, .int .i64 0, .string ByteArray.empty, .int .i64 0, .slice none 0 0] 47)) [A = some ad_8, (0 : Int) ≤ (i : Int), (i : Int) < (xs.length : Int), LoadsAs Tryd.prog 47 (ad_8.add ((i : Int).toNat * 7)) (.agg #[.int .i64 ((xs.getD i op0).kind), .string ((xs.getD i op0).text), .int .i64 ((xs.getD i op0).vk), .int .i64 ((xs.getD i op0).vn), .string ((xs.getD i op0).vt), .int .i64 ((xs.getD i op0).count), .slice B_11 ((xs.getD i op0).attrs.length) c_12]) wl] ⟨ha_9, (by omega), (by omega), loadsE rfl rfl hc_10 0 ⟨by kernel_rfl, by kernel_rfl⟩, trivial⟩ ?_
  obtain ⟨w_15, hw_19, hb_16, hk_17, hz_18⟩ := new_world wl #[.int .i64 0, .string ByteArray.empty, .int .i64 0, .int .i64 0, .string ByteArray.empty, .int .i64 0, .slice none 0 0] 47
  rw [hw_19]
  refine xst (.agg #[.int .i64 ((xs.getD i op0).kind), .string ((xs.getD i op0).text), .int .i64 ((xs.getD i op0).vk), .int .i64 ((xs.getD i op0).vn), .string ((xs.getD i op0).vt), .int .i64 ((xs.getD i op0).count), .slice B_11 ((xs.getD i op0).attrs.length) c_12]) hk_17 0 #[.int .i64 ((xs.getD i op0).kind), .string ((xs.getD i op0).text), .int .i64 ((xs.getD i op0).vk), .int .i64 ((xs.getD i op0).vn), .string ((xs.getD i op0).vt), .int .i64 ((xs.getD i op0).count), .slice B_11 ((xs.getD i op0).attrs.length) c_12] (fun w_20 hg_21 hk_22 hz_23 => ?_)
  refine nl (sq (sq (X_region ?_)))
  have hpi := badE_getD hb (show i < xs.length by omega)
  have hsz1 := (hz i (by omega)).1
  refine xr 1 [(19, .load (.agg #[.int .i64 ((xs.getD i op0).kind), .string ((xs.getD i op0).text), .int .i64 ((xs.getD i op0).vk), .int .i64 ((xs.getD i op0).vn), .string ((xs.getD i op0).vt), .int .i64 ((xs.getD i op0).count), .slice B_11 ((xs.getD i op0).attrs.length) c_12]))] [(19, .agg #[.int .i64 ((xs.getD i op0).kind), .string ((xs.getD i op0).text), .int .i64 ((xs.getD i op0).vk), .int .i64 ((xs.getD i op0).vn), .string ((xs.getD i op0).vt), .int .i64 ((xs.getD i op0).count), .slice B_11 ((xs.getD i op0).attrs.length) c_12])] [18] [LoadsAs Tryd.prog 47 (⟨wl.heap.size, 0, none⟩) (.agg #[.int .i64 ((xs.getD i op0).kind), .string ((xs.getD i op0).text), .int .i64 ((xs.getD i op0).vk), .int .i64 ((xs.getD i op0).vn), .string ((xs.getD i op0).vt), .int .i64 ((xs.getD i op0).count), .slice B_11 ((xs.getD i op0).attrs.length) c_12]) w_20] ⟨loadsB rfl rfl hk_22 0 ⟨by kernel_rfl, by kernel_rfl⟩, trivial⟩ ?_
  refine xc 28 ent28 [.agg #[.int .i64 ((xs.getD i op0).kind), .string ((xs.getD i op0).text), .int .i64 ((xs.getD i op0).vk), .int .i64 ((xs.getD i op0).vn), .string ((xs.getD i op0).vt), .int .i64 ((xs.getD i op0).count), .slice B_11 ((xs.getD i op0).attrs.length) c_12]] (r6ins_any (xs.getD i op0) _ _ _ (Kd.C_below hC_14 (bg (bt HB hb_16) hg_21 (HB).size))) ?_
  rintro e w_24 ⟨rfl, hb_25⟩; refine ⟨_, rfl, ?_⟩
  refine nl ?_
  by_cases c_26 : decide (insO (xs.getD i op0)) = true
  ·have hins : (xs.getD i op0).kind = 1 ∨ (xs.getD i op0).kind = 2 := of_decide_eq_true c_26
   rw [show (decide (insO (xs.getD i op0)) : Bool) = true from by simpa using c_26]
   refine ct (sq (rg (xr 2 [(22, .load (.agg #[.int .i64 ((xs.getD i op0).kind), .string ((xs.getD i op0).text), .int .i64 ((xs.getD i op0).vk), .int .i64 ((xs.getD i op0).vn), .string ((xs.getD i op0).vt), .int .i64 ((xs.getD i op0).count), .slice B_11 ((xs.getD i op0).attrs.length) c_12]))] [(21, .slice Q out.length cq), (22, .agg #[.int .i64 ((xs.getD i op0).kind), .string ((xs.getD i op0).text), .int .i64 ((xs.getD i op0).vk), .int .i64 ((xs.getD i op0).vn), .string ((xs.getD i op0).vt), .int .i64 ((xs.getD i op0).count), .slice B_11 ((xs.getD i op0).attrs.length) c_12])] [6, 9, 19, 20] [LoadsAs Tryd.prog 47 (⟨wl.heap.size, 0, none⟩) (.agg #[.int .i64 ((xs.getD i op0).kind), .string ((xs.getD i op0).text), .int .i64 ((xs.getD i op0).vk), .int .i64 ((xs.getD i op0).vn), .string ((xs.getD i op0).vt), .int .i64 ((xs.getD i op0).count), .slice B_11 ((xs.getD i op0).attrs.length) c_12]) w_24] ⟨loadsB rfl rfl (Blk.below hk_22 hb_25) 0 ⟨by kernel_rfl, by kernel_rfl⟩, trivial⟩ ?_)))
   have hB_32 : Below w.heap.size w w_24 := (bt (bg (bt HB hb_16) hg_21 (HB).size) hb_25)
   refine xc 129 ent129 [.agg #[.int .i64 ((xs.getD i op0).kind), .string ((xs.getD i op0).text), .int .i64 ((xs.getD i op0).vk), .int .i64 ((xs.getD i op0).vn), .string ((xs.getD i op0).vt), .int .i64 ((xs.getD i op0).count), .slice B_11 ((xs.getD i op0).attrs.length) c_12]] (came_any (xs.getD i op0) _ _ w _ hB_32 hC_14 hl_13 (fun h_ => (B.ok_ins hpi (hins.resolve_right h_)).2.2.2.2.2.1) (hz i (by omega)).1) ?_
   rintro e w_29 ⟨A_27, c_28, rfl, hm_30, hb_31⟩; refine ⟨_, rfl, ?_⟩
   have hcl := B.came_len (o := (xs.getD i op0))
   have hB_33 : Below wl.heap.size wl w_29 := (bt (bt (bg hb_16 hg_21 (Nat.le_refl _)) hb_25) hb_31)
   obtain ⟨vs_34, hC_35, hK_36⟩ := MixK.all hm_30
   refine XL_appendMixJ (d := kCell) (W0 := w) (c' := c_28) (m := ((B.came (xs.getD i op0)).length)) cell0 rfl rfl rfl 126 (.agg #[.int .i32 0, .string ByteArray.empty, .int .i64 0, .int .i64 0, .string ByteArray.empty, .slice none 0 0]) 80 Tryd.underlying124 info126 rfl (by decide) (by omega) out (B.came (xs.getD i op0)) vs_34 (by kernel_rfl) (Mix.below hB_33 hm) hC_35 rfl (fun i_ hi_ => .inr (hK_36 i_ hi_)) ((bt hB_32 hb_31)).size (by omega) ?_
   intro A_37 c_38 w_39 hm_40 hg_41 hl_42
   obtain ⟨z_43, hz_44⟩ : ∃ z_, (out ++ (B.came (xs.getD i op0))) = z_ := ⟨_, rfl⟩; rw [hz_44] at hm_40 ⊢
   refine xr0 1 [(6, .slice A_37 z_43.length c_38)] [21, 22, 23, 24] ?_
   refine nl (X_exit (rg (xe 2 [(57, .eq (.int .i64 ((i : Int) + 1)))] [(1, .slice D cs.length dc), (6, .slice A_37 z_43.length c_38), (7, nv pt), (13, .slice A xs.length c), (14, .int .i64 (xs.length : Int)), (15, .int .i64 ((i : Int) + 1))] [Value.int .i64 (IntKind.i64.wrap ((i : Int) + 1)) = Value.int .i64 ((i : Int) + 1)] ⟨wr_i64 (by omega) (by omega), trivial⟩ ?_)))
   refine nl ?_
   have hB_45 : Below w.heap.size w w_39 := (bgo (bt hB_32 hb_31) hg_41 hl_42 (Nat.le_refl _))
   refine ⟨(i + 1, pt, z_43, A_37, c_38), by kernel_rfl, ?_, ?_⟩
   ·have he2 : B.edit xs cs = (B.edit (xs.drop (i + 1)) (cs.drop pt)).map (z_43 ++ ·) := by rw [← hz_44]; exact B.es_ins he (by omega) hins
    exact ⟨by omega, by omega, he2, by have h_ := congrArg List.length hz_44; rw [List.length_append] at h_; have h2_ := B.came_len (o := (xs.getD i op0)); omega, hm_40, hB_45⟩
   (try dsimp only); omega
  have hni : ¬ ((xs.getD i op0).kind = 1 ∨ (xs.getD i op0).kind = 2) := fun h_ => c_26 (decide_eq_true h_)
  have hrd : (xs.getD i op0).kind = 3 ∨ (xs.getD i op0).kind = 4 := by have h_ := kind_of_ok hpi; omega
  have hcnt := count_of_ok hpi hrd
  rw [show (decide (insO (xs.getD i op0)) : Bool) = false from by simpa using c_26]
  refine cf (sk (sq (sq (rg (xr 6 [(26, .load (.int .i64 ((xs.getD i op0).count))), (30, .eq (.int .i64 ((cs.length : Int) - (pt : Int))))] [(26, .int .i64 ((xs.getD i op0).count)), (30, .int .i64 ((cs.length : Int) - (pt : Int)))] [19, 20] [LoadsAs Tryd.prog 3 (⟨wl.heap.size, 5, none⟩) (.int .i64 ((xs.getD i op0).count)) w_24, Value.int .i64 (IntKind.i64.wrap ((cs.length : Int) - (pt : Int))) = Value.int .i64 ((cs.length : Int) - (pt : Int))] ⟨loads1 rfl (Blk.cell (Blk.below hk_22 hb_25) 5 _ rfl), wr_i64 (by omega) (by omega), trivial⟩ ?_)))))
  by_cases c_46 : (xs.getD i op0).count > (cs.length : Int) - (pt : Int)
  ·refine xr 1 [(31, .eq (.bool true))] [(31, .bool true)] [26, 30] [Value.bool (decide ((xs.getD i op0).count > (cs.length : Int) - (pt : Int))) = Value.bool true] ⟨congrArg Value.bool (decide_eq_true (c_46)), trivial⟩ ?_
   refine nl (ct (sq (rg (xe0 2 [(4, .slice none 0 0), (5, .bool false)] ?_))))
   refine nl (X_ret (rk [.slice none 0 0, .bool false] (hR_ _ _ ?_)))
   have hB_47 : Below w.heap.size w w_24 := (bt (bg (bt HB hb_16) hg_21 (HB).size) hb_25)
   exact ⟨.inr ⟨B.es_few he (by omega) hrd hpt (by omega), rfl⟩, hB_47⟩
  have hfew : ¬ (cs.length : Int) - (pt : Int) < (xs.getD i op0).count := by omega
  refine xr 1 [(31, .eq (.bool false))] [(31, .bool false)] [26, 30] [Value.bool (decide ((xs.getD i op0).count > (cs.length : Int) - (pt : Int))) = Value.bool false] ⟨congrArg Value.bool (decide_eq_false (c_46)), trivial⟩ ?_
  refine nl (cf (sk (sq (rg (xe0 1 [(1, .slice D cs.length dc), (6, .slice Q out.length cq), (7, nv pt), (9, pw wl.heap.size 0), (10, .int .i64 0), (13, .slice A xs.length c), (14, .int .i64 (xs.length : Int)), (15, nv i)] ?_)))))
  refine nl (X_block ?_)
  have hB_48 : Below wl.heap.size wl w_24 := (bt (bg hb_16 hg_21 (Nat.le_refl _)) hb_25)
  have hB_49 : Below w.heap.size w w_24 := (bt (bg (bt HB hb_16) hg_21 (HB).size) hb_25)
  refine X_loop (ι := Nat × Nat × List CellA × Option Addr × Nat) (fun ⟨k, p, out2, Q2, cq2⟩ => [(1, .slice D cs.length dc), (6, .slice Q2 out2.length cq2), (7, .int .i64 (p : Int)), (9, .pointer (some ⟨wl.heap.size, 0, none⟩)), (10, .int .i64 (k : Int)), (13, .slice A xs.length c), (14, .int .i64 (xs.length : Int)), (15, .int .i64 (i : Int))]) (fun ⟨k, p, out2, Q2, cq2⟩ wm => (k : Int) ≤ (xs.getD i op0).count ∧ p = pt + k ∧ out2 = (out ++ (if (xs.getD i op0).kind = 3 then ((cs.drop pt).take k).map (B.pat (xs.getD i op0).attrs) else [])) ∧ RX.Blk wm wl.heap.size 47 #[.int .i64 ((xs.getD i op0).kind), .string ((xs.getD i op0).text), .int .i64 ((xs.getD i op0).vk), .int .i64 ((xs.getD i op0).vn), .string ((xs.getD i op0).vt), .int .i64 ((xs.getD i op0).count), .slice B_11 ((xs.getD i op0).attrs.length) c_12] ∧ Mix kCell cell0 126 w wm Q2 out2.length cq2 out2 ∧ Below w.heap.size w wm) (fun ⟨k, p, out2, Q2, cq2⟩ => (xs.getD i op0).count.toNat - k) (0, pt, out, Q, cq) ⟨by omega, rfl, B.es_out out _ cs pt, (Blk.below hk_22 hb_25), (Mix.below hB_48 hm), hB_49⟩ (by kernel_rfl) ?_
  rintro ⟨k, p, out2, Q2, cq2⟩ wm ⟨hk0, hpp, hou, hk9, hm2, HB2⟩
  have hol2 := B.es_len (out := out) (cs := cs) (pt := pt) (c := (xs.getD i op0).kind = 3) (B.pat (xs.getD i op0).attrs) (k := k)
  rw [← hou] at hol2
  refine sq (sq (rg (xr 3 [(34, .load (.int .i64 ((xs.getD i op0).count)))] [(32, nv k), (34, .int .i64 ((xs.getD i op0).count))] [] [LoadsAs Tryd.prog 3 (⟨wl.heap.size, 5, none⟩) (.int .i64 ((xs.getD i op0).count)) wm] ⟨loads1 rfl (Blk.cell hk9 5 _ rfl), trivial⟩ ?_)))
  by_cases c_50 : (k : Int) < (xs.getD i op0).count
  ·refine xr 1 [(35, .eq (.bool true))] [(35, .bool true)] [32, 34] [Value.bool (decide ((k : Int) < (xs.getD i op0).count)) = Value.bool true] ⟨congrArg Value.bool (decide_eq_true (c_50)), trivial⟩ ?_
   refine nl (ct (sk (sq (bk (sq (rg (xr0 2 [(38, .slice D cs.length dc), (39, nv p)] [35] ?_)))))))
   obtain ⟨ad_51, B_54, c_55, ha_52, hc_53, hl_56, hC_57⟩ := C_cellK hd HB2 (i := (p : Int)) (by omega) (by omega)
   replace hc_53 : CellsAt wm (ad_51.add ((p : Int).toNat * 6)) [.int .i32 ((cs.getD p cell0).rune), .string ((cs.getD p cell0).kind), .int .i64 ((cs.getD p cell0).vk), .int .i64 ((cs.getD p cell0).vn), .string ((cs.getD p cell0).vt), .slice B_54 ((cs.getD p cell0).attrs.length) c_55] := hc_53
   replace hl_56 : (cs.getD p cell0).attrs.length ≤ c_55 := hl_56
   replace hC_57 : kAttr.C w B_54 ((cs.getD p cell0).attrs.length) (cs.getD p cell0).attrs := hC_57
   refine xw 3 [(40, .idx ad_51), (41, .load (.agg #[.int .i32 ((cs.getD p cell0).rune), .string ((cs.getD p cell0).kind), .int .i64 ((cs.getD p cell0).vk), .int .i64 ((cs.getD p cell0).vn), .string ((cs.getD p cell0).vt), .slice B_54 ((cs.getD p cell0).attrs.length) c_55]))] [(11, pw wm.heap.size 0), (41, .agg #[.int .i32 ((cs.getD p cell0).rune), .string ((cs.getD p cell0).kind), .int .i64 ((cs.getD p cell0).vk), .int .i64 ((cs.getD p cell0).vn), .string ((cs.getD p cell0).vt), .slice B_54 ((cs.getD p cell0).attrs.length) c_55])] [38, 39] (wm.alloc (.cells #[.int .i32 0, .string ByteArray.empty, .int .i64 0, .int .i64 0, .string ByteArray.empty, .slice none 0 0] 126)) [D = some ad_51, (0 : Int) ≤ (p : Int), (p : Int) < (cs.length : Int), LoadsAs Tryd.prog 126 (ad_51.add ((p : Int).toNat * 6)) (.agg #[.int .i32 ((cs.getD p cell0).rune), .string ((cs.getD p cell0).kind), .int .i64 ((cs.getD p cell0).vk), .int .i64 ((cs.getD p cell0).vn), .string ((cs.getD p cell0).vt), .slice B_54 ((cs.getD p cell0).attrs.length) c_55]) wm] ⟨ha_52, (by omega), (by omega), loadsE rfl rfl hc_53 0 ⟨by kernel_rfl, by kernel_rfl⟩, trivial⟩ ?_
   obtain ⟨w_58, hw_62, hb_59, hk_60, hz_61⟩ := new_world wm #[.int .i32 0, .string ByteArray.empty, .int .i64 0, .int .i64 0, .string ByteArray.empty, .slice none 0 0] 126
   rw [hw_62]
   refine xst (.agg #[.int .i32 ((cs.getD p cell0).rune), .string ((cs.getD p cell0).kind), .int .i64 ((cs.getD p cell0).vk), .int .i64 ((cs.getD p cell0).vn), .string ((cs.getD p cell0).vt), .slice B_54 ((cs.getD p cell0).attrs.length) c_55]) hk_60 0 #[.int .i32 ((cs.getD p cell0).rune), .string ((cs.getD p cell0).kind), .int .i64 ((cs.getD p cell0).vk), .int .i64 ((cs.getD p cell0).vn), .string ((cs.getD p cell0).vt), .slice B_54 ((cs.getD p cell0).attrs.length) c_55] (fun w_63 hg_64 hk_65 hz_66 => ?_)
   refine nl (sq (rg (xr 3 [(43, .eq (.int .i64 ((p : Int) + 1)))] [(7, .int .i64 ((p : Int) + 1))] [41] [Value.int .i64 (IntKind.i64.wrap ((p : Int) + 1)) = Value.int .i64 ((p : Int) + 1)] ⟨wr_i64 (by omega) (by omega), trivial⟩ ?_)))
   refine nl (sq (rg (xe 2 [(45, .load (.int .i64 ((xs.getD i op0).kind)))] [(1, .slice D cs.length dc), (6, .slice Q2 out2.length cq2), (7, .int .i64 ((p : Int) + 1)), (9, pw wl.heap.size 0), (10, nv k), (11, pw wm.heap.size 0), (13, .slice A xs.length c), (14, .int .i64 (xs.length : Int)), (15, nv i), (45, .int .i64 ((xs.getD i op0).kind))] [LoadsAs Tryd.prog 3 (⟨wl.heap.size, 0, none⟩) (.int .i64 ((xs.getD i op0).kind)) w_63] ⟨loads1 rfl (Blk.cell (Blk.below hk9 (bg hb_59 hg_64 (Nat.le_refl _))) 0 _ rfl), trivial⟩ ?_)))
   by_cases c_67 : (xs.getD i op0).kind = 3
   ·have hk3 : (xs.getD i op0).kind = 3 := c_67
    refine xr 1 [(46, .eq (.bool true))] [(46, .bool true)] [45] [Value.bool ((xs.getD i op0).kind == 3) = Value.bool true] ⟨congrArg Value.bool (beq_iff_eq.2 (c_67)), trivial⟩ ?_
    refine nl (ct (sq (rg (xr 4 [(48, .load (.slice B_54 ((cs.getD p cell0).attrs.length) c_55)), (50, .load (.slice B_11 ((xs.getD i op0).attrs.length) c_12))] [(48, .slice B_54 ((cs.getD p cell0).attrs.length) c_55), (50, .slice B_11 ((xs.getD i op0).attrs.length) c_12)] [46] [LoadsAs Tryd.prog 45 (⟨wm.heap.size, 5, none⟩) (.slice B_54 ((cs.getD p cell0).attrs.length) c_55) w_63, LoadsAs Tryd.prog 45 (⟨wl.heap.size, 6, none⟩) (.slice B_11 ((xs.getD i op0).attrs.length) c_12) w_63] ⟨loads1 rfl (Blk.cell hk_65 5 _ rfl), loads1 rfl (Blk.cell (Blk.below hk9 (bg hb_59 hg_64 (Nat.le_refl _))) 6 _ rfl), trivial⟩ ?_))))
    have hok3 := B.ok_ret hpi hk3
    refine xc 130 ent130 [.slice B_54 ((cs.getD p cell0).attrs.length) c_55, .slice B_11 ((xs.getD i op0).attrs.length) c_12] (patched_any _ _ _ _ (cs.getD p cell0).attrs (xs.getD i op0).attrs _ (Kd.C_below hC_57 (bg (bt HB2 hb_59) hg_64 (HB2).size)) (Kd.C_below hC_14 (bg (bt HB2 hb_59) hg_64 (HB2).size)) ((chkA_good _ _).1 (hcc p (by omega)).1).2 ((chkA_good _ _).1 hok3.2).2 hl_56 hl_13 (by have h1_ := (hcc p (by omega)).2; have h2_ := (hz i (by omega)).2.2.1; omega)) ?_
    rintro e w_70 ⟨A_68, c_69, _, rfl, hl_71, rfl, hc_72, hr_73, hb_74⟩; refine ⟨_, rfl, ?_⟩
    refine xr0 1 [(51, .slice A_68 ((comp (cmpF false) (cs.getD p cell0).attrs (xs.getD i op0).attrs).length) c_69), (52, pw wm.heap.size 5)] [48, 50] ?_
    refine xst (.slice A_68 ((comp (cmpF false) (cs.getD p cell0).attrs (xs.getD i op0).attrs).length) c_69) (Blk.below hk_65 hb_74) 5 #[.int .i32 ((cs.getD p cell0).rune), .string ((cs.getD p cell0).kind), .int .i64 ((cs.getD p cell0).vk), .int .i64 ((cs.getD p cell0).vn), .string ((cs.getD p cell0).vt), .slice A_68 ((comp (cmpF false) (cs.getD p cell0).attrs (xs.getD i op0).attrs).length) c_69] (fun w_75 hg_76 hk_77 hz_78 => ?_)
    have hr_79 := RX.Kd.R_past hr_73 hg_76 (Nat.lt_of_lt_of_le (Blk.lt hk_60) hg_64.size)
    refine nl (rg (xw 3 [(54, .load (.agg #[.int .i32 ((cs.getD p cell0).rune), .string ((cs.getD p cell0).kind), .int .i64 ((cs.getD p cell0).vk), .int .i64 ((cs.getD p cell0).vn), .string ((cs.getD p cell0).vt), .slice A_68 ((comp (cmpF false) (cs.getD p cell0).attrs (xs.getD i op0).attrs).length) c_69]))] [(53, .slice Q2 out2.length cq2), (55, .slice (some ⟨w_75.heap.size, 0, none⟩) 1 1)] [6, 11, 51, 52] (w_75.alloc (.cells #[.int .i32 ((cs.getD p cell0).rune), .string ((cs.getD p cell0).kind), .int .i64 ((cs.getD p cell0).vk), .int .i64 ((cs.getD p cell0).vn), .string ((cs.getD p cell0).vt), .slice A_68 ((comp (cmpF false) (cs.getD p cell0).attrs (xs.getD i op0).attrs).length) c_69] 126)) [LoadsAs Tryd.prog 126 (⟨wm.heap.size, 0, none⟩) (.agg #[.int .i32 ((cs.getD p cell0).rune), .string ((cs.getD p cell0).kind), .int .i64 ((cs.getD p cell0).vk), .int .i64 ((cs.getD p cell0).vn), .string ((cs.getD p cell0).vt), .slice A_68 ((comp (cmpF false) (cs.getD p cell0).attrs (xs.getD i op0).attrs).length) c_69]) w_75] ⟨loadsB rfl rfl hk_77 0 ⟨by kernel_rfl, by kernel_rfl⟩, trivial⟩ ?_))
    obtain ⟨w_80, hw_84, hb_81, hk_82, hz_83⟩ := new_world w_75 #[.int .i32 ((cs.getD p cell0).rune), .string ((cs.getD p cell0).kind), .int .i64 ((cs.getD p cell0).vk), .int .i64 ((cs.getD p cell0).vn), .string ((cs.getD p cell0).vt), .slice A_68 ((comp (cmpF false) (cs.getD p cell0).attrs (xs.getD i op0).attrs).length) c_69] 126
    rw [hw_84]
    have hB_85 : Below wm.heap.size wm w_80 := (bt (bg (bt (bg hb_59 hg_64 (Nat.le_refl _)) hb_74) hg_76 (Nat.le_refl _)) hb_81)
    have hR_86 := Kd.R_litB (kRaw 6) (W := w_75) (e := 126) (cs := #[.int .i32 ((cs.getD p cell0).rune), .string ((cs.getD p cell0).kind), .int .i64 ((cs.getD p cell0).vk), .int .i64 ((cs.getD p cell0).vn), .string ((cs.getD p cell0).vt), .slice A_68 ((comp (cmpF false) (cs.getD p cell0).attrs (xs.getD i op0).attrs).length) c_69]) [[.int .i32 ((cs.getD p cell0).rune), .string ((cs.getD p cell0).kind), .int .i64 ((cs.getD p cell0).vk), .int .i64 ((cs.getD p cell0).vn), .string ((cs.getD p cell0).vt), .slice A_68 ((comp (cmpF false) (cs.getD p cell0).attrs (xs.getD i op0).attrs).length) c_69]] hk_82 (rawL1 _ rfl (by kernel_rfl)) (Nat.le_of_ble_eq_true (by kernel_rfl))
    have hB_93 : Below w.heap.size w w_80 := (bt (bg (bt (bg (bt HB2 hb_59) hg_64 (HB2).size) hb_74) hg_76 (HB2).size) hb_81)
    refine XL_appendMixJ (d := kCell) (W0 := w) (c' := 1) (m := 1) cell0 rfl rfl rfl 126 (.agg #[.int .i32 0, .string ByteArray.empty, .int .i64 0, .int .i64 0, .string ByteArray.empty, .slice none 0 0]) 80 Tryd.underlying124 info126 rfl (by decide) (by omega) out2 ([(B.pat (xs.getD i op0).attrs (cs.getD p cell0))]) [[.int .i32 ((cs.getD p cell0).rune), .string ((cs.getD p cell0).kind), .int .i64 ((cs.getD p cell0).vk), .int .i64 ((cs.getD p cell0).vn), .string ((cs.getD p cell0).vt), .slice A_68 ((comp (cmpF false) (cs.getD p cell0).attrs (xs.getD i op0).attrs).length) c_69]] (by kernel_rfl) (Mix.below hB_85 hm2) (Kd.R_C hR_86) rfl (fun i_ hi_ => by have h_ : i_ = 0 := (by omega); subst h_; exact .inl (kCell_M (x := (B.pat (xs.getD i op0).attrs (cs.getD p cell0))) (Mix.apart (Kd.R_below hr_79 hb_81) ((bg (bt HB2 hb_59) hg_64 (HB2).size)).size (Mix.below hB_85 hm2) (by decide)))) (hB_93).size (by omega) ?_
    intro A_87 c_88 w_89 hm_90 hg_91 hl_92
    have hk_94 := Blk.off (Blk.below hk9 hB_85) hg_91 (Mix.blk_ne (Mix.below hB_85 hm2) (Blk.below hk9 hB_85) rfl)
    obtain ⟨z_95, hz_96⟩ : ∃ z_, (out2 ++ [(B.pat (xs.getD i op0).attrs (cs.getD p cell0))]) = z_ := ⟨_, rfl⟩; rw [hz_96] at hm_90 ⊢
    refine xr0 1 [(6, .slice A_87 z_95.length c_88)] [53, 55, 56] ?_
    refine nl (rg (xe 3 [(37, .eq (.int .i64 ((k : Int) + 1)))] [(1, .slice D cs.length dc), (6, .slice A_87 z_95.length c_88), (7, .int .i64 ((p : Int) + 1)), (9, pw wl.heap.size 0), (10, .int .i64 ((k : Int) + 1)), (13, .slice A xs.length c), (14, .int .i64 (xs.length : Int)), (15, nv i)] [Value.int .i64 (IntKind.i64.wrap ((k : Int) + 1)) = Value.int .i64 ((k : Int) + 1)] ⟨wr_i64 (by omega) (by omega), trivial⟩ ?_))
    refine nl ?_
    refine ⟨(k + 1, p + 1, z_95, A_87, c_88), by kernel_rfl, ?_, ?_⟩
    ·have ho2 : z_95 = (out ++ (if (xs.getD i op0).kind = 3 then ((cs.drop pt).take (k + 1)).map (B.pat (xs.getD i op0).attrs) else [])) := by rw [← hz_96, ← B.es_one hk3 _ hpp (by omega), ← hou]
     exact ⟨by omega, by omega, ho2, hk_94, hm_90, (bgo hB_93 hg_91 hl_92 (Nat.le_refl _))⟩
    (try dsimp only); omega
   have hk3 : ¬ ((xs.getD i op0).kind = 3) := c_67
   refine xr 1 [(46, .eq (.bool false))] [(46, .bool false)] [45] [Value.bool ((xs.getD i op0).kind == 3) = Value.bool false] ⟨congrArg Value.bool (beq_eq_false_iff_ne.2 (c_67)), trivial⟩ ?_
   refine nl (cf (sk (rg (xr 3 [(37, .eq (.int .i64 ((k : Int) + 1)))] [(10, .int .i64 ((k : Int) + 1))] [11, 46] [Value.int .i64 (IntKind.i64.wrap ((k : Int) + 1)) = Value.int .i64 ((k : Int) + 1)] ⟨wr_i64 (by omega) (by omega), trivial⟩ ?_))))
   refine nl ?_
   refine ⟨(k + 1, p + 1, out2, Q2, cq2), by kernel_rfl, ?_, ?_⟩
   ·have ho2 : out2 = (out ++ (if (xs.getD i op0).kind = 3 then ((cs.drop pt).take (k + 1)).map (B.pat (xs.getD i op0).attrs) else [])) := by rw [← B.es_none hk3, ← hou]
    exact ⟨by omega, by omega, ho2, (Blk.below hk9 (bg hb_59 hg_64 (Nat.le_refl _))), (Mix.below (bg hb_59 hg_64 (Nat.le_refl _)) hm2), (bg (bt HB2 hb_59) hg_64 (HB2).size)⟩
   (try dsimp only); omega
  refine xr 1 [(35, .eq (.bool false))] [(35, .bool false)] [32, 34] [Value.bool (decide ((k : Int) < (xs.getD i op0).count)) = Value.bool false] ⟨congrArg Value.bool (decide_eq_false (c_50)), trivial⟩ ?_
  refine nl (cf (X_exit (rg (xr 2 [(57, .eq (.int .i64 ((i : Int) + 1)))] [(15, .int .i64 ((i : Int) + 1))] [9, 10, 35] [Value.int .i64 (IntKind.i64.wrap ((i : Int) + 1)) = Value.int .i64 ((i : Int) + 1)] ⟨wr_i64 (by omega) (by omega), trivial⟩ ?_))))
  refine nl ?_
  refine ⟨(i + 1, p, out2, Q2, cq2), by kernel_rfl, ?_, ?_⟩
  ·have he2 : B.edit xs cs = (B.edit (xs.drop (i + 1)) (cs.drop p)).map (out2 ++ ·) := by rw [hou, hpp]; exact B.es_cnt he (by omega) hrd hpt hfew (by omega)
   exact ⟨by omega, by omega, he2, by have h_ := B.es_len (out := out) (cs := cs) (pt := pt) (c := (xs.getD i op0).kind = 3) (B.pat (xs.getD i op0).attrs) (k := k); rw [← hou] at h_; omega, hm2, HB2⟩
  (try dsimp only); omega
 refine xr 1 [(16, .eq (.bool false))] [(16, .bool false)] [] [Value.bool (decide ((i : Int) < (xs.length : Int))) = Value.bool false] ⟨congrArg Value.bool (decide_eq_false (c_7)), trivial⟩ ?_
 refine nl (sq (cf (X_exit (sq (X_region ?_)))))
 obtain ⟨A_97, hA_98⟩ : ∃ A_, (if dc = pt then D else D.map (·.add (pt * 6))) = A_ := ⟨_, rfl⟩
 have hC_99 : kCell.C w A_97 (cs.length - pt) (cs.drop pt) := by have h := RX.Kd.C_drop hd (k := pt) (cap := dc) (by omega) (by omega); first | (rw [← hA_98]; exact h)
 refine xe 4 [(61, .as (.slice A_97 (cs.length - pt) (dc - pt)))] [(58, .slice Q out.length cq), (61, .slice A_97 (cs.length - pt) (dc - pt))] [RunsAs Tryd.prog [(59, .slice D cs.length dc), (60, .int .i64 (pt : Int))] (Go.Op.slice 124 (Go.Operand.tmp 59) (some (Go.Operand.tmp 60)) none none) 124 (.slice A_97 (cs.length - pt) (dc - pt)) wl] ⟨(hA_98 ▸ runs_slice_l (h := (pt : Int)) rfl rfl rfl rfl (by omega) (by omega) (by omega)), trivial⟩ ?_
 obtain ⟨vs_100, hC_101, hK_102⟩ := Kd.C_raw (d := kCell) cell0 hC_99
 refine XL_appendMixJ (d := kCell) (W0 := w) (c' := (dc - pt)) (m := (cs.length - pt)) cell0 rfl rfl rfl 126 (.agg #[.int .i32 0, .string ByteArray.empty, .int .i64 0, .int .i64 0, .string ByteArray.empty, .slice none 0 0]) 80 Tryd.underlying124 info126 rfl (by decide) (by omega) out (cs.drop pt) vs_100 (by kernel_rfl) hm (Kd.C_below hC_101 HB) (List.length_drop ..) (fun i_ hi_ => .inr (hK_102 i_ hi_)) (HB).size (by omega) ?_
 intro A_103 c_104 w_105 hm_106 hg_107 hl_108
 obtain ⟨z_109, hz_110⟩ : ∃ z_, (out ++ (cs.drop pt)) = z_ := ⟨_, rfl⟩; rw [hz_110] at hm_106 ⊢
 refine xe0 2 [(4, .slice A_103 z_109.length c_104), (5, .bool true)] ?_
 refine nl (X_ret (rk [.slice A_103 z_109.length c_104, .bool true] (hR_ _ _ ?_)))
 have hee := B.es_end he (by omega)
 rw [hz_110] at hee
 exact ⟨.inl ⟨_, _, _, hee, rfl, Mix.C (bgo HB hg_107 hl_108 (Nat.le_refl _)) hm_106⟩, (bgo HB hg_107 hl_108 (Nat.le_refl _))⟩
end Go.Proofs.YtkehomiogkoomaaDoor
