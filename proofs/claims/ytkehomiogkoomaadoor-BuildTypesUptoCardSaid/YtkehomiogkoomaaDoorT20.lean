/- Pieces of good operations, each with memory of its own. Conditions: sizes, the tables of utf8, the errors' variables. -/
import Derived.Test.YtkehomiogkoomaaDoorT7
import Derived.Test.YtkehomiogkoomaaDoorPap
set_option linter.unusedVariables false
set_option linter.unusedSimpArgs false
set_option maxRecDepth 100000
namespace Go.Proofs.YtkehomiogkoomaaDoor
open Go Go.RowKit Go.Proofs.YtkehomiogkoomaaDoorW.PrintWords RX
theorem kPiece_E : kPiece.E.contains 84 = false := by decide
set_option maxHeartbeats 2000000 in
theorem ofAp_any (A : Option Addr) (c : Nat) (xs : List OpA) (w : World) (hx : kOp.C w A xs.length xs) (hb : badE xs = 0) (hn : xs.length ≤ 1100000) (hz : ∀ i, i < xs.length → opSz (xs.getD i op0)) (hT : Tabs w) (es : List Addr) (hE : ErrsO w es) : Calls Tryd.prog 114 #[.slice A xs.length c] w fun e w' => ∃ A' c' T vs lo hi, e = .returned (.tuple #[.slice A' (List.map pOf xs).length c', .int .i64 0, .nilIface]) ∧ PAp 84 w.heap.size T vs lo hi w' A' (List.map pOf xs).length c' (List.map pOf xs) 0 ∧ Below w.heap.size w w' := by
 have hpl : xs.length ≤ 9223372036854775807 := hx.2.1
 refine RX.enter Tryd.func114 rfl 32 rfl [(0, .slice A xs.length c)] rfl (by kernel_rfl) (fun R_ hR_ => ?_)
 refine sq (rg (xe0 3 [(0, .slice A xs.length c)] ?_))
 refine nl (sq (rg (xr0 1 [(5, .slice none 0 0)] [] ?_)))
 refine nl (sq (sq (rg (xr0 3 [(10, .slice A xs.length c), (11, .int .i64 (xs.length : Int)), (12, .int .i64 0)] [0] ?_))))
 refine nl (bk (X_loop (ι := Nat × Nat × List (List Value) × (Nat → Nat) × (Nat → Nat) × Option Addr × Nat) (fun ⟨i, T, vs, lo, hi_, A5, c5⟩ => [(5, .slice A5 (((xs.take i).map pOf).length) c5), (10, .slice A xs.length c), (11, .int .i64 (xs.length : Int)), (12, .int .i64 (i : Int))]) (fun ⟨i, T, vs, lo, hi_, A5, c5⟩ wl => i ≤ xs.length ∧ PAp 84 w.heap.size T vs lo hi_ wl A5 ((xs.take i).map pOf).length c5 ((xs.take i).map pOf) 0 ∧ w.heap.size ≤ T ∧ Below w.heap.size w wl) (fun ⟨i, T, vs, lo, hi_, A5, c5⟩ => xs.length - i) (0, w.heap.size, [], (fun _ => 0), (fun _ => 0), none, 0) ⟨Nat.zero_le _, PAp.nil ((Nat.le_refl _)), Nat.le_refl _, (Below.refl _ _)⟩ (by kernel_rfl) ?_))
 rintro ⟨i, T, vs, lo, hi_, A5, c5⟩ wl ⟨hi, hp, hT0, HB⟩
 have hTl := hp.t
 refine sq (X_region ?_)
 by_cases c_1 : (i : Int) < (xs.length : Int)
 ·refine xr 1 [(13, .eq (.bool true))] [(13, .bool true)] [] [Value.bool (decide ((i : Int) < (xs.length : Int))) = Value.bool true] ⟨congrArg Value.bool (decide_eq_true (c_1)), trivial⟩ ?_
  refine nl (sq (ct (sk (sq (bk (sq (rg (xr0 1 [(14, nv i)] [13] ?_))))))))
  obtain ⟨ad_2, B_5, c_6, ha_3, hc_4, hl_7, hC_8⟩ := Kd.atOp (Kd.C_below hx HB) (i := (i : Int)) (by omega) (by omega)
  replace hc_4 : CellsAt wl (ad_2.add ((i : Int).toNat * 7)) [.int .i64 ((xs.getD i op0).kind), .string ((xs.getD i op0).text), .int .i64 ((xs.getD i op0).vk), .int .i64 ((xs.getD i op0).vn), .string ((xs.getD i op0).vt), .int .i64 ((xs.getD i op0).count), .slice B_5 ((xs.getD i op0).attrs.length) c_6] := hc_4
  replace hl_7 : (xs.getD i op0).attrs.length ≤ c_6 := hl_7
  replace hC_8 : kAttr.C wl B_5 ((xs.getD i op0).attrs.length) (xs.getD i op0).attrs := hC_8
  refine xw 3 [(15, .idx ad_2), (16, .load (.agg #[.int .i64 ((xs.getD i op0).kind), .string ((xs.getD i op0).text), .int .i64 ((xs.getD i op0).vk), .int .i64 ((xs.getD i op0).vn), .string ((xs.getD i op0).vt), .int .i64 ((xs.getD i op0).count), .slice B_5 ((xs.getD i op0).attrs.length) c_6]))] [(7, pw wl.heap.size 0), (16, .agg #[.int .i64 ((xs.getD i op0).kind), .string ((xs.getD i op0).text), .int .i64 ((xs.getD i op0).vk), .int .i64 ((xs.getD i op0).vn), .string ((xs.getD i op0).vt), .int .i64 ((xs.getD i op0).count), .slice B_5 ((xs.getD i op0).attrs.length) c_6])] [] (wl.alloc (.cells #[.int .i64 0, .string ByteArray.empty, .int .i64 0, .int .i64 0, .string ByteArray.empty, .int .i64 0, .slice none 0 0] 47)) [A = some ad_2, (0 : Int) ≤ (i : Int), (i : Int) < (xs.length : Int), LoadsAs Tryd.prog 47 (ad_2.add ((i : Int).toNat * 7)) (.agg #[.int .i64 ((xs.getD i op0).kind), .string ((xs.getD i op0).text), .int .i64 ((xs.getD i op0).vk), .int .i64 ((xs.getD i op0).vn), .string ((xs.getD i op0).vt), .int .i64 ((xs.getD i op0).count), .slice B_5 ((xs.getD i op0).attrs.length) c_6]) wl] ⟨ha_3, (by omega), (by omega), loadsE rfl rfl hc_4 0 ⟨by kernel_rfl, by kernel_rfl⟩, trivial⟩ ?_
  obtain ⟨w_9, hw_13, hb_10, hk_11, hz_12⟩ := new_world wl #[.int .i64 0, .string ByteArray.empty, .int .i64 0, .int .i64 0, .string ByteArray.empty, .int .i64 0, .slice none 0 0] 47
  rw [hw_13]
  refine xr0 1 [(6, nv i)] [14] ?_
  refine xst (.agg #[.int .i64 ((xs.getD i op0).kind), .string ((xs.getD i op0).text), .int .i64 ((xs.getD i op0).vk), .int .i64 ((xs.getD i op0).vn), .string ((xs.getD i op0).vt), .int .i64 ((xs.getD i op0).count), .slice B_5 ((xs.getD i op0).attrs.length) c_6]) hk_11 0 #[.int .i64 ((xs.getD i op0).kind), .string ((xs.getD i op0).text), .int .i64 ((xs.getD i op0).vk), .int .i64 ((xs.getD i op0).vn), .string ((xs.getD i op0).vt), .int .i64 ((xs.getD i op0).count), .slice B_5 ((xs.getD i op0).attrs.length) c_6] (fun w_14 hg_15 hk_16 hz_17 => ?_)
  refine nl (sq (rg (xr 1 [(18, .load (.agg #[.int .i64 ((xs.getD i op0).kind), .string ((xs.getD i op0).text), .int .i64 ((xs.getD i op0).vk), .int .i64 ((xs.getD i op0).vn), .string ((xs.getD i op0).vt), .int .i64 ((xs.getD i op0).count), .slice B_5 ((xs.getD i op0).attrs.length) c_6]))] [(18, .agg #[.int .i64 ((xs.getD i op0).kind), .string ((xs.getD i op0).text), .int .i64 ((xs.getD i op0).vk), .int .i64 ((xs.getD i op0).vn), .string ((xs.getD i op0).vt), .int .i64 ((xs.getD i op0).count), .slice B_5 ((xs.getD i op0).attrs.length) c_6])] [7, 16] [LoadsAs Tryd.prog 47 (⟨wl.heap.size, 0, none⟩) (.agg #[.int .i64 ((xs.getD i op0).kind), .string ((xs.getD i op0).text), .int .i64 ((xs.getD i op0).vk), .int .i64 ((xs.getD i op0).vn), .string ((xs.getD i op0).vt), .int .i64 ((xs.getD i op0).count), .slice B_5 ((xs.getD i op0).attrs.length) c_6]) w_14] ⟨loadsB rfl rfl hk_16 0 ⟨by kernel_rfl, by kernel_rfl⟩, trivial⟩ ?_)))
  refine xc 154 ent154 [.agg #[.int .i64 ((xs.getD i op0).kind), .string ((xs.getD i op0).text), .int .i64 ((xs.getD i op0).vk), .int .i64 ((xs.getD i op0).vn), .string ((xs.getD i op0).vt), .int .i64 ((xs.getD i op0).count), .slice B_5 ((xs.getD i op0).attrs.length) c_6]] (piece_any (xs.getD i op0) _ _ _ (Kd.C_below hC_8 (bg hb_10 hg_15 (Nat.le_refl _))) (hz i (by omega)) (hT.below (bg (bt HB hb_10) hg_15 (HB).size)) es (hE.below (bg (bt HB hb_10) hg_15 (HB).size))) ?_
  rintro e w_21 ⟨v_18, rfl, hM_19, hN_20, hb_22⟩; refine ⟨_, rfl, ?_⟩
  have hpe := badE_getD hb (show i < xs.length by omega)
  have hm_25 := hM_19 hpe
  obtain ⟨T_23, u_24, rfl⟩ := kPiece_iface (kPiece.K_of_M hm_25)
  rw [hpe, errV_zero]
  refine xe0 5 [(5, .slice A5 (((xs.take i).map pOf).length) c5), (6, nv i), (8, .iface T_23 u_24), (9, .nilIface), (10, .slice A xs.length c), (11, .int .i64 (xs.length : Int)), (12, nv i)] ?_
  refine nl (sq (sq (rg (xr0 2 [(23, .bool false)] [] ?_))))
  refine nl (cf (sk (rg (xw 3 [] [(26, .slice A5 (((xs.take i).map pOf).length) c5), (28, .slice (some ⟨w_21.heap.size, 0, none⟩) 1 1)] [5, 6, 8, 9, 23] (w_21.alloc (.cells #[.iface T_23 u_24] 84)) [] trivial ?_))))
  obtain ⟨w_26, hw_30, hb_27, hk_28, hz_29⟩ := new_world w_21 #[.iface T_23 u_24] 84
  rw [hw_30]
  rw [← hw_30]
  have hB_40 : Below wl.heap.size wl w_21 := (bt (bg hb_10 hg_15 (Nat.le_refl _)) hb_22)
  refine XL_appendPAp rfl rfl rfl 84 .nilIface Tryd.underlying80 info84 rfl (ps := (xs.take i).map pOf) (L := w_14.heap.size) (pOf (xs.getD i op0)) (.iface T_23 u_24) (by kernel_rfl) (PAp.below hp hB_40) kPiece_E (Nat.le_trans hTl ((bg hb_10 hg_15 (Nat.le_refl _))).size) (hb_22).size hT0 hm_25 (by rw [List.length_map, List.length_take]; omega) ?_
  intro A_31 c_32 w_33 vs_34 lo_35 hi_36 hp_37 hg_38 hl_39
  rw [map_take_snoc xs i (by omega)] at hp_37 ⊢
  have hB_41 : Below w.heap.size w w_21 := (bt (bg (bt HB hb_10) hg_15 (HB).size) hb_22)
  refine xr0 1 [(5, .slice A_31 (((xs.take (i + 1)).map pOf).length) c_32)] [26, 28, 29] ?_
  refine nl (rg (xr 2 [(30, .eq (.int .i64 ((i : Int) + 1)))] [(12, .int .i64 ((i : Int) + 1))] [] [Value.int .i64 (IntKind.i64.wrap ((i : Int) + 1)) = Value.int .i64 ((i : Int) + 1)] ⟨wr_i64 (by omega) (by omega), trivial⟩ ?_))
  refine nl ?_
  refine ⟨(i + 1, w_21.heap.size, vs_34, lo_35, hi_36, A_31, c_32), by kernel_rfl, ?_, ?_⟩
  ·exact ⟨by omega, hp_37, (hB_41).size, (bgo hB_41 hg_38 hl_39 (Nat.le_refl _))⟩
  (try dsimp only); omega
 refine xr 1 [(13, .eq (.bool false))] [(13, .bool false)] [] [Value.bool (decide ((i : Int) < (xs.length : Int))) = Value.bool false] ⟨congrArg Value.bool (decide_eq_false (c_1)), trivial⟩ ?_
 refine nl (sq (cf (X_exit (sq (rg (xe0 4 [(2, .slice A5 (((xs.take i).map pOf).length) c5), (3, .int .i64 0), (4, .nilIface)] ?_))))))
 refine nl (X_ret (rk [.slice A5 (((xs.take i).map pOf).length) c5, .int .i64 0, .nilIface] (hR_ _ _ ?_)))
 have hxi : xs.take i = xs := List.take_of_length_le (by omega)
 rw [hxi] at hp ⊢
 exact ⟨A5, c5, T, vs, lo, hi_, rfl, hp, HB⟩
theorem dpiecesAp_any (d : Nat) (xs : List OpA) (w : World) (hd : DeltaC w d xs) (hb : badE xs = 0) (hn : xs.length ≤ 1100000) (hz : ∀ i, i < xs.length → opSz (xs.getD i op0)) (hT : Tabs w) (es : List Addr) (hE : ErrsO w es) : Calls Tryd.prog 48 #[.pointer (some ⟨d, 0, none⟩)] w fun e w' => ∃ A' c' T vs lo hi, e = .returned (.slice A' (List.map pOf xs).length c') ∧ PAp 84 w.heap.size T vs lo hi w' A' (List.map pOf xs).length c' (List.map pOf xs) 0 ∧ Below w.heap.size w w' := by
 refine RX.enter Tryd.func48 rfl 16 rfl [(0, .pointer (some ⟨d, 0, none⟩))] rfl (by kernel_rfl) (fun R_ hR_ => ?_)
 refine sq (rg (xe0 1 [(0, pw d 0)] ?_))
 refine nl (sq (rg (xe0 1 [(7, pw d 0)] ?_)))
 refine xc 27 ent27 [.pointer (some ⟨d, 0, none⟩)] (dops_any _ xs _ hd hb hn hz) ?_
 rintro e w_3 ⟨A_1, c_2, rfl, hl_4, hr_5, hb_6⟩; refine ⟨_, rfl, ?_⟩
 refine xc 114 ent114 [.slice A_1 xs.length c_2] (ofAp_any _ _ xs _ (Kd.R_C hr_5) hb hn hz (hT.below hb_6) es (hE.below hb_6)) ?_
 rintro e w_9 ⟨A_7, c_8, T, vs, lo, hi, rfl, hp_10, hb_11⟩; refine ⟨_, rfl, ?_⟩
 refine xe0 7 [(3, .slice A_7 ((List.map pOf xs).length) c_8), (5, .nilIface)] ?_
 refine nl (sq (sq (rg (xr0 2 [(14, .bool false)] [5] ?_))))
 refine nl (cf (sk (sq (rg (xe0 2 [(2, .slice A_7 ((List.map pOf xs).length) c_8)] ?_)))))
 refine nl (X_ret (rk [.slice A_7 ((List.map pOf xs).length) c_8] (hR_ _ _ ?_)))
 exact ⟨_, _, T, vs, lo, hi, rfl, PAp.low hp_10 (hb_6).size, (bt hb_6 hb_11)⟩
end Go.Proofs.YtkehomiogkoomaaDoor
