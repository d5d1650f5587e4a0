import Derived.Test.YtkehomiogkoomaaDoorT32
import Derived.Test.YtkehomiogkoomaaDoorHandC
import Derived.Test.YtkehomiogkoomaaDoorT13
/- What the laws of layer cells share. Conditions: sizes, the tables of utf8, the errors' variables. -/
set_option linter.unusedVariables false
set_option linter.unusedSimpArgs false
set_option maxRecDepth 100000
namespace Go.Proofs.YtkehomiogkoomaaDoor
open Go Go.RowKit Go.Proofs.YtkehomiogkoomaaDoorW.PrintWords RX
theorem ent72 : Ent Tryd.prog 72 := ent_of Tryd.func72 (by kernel_rfl) rfl
theorem ent71 : Ent Tryd.prog 71 := ent_of Tryd.func71 (by kernel_rfl) rfl
theorem ent70 : Ent Tryd.prog 70 := ent_of Tryd.func70 (by kernel_rfl) rfl
theorem ent78 : Ent Tryd.prog 78 := ent_of Tryd.func78 (by kernel_rfl) rfl
theorem infoHc : (Tryd.prog.info? 126).map (fun i => (i.zero, i.size, i.bytes)) = some (some (.agg #[.int .i32 0, .string ByteArray.empty, .int .i64 0, .int .i64 0, .string ByteArray.empty, .slice none 0 0]), 6, 80) := by kernel_rfl
set_option maxHeartbeats 2000000 in
theorem own9_any (A : Option Addr) (c : Nat) (cs : List CellA) (w : World) (hx : kCell.C w A cs.length cs) (hn : cs.length ≤ 1048576) (hz : ∀ i, i < cs.length → B.cellSz (cs.getD i cell0)) : Calls Tryd.prog 72 #[.slice A cs.length c] w fun e w' => ∃ A' c', e = .returned (.slice A' cs.length c') ∧ cs.length ≤ c' ∧ kCellH.R 126 w' w.heap.size (OkFrom w.heap.size) (.slice A' cs.length c') cs ∧ Below w.heap.size w w' := by
 have hpl : cs.length ≤ 9223372036854775807 := hx.2.1
 refine RX.enter Tryd.func72 rfl 23 rfl [(0, .slice A cs.length c)] rfl (by kernel_rfl) (fun R_ hR_ => ?_)
 refine sq (rg (xe0 1 [(0, .slice A cs.length c)] ?_))
 refine nl (sq (rg (xw 1 [] [(6, .slice (some ⟨w.heap.size, 0, none⟩) 0 0)] [] (w.alloc (.cells #[] 126)) [] trivial ?_)))
 obtain ⟨w_1, hw_5, hb_2, hk_3, hz_4⟩ := new_world w #[] 126
 rw [hw_5]
 refine xr0 1 [(3, .slice (some ⟨w.heap.size, 0, none⟩) 0 0)] [6] ?_
 refine nl (sq (sq (rg (xr0 3 [(7, .slice A cs.length c), (8, .int .i64 (cs.length : Int)), (9, .int .i64 0)] [0] ?_))))
 refine nl (X_block ?_)
 have hr_6 := Kd.R_litB kCellH (W := w) (e := 126) (cs := #[]) [] hk_3 (repsCellH0) (Nat.le_of_ble_eq_true (by kernel_rfl))
 refine X_loop (ι := Nat × Option Addr × Nat × List CellA) (fun ⟨i, A3, c3, zs3⟩ => [(3, .slice A3 zs3.length c3), (7, .slice A cs.length c), (8, .int .i64 (cs.length : Int)), (9, .int .i64 (i : Int))]) (fun ⟨i, A3, c3, zs3⟩ wl => i ≤ cs.length ∧ zs3 = cs.take i ∧ kCellH.R 126 wl w.heap.size (OkFrom w.heap.size) (.slice A3 zs3.length c3) zs3 ∧ w.heap.size ≤ wl.heap.size ∧ Below w.heap.size w wl) (fun ⟨i, A3, c3, zs3⟩ => cs.length - i) (0, (some ⟨w.heap.size, 0, none⟩), 0, []) ⟨by omega, rfl, hr_6, (hb_2).size, hb_2⟩ (by kernel_rfl) ?_
 rintro ⟨i, A3, c3, zs3⟩ wl ⟨hi, he3, hr3, hle3, HB⟩
 have hzl : zs3.length = min i cs.length := by rw [he3, List.length_take]
 have hatl := fun (h_ : i < cs.length) => (hz i h_).2.2.1
 refine sq (X_region ?_)
 by_cases c_7 : (i : Int) < (cs.length : Int)
 ·refine xr 1 [(10, .eq (.bool true))] [(10, .bool true)] [] [Value.bool (decide ((i : Int) < (cs.length : Int))) = Value.bool true] ⟨congrArg Value.bool (decide_eq_true (c_7)), trivial⟩ ?_
  refine nl (sq (ct (sk (sq (bk (sq (X_region ?_)))))))
  obtain ⟨ad_8, B_11, c_12, ha_9, hc_10, hl_13, hC_14⟩ := Kd.atCell (Kd.C_below hx HB) (i := (i : Int)) (by omega) (by omega)
  replace hc_10 : CellsAt wl (ad_8.add ((i : Int).toNat * 6)) (c6L (cs.getD i cell0) (.slice B_11 ((cs.getD i cell0).attrs.length) c_12)) := hc_10
  replace hl_13 : (cs.getD i cell0).attrs.length ≤ c_12 := hl_13
  replace hC_14 : kAttr.C wl B_11 ((cs.getD i cell0).attrs.length) (cs.getD i cell0).attrs := hC_14
  refine xw 3 [(11, .idx ad_8), (12, .load (.agg (c6A (cs.getD i cell0) (.slice B_11 ((cs.getD i cell0).attrs.length) c_12))))] [(5, pw wl.heap.size 0), (12, .agg (c6A (cs.getD i cell0) (.slice B_11 ((cs.getD i cell0).attrs.length) c_12)))] [10] (wl.alloc (.cells #[.int .i32 0, .string ByteArray.empty, .int .i64 0, .int .i64 0, .string ByteArray.empty, .slice none 0 0] 126)) [A = some ad_8, (0 : Int) ≤ (i : Int), (i : Int) < (cs.length : Int), LoadsAs Tryd.prog 126 (ad_8.add ((i : Int).toNat * 6)) (.agg (c6A (cs.getD i cell0) (.slice B_11 ((cs.getD i cell0).attrs.length) c_12))) wl] ⟨ha_9, (by omega), (by omega), loadsE rfl rfl hc_10 0 ⟨by kernel_rfl, by kernel_rfl⟩, trivial⟩ ?_
  obtain ⟨w_15, hw_19, hb_16, hk_17, hz_18⟩ := new_world wl #[.int .i32 0, .string ByteArray.empty, .int .i64 0, .int .i64 0, .string ByteArray.empty, .slice none 0 0] 126
  rw [hw_19]
  refine xst (.agg (c6A (cs.getD i cell0) (.slice B_11 ((cs.getD i cell0).attrs.length) c_12))) hk_17 0 (c6A (cs.getD i cell0) (.slice B_11 ((cs.getD i cell0).attrs.length) c_12)) (fun w_20 hg_21 hk_22 hz_23 => ?_)
  refine nl (sq (rg (xr 2 [(14, .load (.slice B_11 ((cs.getD i cell0).attrs.length) c_12))] [(14, .slice B_11 ((cs.getD i cell0).attrs.length) c_12)] [12] [LoadsAs Tryd.prog 45 (⟨wl.heap.size, 5, none⟩) (.slice B_11 ((cs.getD i cell0).attrs.length) c_12) w_20] ⟨loads1 rfl (Blk.cell hk_22 5 _ rfl), trivial⟩ ?_)))
  refine xc 31 ent31 [.slice B_11 ((cs.getD i cell0).attrs.length) c_12] (hAttrs_any _ _ ((cs.getD i cell0).attrs) _ (Kd.C_below hC_14 (bg hb_16 hg_21 (Nat.le_refl _))) (by omega)) ?_
  rintro e w_26 ⟨A_24, c_25, rfl, hM_28, hb_27⟩; refine ⟨_, rfl, ?_⟩
  refine xr0 1 [(15, .slice A_24 ((cs.getD i cell0).attrs.length) c_25), (16, pw wl.heap.size 5)] [14] ?_
  refine xst (.slice A_24 ((cs.getD i cell0).attrs.length) c_25) (Blk.below hk_22 hb_27) 5 (c6A (cs.getD i cell0) (.slice A_24 ((cs.getD i cell0).attrs.length) c_25)) (fun w_29 hg_30 hk_31 hz_32 => ?_)
  refine nl (rg (xw 3 [(18, .load (.agg (c6A (cs.getD i cell0) (.slice A_24 ((cs.getD i cell0).attrs.length) c_25))))] [(17, .slice A3 zs3.length c3), (19, .slice (some ⟨w_29.heap.size, 0, none⟩) 1 1)] [3, 5, 15, 16] (w_29.alloc (.cells (c6A (cs.getD i cell0) (.slice A_24 ((cs.getD i cell0).attrs.length) c_25)) 126)) [LoadsAs Tryd.prog 126 (⟨wl.heap.size, 0, none⟩) (.agg (c6A (cs.getD i cell0) (.slice A_24 ((cs.getD i cell0).attrs.length) c_25))) w_29] ⟨loadsB rfl rfl hk_31 0 ⟨by kernel_rfl, by kernel_rfl⟩, trivial⟩ ?_))
  obtain ⟨w_33, hw_37, hb_34, hk_35, hz_36⟩ := new_world w_29 (c6A (cs.getD i cell0) (.slice A_24 ((cs.getD i cell0).attrs.length) c_25)) 126
  rw [hw_37]
  have hB_41 : Below wl.heap.size wl w_29 := (bg (bt (bg hb_16 hg_21 (Nat.le_refl _)) hb_27) hg_30 (Nat.le_refl _))
  obtain ⟨okp_38, hM_39, hok_40⟩ := Kd.M_apart (Kd.M_past hM_28 hg_30 (Nat.lt_of_lt_of_le (Blk.lt hk_17) hg_21.size)) ((bg (bt HB hb_16) hg_21 hle3)).size (Kd.R_below hr3 hB_41) (by decide)
  rw [← hw_37]
  have hB_50 : Below w.heap.size w w_29 := (bg (bt (bg (bt HB hb_16) hg_21 hle3) hb_27) hg_30 hle3)
  refine XL_append kCellH rfl rfl rfl w.heap.size 126 (.agg #[.int .i32 0, .string ByteArray.empty, .int .i64 0, .int .i64 0, .string ByteArray.empty, .slice none 0 0]) 80 Tryd.underlying124 infoHc rfl (by decide) (by omega) zs3 (⟨(cs.getD i cell0).rune, (cs.getD i cell0).kind, (cs.getD i cell0).vk, (cs.getD i cell0).vn, (cs.getD i cell0).vt, (cs.getD i cell0).attrs⟩ : CellA) (c6L (cs.getD i cell0) (.slice A_24 ((cs.getD i cell0).attrs.length) c_25)) okp_38 (by kernel_rfl) (kCellH_M (x := (⟨(cs.getD i cell0).rune, (cs.getD i cell0).kind, (cs.getD i cell0).vk, (cs.getD i cell0).vn, (cs.getD i cell0).vt, (cs.getD i cell0).attrs⟩ : CellA)) hM_39) hok_40 (Kd.R_below hr3 hB_41) (hB_50).size (by first | omega | (simp; omega)) ?_
  intro A_42 c_43 w_44 hr_45 hc_46 hg_47 hl_48 ha_49
  have he_51 : (zs3 ++ [(⟨(cs.getD i cell0).rune, (cs.getD i cell0).kind, (cs.getD i cell0).vk, (cs.getD i cell0).vn, (cs.getD i cell0).vt, (cs.getD i cell0).attrs⟩ : CellA)]) = (cs.take (i + 1)) := by rw [he3]; exact (take_snocD cell0 cs i (by omega)).symm
  rw [he_51] at hr_45 ⊢
  refine xe0 1 [(3, .slice A_42 ((cs.take (i + 1)).length) c_43), (7, .slice A cs.length c), (8, .int .i64 (cs.length : Int)), (9, nv i)] ?_
  refine nl (rg (xr 2 [(21, .eq (.int .i64 ((i : Int) + 1)))] [(9, .int .i64 ((i : Int) + 1))] [] [Value.int .i64 (IntKind.i64.wrap ((i : Int) + 1)) = Value.int .i64 ((i : Int) + 1)] ⟨wr_i64 (by omega) (by omega), trivial⟩ ?_))
  refine nl ?_
  refine ⟨(i + 1, A_42, c_43, (cs.take (i + 1))), by kernel_rfl, ?_, ?_⟩
  ·exact ⟨by omega, rfl, hr_45, ((bgo hB_50 hg_47 hl_48 (Nat.le_refl _))).size, (bgo hB_50 hg_47 hl_48 (Nat.le_refl _))⟩
  (try dsimp only); omega
 refine xr 1 [(10, .eq (.bool false))] [(10, .bool false)] [] [Value.bool (decide ((i : Int) < (cs.length : Int))) = Value.bool false] ⟨congrArg Value.bool (decide_eq_false (c_7)), trivial⟩ ?_
 refine nl (sq (cf (X_exit (sq (rg (xe0 2 [(2, .slice A3 zs3.length c3)] ?_))))))
 refine nl (X_ret (rk [.slice A3 zs3.length c3] (hR_ _ _ ?_)))
 have hxi : cs.take i = cs := List.take_of_length_le (by omega)
 have hR := hr3
 rw [hxi] at he3
 subst he3
 exact ⟨_, _, rfl, (RX.Kd.R_len hR).2, Kd.R_low hR (Nat.le_refl _), HB⟩
theorem five {pre : List Value} (h : pre.length = 5) : ∃ a b c d e, pre = [a, b, c, d, e] := by
 match pre, h with
 | [a, b, c, d, e], _ => exact ⟨a, b, c, d, e, rfl⟩
set_option maxHeartbeats 2000000 in
theorem overCells_any (A : Option Addr) (n c : Nat) (ok : Nat → Prop) (w : World) (hok : ∀ g, w.heap.size ≤ g → ok g) (hSh : ShapeP 5 126 71 ok w A n c 0) (hn : n ≤ 1100000) : Calls Tryd.prog 78 #[.slice A n c] w fun e w' => e = .returned (.tuple #[]) ∧ SpoilO (fun e_ => e_ = 71 ∨ e_ = 126) ok w w' := by
 obtain ⟨hnc, hcm, _⟩ := hSh.o
 refine RX.enter Tryd.func78 rfl 30 rfl [(0, .slice A n c)] rfl (by kernel_rfl) (fun R_ hR_ => ?_)
 refine sq (sq (rg (xe0 3 [(0, .slice A n c), (6, nv n), (7, .int .i64 0)] ?_)))
 refine nl (bk (X_loop (ι := Nat) (fun i => [(0, .slice A n c), (6, .int .i64 (n : Int)), (7, .int .i64 (i : Int))]) (fun i wl => i ≤ n ∧ ShapeP 5 126 71 ok wl A n c i ∧ SpoilO (fun e_ => e_ = 71 ∨ e_ = 126) ok w wl) (fun i => n - i) 0 ⟨Nat.zero_le _, hSh, (SpoilO.refl (fun e_ => e_ = 71 ∨ e_ = 126) ok w)⟩ (by kernel_rfl) ?_))
 rintro i wl ⟨hi, hSh1, hS1⟩
 refine sq (X_region ?_)
 by_cases c_1 : (i : Int) < (n : Int)
 ·refine xr 1 [(8, .eq (.bool true))] [(8, .bool true)] [] [Value.bool (decide ((i : Int) < (n : Int))) = Value.bool true] ⟨congrArg Value.bool (decide_eq_true (c_1)), trivial⟩ ?_
  refine nl (sq (ct (sk (sq (bk (sq (rg (xr0 2 [(2, nv i)] [8] ?_))))))))
  refine nl (sq (rg (xr0 2 [(10, .slice A n c), (11, nv i)] [] ?_)))
  obtain ⟨ad_2, pre_5, B_6, m_7, c_8, ha_3, hc_4, hp_9, hL_10, hm_11⟩ := (hSh1).r i (Nat.le_refl _) (by omega)
  obtain ⟨a_12, a_13, a_14, a_15, a_16, rfl⟩ := five hp_9
  replace hc_4 : CellsAt wl (ad_2.add ((i : Int).toNat * 6)) [a_12, a_13, a_14, a_15, a_16, .slice B_6 m_7 c_8] := hc_4
  refine xr 3 [(12, .idx ad_2), (14, .load (.slice B_6 m_7 c_8))] [(14, .slice B_6 m_7 c_8)] [10, 11] [A = some ad_2, (0 : Int) ≤ (i : Int), (i : Int) < (n : Int), LoadsAs Tryd.prog 45 ((ad_2.add ((i : Int).toNat * 6)).add 5) (.slice B_6 m_7 c_8) wl] ⟨ha_3, (by omega), (by omega), loads1 rfl (elem_cell hc_4 5 _ rfl), trivial⟩ ?_
  refine xc 45 ent45 [.slice B_6 m_7 c_8] (over_any _ _ _ ok _ (fun g_ h_ => hok g_ (Nat.le_trans (hS1).size h_)) hL_10 hm_11) ?_
  rintro e w_17 ⟨rfl, hs_18⟩; refine ⟨_, rfl, ?_⟩
  have hSh_19 := ShapeP.wr hSh1 hs_18 (by decide)
  have hS_20 := SpoilO.trans hS1 (SpoilO.imp hs_18 (fun _ h_ => .inl h_) (fun _ _ h_ => h_))
  refine nl (rg (xr0 3 [(16, .slice A n c), (17, nv i), (18, .agg #[.int .i32 111, .string (⟨#[111, 118, 101, 114]⟩ : ByteArray), .int .i64 0, .int .i64 0, .string ByteArray.empty, .slice none 0 0])] [2, 14, 15] ?_))
  obtain ⟨ad_21, ha_22⟩ : ∃ x_, A = some x_ := ⟨_, ha_3⟩; have hc_23 : True := trivial
  refine xe 1 [(19, .idx ad_21)] [(0, .slice A n c), (6, nv n), (7, nv i), (18, .agg #[.int .i32 111, .string (⟨#[111, 118, 101, 114]⟩ : ByteArray), .int .i64 0, .int .i64 0, .string ByteArray.empty, .slice none 0 0]), (19, .pointer (some (ad_21.add ((i : Int).toNat * 6))))] [A = some ad_21, (0 : Int) ≤ (i : Int), (i : Int) < (n : Int)] ⟨ha_22, (by omega), (by omega), trivial⟩ ?_
  refine XL_putP (i := i) (v := .agg #[.int .i32 111, .string (⟨#[111, 118, 101, 114]⟩ : ByteArray), .int .i64 0, .int .i64 0, .string ByteArray.empty, .slice none 0 0]) rfl rfl rfl (ShapeP.next hSh_19) (by omega) ha_22 (by kernel_rfl) [.int .i32 111, .string (⟨#[111, 118, 101, 114]⟩ : ByteArray), .int .i64 0, .int .i64 0, .string ByteArray.empty, .slice none 0 0] ⟨by kernel_rfl, by kernel_rfl⟩ rfl (by kernel_rfl) (fun w_24 hw_25 hSh_26 => ?_)
  have hS_27 := SpoilO.trans hS_20 (SpoilO.of_wrote hw_25 (.inr rfl))
  refine nl (rg (xr 2 [(20, .eq (.int .i64 ((i : Int) + 1)))] [(7, .int .i64 ((i : Int) + 1))] [18, 19] [Value.int .i64 (IntKind.i64.wrap ((i : Int) + 1)) = Value.int .i64 ((i : Int) + 1)] ⟨wr_i64 (by omega) (by omega), trivial⟩ ?_))
  refine nl ?_
  refine ⟨(i + 1), by kernel_rfl, ?_, ?_⟩
  ·exact ⟨by omega, hSh_26, hS_27⟩
  (try dsimp only); omega
 refine xr 1 [(8, .eq (.bool false))] [(8, .bool false)] [] [Value.bool (decide ((i : Int) < (n : Int))) = Value.bool false] ⟨congrArg Value.bool (decide_eq_false (c_1)), trivial⟩ ?_
 refine nl (sq (cf (X_exit (sq (rg (xe0 2 [(3, .slice A n c)] ?_))))))
 refine nl (sq (rg (xr0 1 [(4, .int .i64 0)] [] ?_)))
 refine nl (bk (X_loop (ι := Nat × Option Addr × Nat × Nat) (fun ⟨k, B3, m3, c3⟩ => [(3, .slice B3 m3 c3), (4, .int .i64 (k : Int))]) (fun ⟨k, B3, m3, c3⟩ wm => k ≤ 20 ∧ m3 = n + k ∧ LiesO 126 6 ok wm B3 m3 c3 ∧ SpoilO (fun e_ => e_ = 71 ∨ e_ = 126) ok w wm) (fun ⟨k, B3, m3, c3⟩ => 20 - k) (0, A, n, c) ⟨Nat.zero_le _, rfl, (hSh1).o, hS1⟩ (by kernel_rfl) ?_))
 rintro ⟨k, B3, m3, c3⟩ wm ⟨hk, hm3, hL2, hS2⟩
 refine sq (sq (rg (xr0 1 [(22, nv k)] [] ?_)))
 by_cases c_28 : (k : Int) < 20
 ·refine xr 1 [(23, .eq (.bool true))] [(23, .bool true)] [22] [Value.bool (decide ((k : Int) < 20)) = Value.bool true] ⟨congrArg Value.bool (decide_eq_true (c_28)), trivial⟩ ?_
  refine nl (ct (sk (sq (bk (rg (xw 3 [] [(26, .slice B3 m3 c3), (28, .slice (some ⟨wm.heap.size, 0, none⟩) 1 1)] [3, 23] (wm.alloc (.cells #[.int .i32 109, .string ByteArray.empty, .int .i64 0, .int .i64 0, .string ByteArray.empty, .slice none 0 0] 126)) [] trivial ?_))))))
  obtain ⟨w_29, hw_33, hb_30, hk_31, hz_32⟩ := new_world wm #[.int .i32 109, .string ByteArray.empty, .int .i64 0, .int .i64 0, .string ByteArray.empty, .slice none 0 0] 126
  rw [hw_33]
  rw [← hw_33]
  refine XL_appendLiesO rfl rfl rfl 126 (.agg #[.int .i32 0, .string ByteArray.empty, .int .i64 0, .int .i64 0, .string ByteArray.empty, .slice none 0 0]) 6 80 Tryd.underlying124 infoHc rfl (by decide) [.int .i32 109, .string ByteArray.empty, .int .i64 0, .int .i64 0, .string ByteArray.empty, .slice none 0 0] (by kernel_rfl) (by kernel_rfl) (by kernel_rfl) (fun g_ h_ => hok g_ (Nat.le_trans (hS2).size h_)) hL2 (by omega) (by omega) (fun A_34 c_35 w_36 hw_37 hL_38 => ?_)
  have hS_39 := SpoilO.trans hS2 (SpoilO.of_wrote hw_37 (.inr rfl))
  refine xe0 1 [(3, .slice A_34 (m3 + 1) c_35), (4, nv k)] ?_
  refine nl (rg (xr 3 [(25, .eq (.int .i64 ((k : Int) + 1)))] [(4, .int .i64 ((k : Int) + 1))] [] [Value.int .i64 (IntKind.i64.wrap ((k : Int) + 1)) = Value.int .i64 ((k : Int) + 1)] ⟨wr_i64 (by omega) (by omega), trivial⟩ ?_))
  refine nl ?_
  refine ⟨(k + 1, A_34, (m3 + 1), c_35), by kernel_rfl, ?_, ?_⟩
  ·exact ⟨by omega, by omega, hL_38, hS_39⟩
  (try dsimp only); omega
 refine xr 1 [(23, .eq (.bool false))] [(23, .bool false)] [22] [Value.bool (decide ((k : Int) < 20)) = Value.bool false] ⟨congrArg Value.bool (decide_eq_false (c_28)), trivial⟩ ?_
 refine nl (cf (X_exit (ek [] (hR_ _ _ ?_))))
 exact ⟨rfl, hS2⟩
def lgC : List CellA → Nat
 | [] => 0
 | c :: r => (1 + c.kind.size + 10 * c.attrs.length) + lgC r
theorem lgC_append : ∀ xs ys : List CellA, lgC (xs ++ ys) = lgC xs + lgC ys
 | [], ys => by simp [lgC]
 | c :: r, ys => by simp only [List.cons_append, lgC, lgC_append r ys]; omega
theorem lgC_take {cs : List CellA} {i : Nat} (h : i < cs.length) : lgC (cs.take (i + 1)) = lgC (cs.take i) + (1 + (cs.getD i cell0).kind.size + 10 * (cs.getD i cell0).attrs.length) := by rw [take_snocD cell0 cs i h, lgC_append]; simp [lgC]
theorem lgC_len : ∀ cs : List CellA, cs.length ≤ lgC cs
 | [] => Nat.le_refl _
 | c :: r => by have := lgC_len r; simp only [lgC, List.length_cons]; omega
theorem large9_any (A : Option Addr) (c : Nat) (cs : List CellA) (w : World) (hx : kCell.C w A cs.length cs) (hn : cs.length ≤ 1048576) (hz : ∀ i, i < cs.length → B.cellSz (cs.getD i cell0)) : Calls Tryd.prog 71 #[.slice A cs.length c] w fun e w' => e = .returned (.bool (decide (20000 < lgC cs))) ∧ Below w.heap.size w w' := by
 have hpl : cs.length ≤ 9223372036854775807 := hx.2.1
 refine RX.enter Tryd.func71 rfl 26 rfl [(0, .slice A cs.length c)] rfl (by kernel_rfl) (fun R_ hR_ => ?_)
 refine sq (rg (xe0 1 [(0, .slice A cs.length c)] ?_))
 refine nl (sq (rg (xr0 1 [(3, .int .i64 0)] [] ?_)))
 refine nl (sq (sq (rg (xr0 3 [(6, .slice A cs.length c), (7, .int .i64 (cs.length : Int)), (8, .int .i64 0)] [0] ?_))))
 refine nl (bk (X_loop (ι := Nat) (fun i => [(3, .int .i64 (lgC (cs.take i) : Int)), (6, .slice A cs.length c), (7, .int .i64 (cs.length : Int)), (8, .int .i64 (i : Int))]) (fun i wl => i ≤ cs.length ∧ lgC (cs.take i) ≤ i * 70000000 ∧ Below w.heap.size w wl) (fun i => cs.length - i) 0 ⟨Nat.zero_le _, Nat.le_refl _, (Below.refl _ _)⟩ (by kernel_rfl) ?_))
 rintro i wl ⟨hi, hsz, HB⟩
 have hzi := fun (h_ : i < cs.length) => hz i h_
 have hlt := fun (h_ : i < cs.length) => lgC_take h_
 refine sq (X_region ?_)
 by_cases c_1 : (i : Int) < (cs.length : Int)
 ·refine xr 1 [(9, .eq (.bool true))] [(9, .bool true)] [] [Value.bool (decide ((i : Int) < (cs.length : Int))) = Value.bool true] ⟨congrArg Value.bool (decide_eq_true (c_1)), trivial⟩ ?_
  refine nl (sq (ct (sk (sq (bk (sq (X_region ?_)))))))
  obtain ⟨ad_2, B_5, c_6, ha_3, hc_4, hl_7, hC_8⟩ := Kd.atCell (Kd.C_below hx HB) (i := (i : Int)) (by omega) (by omega)
  replace hc_4 : CellsAt wl (ad_2.add ((i : Int).toNat * 6)) (c6L (cs.getD i cell0) (.slice B_5 ((cs.getD i cell0).attrs.length) c_6)) := hc_4
  replace hl_7 : (cs.getD i cell0).attrs.length ≤ c_6 := hl_7
  replace hC_8 : kAttr.C wl B_5 ((cs.getD i cell0).attrs.length) (cs.getD i cell0).attrs := hC_8
  refine xw 3 [(10, .idx ad_2), (11, .load (.agg (c6A (cs.getD i cell0) (.slice B_5 ((cs.getD i cell0).attrs.length) c_6))))] [(5, pw wl.heap.size 0), (11, .agg (c6A (cs.getD i cell0) (.slice B_5 ((cs.getD i cell0).attrs.length) c_6)))] [9] (wl.alloc (.cells #[.int .i32 0, .string ByteArray.empty, .int .i64 0, .int .i64 0, .string ByteArray.empty, .slice none 0 0] 126)) [A = some ad_2, (0 : Int) ≤ (i : Int), (i : Int) < (cs.length : Int), LoadsAs Tryd.prog 126 (ad_2.add ((i : Int).toNat * 6)) (.agg (c6A (cs.getD i cell0) (.slice B_5 ((cs.getD i cell0).attrs.length) c_6))) wl] ⟨ha_3, (by omega), (by omega), loadsE rfl rfl hc_4 0 ⟨by kernel_rfl, by kernel_rfl⟩, trivial⟩ ?_
  obtain ⟨w_9, hw_13, hb_10, hk_11, hz_12⟩ := new_world wl #[.int .i32 0, .string ByteArray.empty, .int .i64 0, .int .i64 0, .string ByteArray.empty, .slice none 0 0] 126
  rw [hw_13]
  refine xst (.agg (c6A (cs.getD i cell0) (.slice B_5 ((cs.getD i cell0).attrs.length) c_6))) hk_11 0 (c6A (cs.getD i cell0) (.slice B_5 ((cs.getD i cell0).attrs.length) c_6)) (fun w_14 hg_15 hk_16 hz_17 => ?_)
  refine nl (rg (xr0 2 [(12, .int .i64 (lgC (cs.take i) : Int)), (13, pw wl.heap.size 1)] [3, 11] ?_))
  have hszi := hzi (by omega)
  have hs1 := hszi.1
  have hs3 := hszi.2.2.1
  have hlg := hlt (by omega)
  refine xr 10 [(14, .load (.string ((cs.getD i cell0).kind))), (16, .eq (.int .i64 (1 + (((cs.getD i cell0).kind).size : Int)))), (18, .load (.slice B_5 ((cs.getD i cell0).attrs.length) c_6)), (20, .eq (.int .i64 (10 * ((cs.getD i cell0).attrs.length : Int)))), (21, .eq (.int .i64 ((1 + (((cs.getD i cell0).kind).size : Int)) + (10 * ((cs.getD i cell0).attrs.length : Int))))), (22, .eq (.int .i64 (lgC (cs.take (i + 1)) : Int)))] [(3, .int .i64 (lgC (cs.take (i + 1)) : Int))] [5, 12, 13] [LoadsAs Tryd.prog 9 (⟨wl.heap.size, 1, none⟩) (.string ((cs.getD i cell0).kind)) w_14, Value.int .i64 (IntKind.i64.wrap (1 + (((cs.getD i cell0).kind).size : Int))) = Value.int .i64 (1 + (((cs.getD i cell0).kind).size : Int)), LoadsAs Tryd.prog 45 (⟨wl.heap.size, 5, none⟩) (.slice B_5 ((cs.getD i cell0).attrs.length) c_6) w_14, Value.int .i64 (IntKind.i64.wrap (10 * ((cs.getD i cell0).attrs.length : Int))) = Value.int .i64 (10 * ((cs.getD i cell0).attrs.length : Int)), Value.int .i64 (IntKind.i64.wrap ((1 + (((cs.getD i cell0).kind).size : Int)) + (10 * ((cs.getD i cell0).attrs.length : Int)))) = Value.int .i64 ((1 + (((cs.getD i cell0).kind).size : Int)) + (10 * ((cs.getD i cell0).attrs.length : Int))), Value.int .i64 (IntKind.i64.wrap ((lgC (cs.take i) : Int) + ((1 + (((cs.getD i cell0).kind).size : Int)) + (10 * ((cs.getD i cell0).attrs.length : Int))))) = Value.int .i64 (lgC (cs.take (i + 1)) : Int)] ⟨loads1 rfl (Blk.cell hk_16 1 _ rfl), wr_i64 (by omega) (by omega), loads1 rfl (Blk.cell hk_16 5 _ rfl), wr_i64 (by omega) (by omega), wr_i64 (by omega) (by omega), (by rw [show (lgC (cs.take i) : Int) + ((1 + ((cs.getD i cell0).kind.size : Int)) + (10 * ((cs.getD i cell0).attrs.length : Int))) = (lgC (cs.take (i + 1)) : Int) from by omega]; exact wr_i64 (by omega) (by omega)), trivial⟩ ?_
  refine nl (rg (xr 2 [(23, .eq (.int .i64 ((i : Int) + 1)))] [(8, .int .i64 ((i : Int) + 1))] [] [Value.int .i64 (IntKind.i64.wrap ((i : Int) + 1)) = Value.int .i64 ((i : Int) + 1)] ⟨wr_i64 (by omega) (by omega), trivial⟩ ?_))
  refine nl ?_
  refine ⟨(i + 1), by kernel_rfl, ?_, ?_⟩
  ·exact ⟨by omega, by have h_ := hlt (by omega); omega, (bg (bt HB hb_10) hg_15 (HB).size)⟩
  (try dsimp only); omega
 refine xr 1 [(9, .eq (.bool false))] [(9, .bool false)] [] [Value.bool (decide ((i : Int) < (cs.length : Int))) = Value.bool false] ⟨congrArg Value.bool (decide_eq_false (c_1)), trivial⟩ ?_
 refine nl (sq (cf (X_exit (sq (rg (xe0 1 [(24, .int .i64 (lgC (cs.take i) : Int))] ?_))))))
 by_cases c_18 : (lgC (cs.take i) : Int) > 20000
 ·refine xe 2 [(25, .eq (.bool true))] [(2, .bool true)] [Value.bool (decide ((lgC (cs.take i) : Int) > 20000)) = Value.bool true] ⟨congrArg Value.bool (decide_eq_true (c_18)), trivial⟩ ?_
  refine nl (X_ret (rk [.bool true] (hR_ _ _ ?_)))
  have hxi : cs.take i = cs := List.take_of_length_le (by omega)
  rw [show decide (20000 < lgC cs) = true from decide_eq_true (by rw [← hxi]; omega)]
  exact ⟨rfl, HB⟩
 refine xe 2 [(25, .eq (.bool false))] [(2, .bool false)] [Value.bool (decide ((lgC (cs.take i) : Int) > 20000)) = Value.bool false] ⟨congrArg Value.bool (decide_eq_false (c_18)), trivial⟩ ?_
 refine nl (X_ret (rk [.bool false] (hR_ _ _ ?_)))
 have hxi : cs.take i = cs := List.take_of_length_le (by omega)
 rw [show decide (20000 < lgC cs) = false from decide_eq_false (by rw [← hxi]; omega)]
 exact ⟨rfl, HB⟩
def lc3 : List CellA := [(⟨97, ByteArray.empty, 0, 0, ByteArray.empty, []⟩ : CellA), (⟨98, ByteArray.empty, 0, 0, ByteArray.empty, []⟩ : CellA), (⟨(-1), (⟨#[105, 109, 97, 103, 101]⟩ : ByteArray), 0, 0, ByteArray.empty, []⟩ : CellA)]
def lo2 : List OpA := [(⟨1, (⟨#[97, 98]⟩ : ByteArray), 0, 0, ByteArray.empty, 0, []⟩ : OpA), (⟨2, (⟨#[105, 109, 97, 103, 101]⟩ : ByteArray), 0, 0, ByteArray.empty, 0, []⟩ : OpA)]
theorem lc3_of : (B.cOf lc3).2 = 0 := by kernel_rfl
theorem lc3_can : B.can (lc3.map B.opC) = lo2 := by kernel_rfl
theorem cz_lit {r : Int} {k : ByteArray} (h : k.size ≤ 100) : B.cellSz ⟨r, k, 0, 0, ByteArray.empty, []⟩ := ⟨Nat.le_trans h (by decide), Nat.zero_le _, Nat.zero_le _, fun i hi => absurd hi (Nat.not_lt_zero _)⟩
theorem lc3_sz : ∀ i, i < lc3.length → B.cellSz (lc3.getD i cell0) := by
 intro i hi
 match i, hi with
 | 0, _ => exact cz_lit (by decide)
 | 1, _ => exact cz_lit (by decide)
 | 2, _ => exact cz_lit (by decide)
 | k + 3, h => exact absurd h (by show ¬ k + 3 < 3; omega)
/-- what a law knows of the delta of cells -/
theorem cell_facts {cs : List CellA} (h : (B.cOf cs).2 = 0) (hn : cs.length ≤ 500000) (hz : ∀ i, i < cs.length → B.cellSz (cs.getD i cell0)) : badE (B.can (cs.map B.opC)) = 0 ∧ (B.can (cs.map B.opC)).length ≤ 1100000 ∧ (∀ i, i < (B.can (cs.map B.opC)).length → opSz ((B.can (cs.map B.opC)).getD i op0)) := by
 have hg := B.cOf_ok h
 obtain ⟨h1, h2⟩ := docSz hg hz
 have hl : (cs.map B.opC).length = cs.length := List.length_map ..
 obtain ⟨a, b, c, _⟩ := can_facts (xs := cs.map B.opC) (by rw [B.doc_of hg (by omega)]) (by omega) h1 (by omega)
 exact ⟨a, b, c⟩
theorem lives9_any (w : World) (hT : Tabs w) (es : List Addr) (hE : ErrsO w es) : Calls Tryd.prog 70 #[] w fun e w' => e = .returned (.bool true) ∧ Below w.heap.size w w' := by
 obtain ⟨hcb, hcn, hcz⟩ := cell_facts lc3_of (by decide) lc3_sz
 refine RX.enter Tryd.func70 rfl 26 rfl [] rfl (by kernel_rfl) (fun R_ hR_ => ?_)
 refine sq (rg (xe0 1 [] ?_))
 refine nl (sq (rg (xwe 4 [] [(8, .slice (some ⟨w.heap.size, 0, none⟩) 3 3)] (w.alloc (.cells #[.int .i32 97, .string ByteArray.empty, .int .i64 0, .int .i64 0, .string ByteArray.empty, .slice none 0 0, .int .i32 98, .string ByteArray.empty, .int .i64 0, .int .i64 0, .string ByteArray.empty, .slice none 0 0, .int .i32 (-1), .string (⟨#[105, 109, 97, 103, 101]⟩ : ByteArray), .int .i64 0, .int .i64 0, .string ByteArray.empty, .slice none 0 0] 126)) [] trivial ?_)))
 obtain ⟨w_1, hw_5, hb_2, hk_3, hz_4⟩ := new_world w #[.int .i32 97, .string ByteArray.empty, .int .i64 0, .int .i64 0, .string ByteArray.empty, .slice none 0 0, .int .i32 98, .string ByteArray.empty, .int .i64 0, .int .i64 0, .string ByteArray.empty, .slice none 0 0, .int .i32 (-1), .string (⟨#[105, 109, 97, 103, 101]⟩ : ByteArray), .int .i64 0, .int .i64 0, .string ByteArray.empty, .slice none 0 0] 126
 rw [hw_5]
 have hr_6 := Kd.R_litB kCell (W := w) (e := 126) (cs := #[.int .i32 97, .string ByteArray.empty, .int .i64 0, .int .i64 0, .string ByteArray.empty, .slice none 0 0, .int .i32 98, .string ByteArray.empty, .int .i64 0, .int .i64 0, .string ByteArray.empty, .slice none 0 0, .int .i32 (-1), .string (⟨#[105, 109, 97, 103, 101]⟩ : ByteArray), .int .i64 0, .int .i64 0, .string ByteArray.empty, .slice none 0 0]) [(⟨97, ByteArray.empty, 0, 0, ByteArray.empty, []⟩ : CellA), (⟨98, ByteArray.empty, 0, 0, ByteArray.empty, []⟩ : CellA), (⟨(-1), (⟨#[105, 109, 97, 103, 101]⟩ : ByteArray), 0, 0, ByteArray.empty, []⟩ : CellA)] hk_3 (repsCells0 [(⟨97, ByteArray.empty, 0, 0, ByteArray.empty, []⟩ : CellA), (⟨98, ByteArray.empty, 0, 0, ByteArray.empty, []⟩ : CellA), (⟨(-1), (⟨#[105, 109, 97, 103, 101]⟩ : ByteArray), 0, 0, ByteArray.empty, []⟩ : CellA)] (by intro x hx; simp only [List.mem_cons, List.not_mem_nil, or_false] at hx; rcases hx with rfl | rfl | rfl <;> rfl)) (Nat.le_of_ble_eq_true (by kernel_rfl))
 refine xc 75 ent75 [.slice (some ⟨w.heap.size, 0, none⟩) 3 3] (c9of_any _ 3 lc3 _ (Kd.R_C hr_6) (Nat.le_of_ble_eq_true rfl) (Nat.le_of_ble_eq_true rfl) lc3_sz (hT.below hb_2) es (hE.below hb_2)) ?_
 rintro e w_7 ⟨hb_11, ⟨h0_12, d, A_8, c_9, rfl, hd_10⟩ | ⟨h0_12, rfl⟩⟩
 ·refine ⟨_, rfl, ?_⟩
  refine xe0 7 [(1, pw d 0), (2, .int .i64 0), (3, .nilIface)] ?_
  refine nl (sq (rg (xwe 11 [] [(19, .bool true), (20, pw d 0), (23, .slice (some ⟨w_7.heap.size, 0, none⟩) 2 2)] (w_7.alloc (.cells #[.int .i64 1, .string (⟨#[97, 98]⟩ : ByteArray), .int .i64 0, .int .i64 0, .string ByteArray.empty, .int .i64 0, .slice none 0 0, .int .i64 2, .string (⟨#[105, 109, 97, 103, 101]⟩ : ByteArray), .int .i64 0, .int .i64 0, .string ByteArray.empty, .int .i64 0, .slice none 0 0] 47)) [] trivial ?_)))
  obtain ⟨w_13, hw_17, hb_14, hk_15, hz_16⟩ := new_world w_7 #[.int .i64 1, .string (⟨#[97, 98]⟩ : ByteArray), .int .i64 0, .int .i64 0, .string ByteArray.empty, .int .i64 0, .slice none 0 0, .int .i64 2, .string (⟨#[105, 109, 97, 103, 101]⟩ : ByteArray), .int .i64 0, .int .i64 0, .string ByteArray.empty, .int .i64 0, .slice none 0 0] 47
  rw [hw_17]
  have hr_18 := Kd.R_litB kOp (W := w_7) (e := 47) (cs := #[.int .i64 1, .string (⟨#[97, 98]⟩ : ByteArray), .int .i64 0, .int .i64 0, .string ByteArray.empty, .int .i64 0, .slice none 0 0, .int .i64 2, .string (⟨#[105, 109, 97, 103, 101]⟩ : ByteArray), .int .i64 0, .int .i64 0, .string ByteArray.empty, .int .i64 0, .slice none 0 0]) [(⟨1, (⟨#[97, 98]⟩ : ByteArray), 0, 0, ByteArray.empty, 0, []⟩ : OpA), (⟨2, (⟨#[105, 109, 97, 103, 101]⟩ : ByteArray), 0, 0, ByteArray.empty, 0, []⟩ : OpA)] hk_15 (repsOp0 [(⟨1, (⟨#[97, 98]⟩ : ByteArray), 0, 0, ByteArray.empty, 0, []⟩ : OpA), (⟨2, (⟨#[105, 109, 97, 103, 101]⟩ : ByteArray), 0, 0, ByteArray.empty, 0, []⟩ : OpA)] (by intro x hx; simp only [List.mem_cons, List.not_mem_nil, or_false] at hx; rcases hx with rfl | rfl <;> rfl)) (Nat.le_of_ble_eq_true (by kernel_rfl))
  refine xc 29 ent29 [.pointer (some ⟨d, 0, none⟩), .slice (some ⟨w_7.heap.size, 0, none⟩) 2 2] (his_any d (B.can (lc3.map B.opC)) lo2 _ _ _ (hd_10.c.below hb_14) hcb hcn hcz (Kd.R_C hr_18)) ?_
  rintro e w_19 ⟨rfl, hb_20⟩; refine ⟨_, rfl, ?_⟩
  rw [(opsEqP_iff _ _).2 lc3_can]
  refine xe0 2 [(0, .bool true)] ?_
  refine nl (X_ret (rk [.bool true] (hR_ _ _ ?_)))
  exact ⟨rfl, (bt (bt (bt hb_2 hb_11) hb_14) hb_20)⟩
 exact absurd lc3_of h0_12
end Go.Proofs.YtkehomiogkoomaaDoor
