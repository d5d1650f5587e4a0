/- What ops.Check, Of, Lengths, Canonical and Same answer. Conditions: sizes, the tables of utf8, the errors' variables. -/
import Derived.Test.YtkehomiogkoomaaDoorO1
import Derived.Test.YtkehomiogkoomaaDoorA3
import Derived.Test.YtkehomiogkoomaaDoorInv
set_option linter.unusedVariables false
set_option linter.unusedSimpArgs false
set_option maxRecDepth 100000
namespace Go.Proofs.YtkehomiogkoomaaDoor
open Go Go.RowKit Go.Proofs.YtkehomiogkoomaaDoorW.PrintWords RX
theorem ent173 : Ent Tryd.prog 173 := ent_of Tryd.func173 (by kernel_rfl) rfl
theorem ent155 : Ent Tryd.prog 155 := ent_of Tryd.func155 (by kernel_rfl) rfl
theorem ent114 : Ent Tryd.prog 114 := ent_of Tryd.func114 (by kernel_rfl) rfl
theorem ent163 : Ent Tryd.prog 163 := ent_of Tryd.func163 (by kernel_rfl) rfl
theorem ent127 : Ent Tryd.prog 127 := ent_of Tryd.func127 (by kernel_rfl) rfl
theorem ent128 : Ent Tryd.prog 128 := ent_of Tryd.func128 (by kernel_rfl) rfl
theorem ent67 : Ent Tryd.prog 67 := ent_of Tryd.func67 (by kernel_rfl) rfl
theorem info47 : (Tryd.prog.info? 47).map (fun i => (i.zero, i.size, i.bytes)) = some (some (.agg #[.int .i64 0, .string ByteArray.empty, .int .i64 0, .int .i64 0, .string ByteArray.empty, .int .i64 0, .slice none 0 0]), 7, 88) := by kernel_rfl
theorem info84 : (Tryd.prog.info? 84).map (fun i => (i.zero, i.size, i.bytes)) = some (some .nilIface, 1, 16) := by kernel_rfl
theorem sum_any (a b : Int) (w : World) (h0 : -1000000000000000000 ≤ a + b) (h1 : a + b ≤ 1000000000000000000) : Calls Tryd.prog 173 #[.int .i64 a, .int .i64 b] w fun e w' => e = .returned (.int .i64 (min (a + b) 1099511627777)) ∧ Below w.heap.size w w' := by
 refine RX.enter Tryd.func173 rfl 9 rfl [(0, .int .i64 a), (1, .int .i64 b)] rfl (by kernel_rfl) (fun R_ hR_ => ?_)
 refine sq (rg (xe0 1 [(0, .int .i64 a), (1, .int .i64 b)] ?_))
 refine nl (sq (rg (xe 5 [(7, .eq (.int .i64 (a + b))), (8, .eq (.int .i64 (min (a + b) 1099511627777)))] [(4, .int .i64 (min (a + b) 1099511627777))] [Value.int .i64 (IntKind.i64.wrap (a + b)) = Value.int .i64 (a + b), Value.int .i64 (if 1099511627777 < a + b then 1099511627777 else a + b) = Value.int .i64 (min (a + b) 1099511627777)] ⟨wr_i64 (by omega) (by omega), congrArg (Value.int .i64) (min_eq _ _), trivial⟩ ?_)))
 refine nl (X_ret (rk [.int .i64 (min (a + b) 1099511627777)] (hR_ _ _ ?_)))
 exact ⟨rfl, (Below.refl _ _)⟩
theorem insertLen_any (A : Option Addr) (n c : Nat) (t : ByteArray) (k : Int) (w : World) : Calls Tryd.prog 194 #[.agg #[.slice A n c, .string t, .int .i64 k]] w fun e w' => e = .returned (.int .i64 k) ∧ Below w.heap.size w w' := by
 refine RX.enter Tryd.func194 rfl 5 rfl [(0, .agg #[.slice A n c, .string t, .int .i64 k])] rfl (by kernel_rfl) (fun R_ hR_ => ?_)
 refine sq (rg (xwe 1 [] [(1, pw w.heap.size 0)] (w.alloc (.cells #[.slice A n c, .string t, .int .i64 k] 95)) [] trivial ?_))
 obtain ⟨w_1, hw_5, hb_2, hk_3, hz_4⟩ := new_world w #[.slice A n c, .string t, .int .i64 k] 95
 rw [hw_5]
 refine xr0 1 [] [] ?_
 refine nl (sq (rg (xe 3 [(4, .load (.int .i64 k))] [(2, .int .i64 k)] [LoadsAs Tryd.prog 3 (⟨w.heap.size, 2, none⟩) (.int .i64 k) w_1] ⟨loads1 rfl (Blk.cell hk_3 2 _ rfl), trivial⟩ ?_)))
 refine nl (X_ret (rk [.int .i64 k] (hR_ _ _ ?_)))
 exact ⟨rfl, hb_2⟩
theorem embedLen_any (A : Option Addr) (n c : Nat) (t : ByteArray) (v : Value) (w : World) : Calls Tryd.prog 196 #[.agg #[.slice A n c, .string t, v]] w fun e w' => e = .returned (.int .i64 1) ∧ Below w.heap.size w w' := by
 refine RX.enter Tryd.func196 rfl 3 rfl [(0, .agg #[.slice A n c, .string t, v])] rfl (by kernel_rfl) (fun R_ hR_ => ?_)
 refine sq (rg (xwe 1 [] [] (w.alloc (.cells #[.slice A n c, .string t, v] 97)) [] trivial ?_))
 obtain ⟨w_1, hw_5, hb_2, hk_3, hz_4⟩ := new_world w #[.slice A n c, .string t, v] 97
 rw [hw_5]
 refine xe0 1 [] ?_
 refine nl (sq (rg (xe0 1 [(2, .int .i64 1)] ?_)))
 refine nl (X_ret (rk [.int .i64 1] (hR_ _ _ ?_)))
 exact ⟨rfl, hb_2⟩
theorem ocheck_any (o : OpA) (A : Option Addr) (c : Nat) (w : World) (hA : kAttr.C w A o.attrs.length o.attrs) (hz : opSz o) (hT : Tabs w) (es : List Addr) (hE : ErrsO w es) : Calls Tryd.prog 155 #[.agg #[.int .i64 o.kind, .string o.text, .int .i64 o.vk, .int .i64 o.vn, .string o.vt, .int .i64 o.count, .slice A o.attrs.length c]] w fun e w' => e = .returned (errV es (pErr o)) ∧ Below w.heap.size w w' := by
 refine RX.enter Tryd.func155 rfl 11 rfl [(0, .agg #[.int .i64 o.kind, .string o.text, .int .i64 o.vk, .int .i64 o.vn, .string o.vt, .int .i64 o.count, .slice A o.attrs.length c])] rfl (by kernel_rfl) (fun R_ hR_ => ?_)
 refine sq (rg (xwe 1 [] [(1, pw w.heap.size 0)] (w.alloc (.cells #[.int .i64 o.kind, .string o.text, .int .i64 o.vk, .int .i64 o.vn, .string o.vt, .int .i64 o.count, .slice A o.attrs.length c] 47)) [] trivial ?_))
 obtain ⟨w_1, hw_5, hb_2, hk_3, hz_4⟩ := new_world w #[.int .i64 o.kind, .string o.text, .int .i64 o.vk, .int .i64 o.vn, .string o.vt, .int .i64 o.count, .slice A o.attrs.length c] 47
 rw [hw_5]
 refine xr0 1 [] [] ?_
 refine nl (sq (rg (xe 1 [(6, .load (.agg #[.int .i64 o.kind, .string o.text, .int .i64 o.vk, .int .i64 o.vn, .string o.vt, .int .i64 o.count, .slice A o.attrs.length c]))] [(6, .agg #[.int .i64 o.kind, .string o.text, .int .i64 o.vk, .int .i64 o.vn, .string o.vt, .int .i64 o.count, .slice A o.attrs.length c])] [LoadsAs Tryd.prog 47 (⟨w.heap.size, 0, none⟩) (.agg #[.int .i64 o.kind, .string o.text, .int .i64 o.vk, .int .i64 o.vn, .string o.vt, .int .i64 o.count, .slice A o.attrs.length c]) w_1] ⟨loadsB rfl rfl hk_3 0 ⟨by kernel_rfl, by kernel_rfl⟩, trivial⟩ ?_)))
 refine xc 154 ent154 [.agg #[.int .i64 o.kind, .string o.text, .int .i64 o.vk, .int .i64 o.vn, .string o.vt, .int .i64 o.count, .slice A o.attrs.length c]] (piece_any o _ _ _ (Kd.C_below hA hb_2) hz (hT.below hb_2) es (hE.below hb_2)) ?_
 rintro e w_9 ⟨v_6, rfl, hM_7, hN_8, hb_10⟩; refine ⟨_, rfl, ?_⟩
 refine xe0 5 [(4, errV es (pErr o))] ?_
 refine nl (sq (rg (xe0 2 [(2, errV es (pErr o))] ?_)))
 refine nl (X_ret (rk [errV es (pErr o)] (hR_ _ _ ?_)))
 exact ⟨rfl, (bt hb_2 hb_10)⟩
noncomputable def ofP (xs : List OpA) : List PieceA := if badE xs = 0 then xs.map pOf else []
theorem ofP_ok {xs : List OpA} (h : badE xs = 0) : ofP xs = xs.map pOf := if_pos h
theorem ofP_bad {xs : List OpA} (h : badE xs ≠ 0) : ofP xs = [] := if_neg h
theorem kPiece_iface {w : World} {p : PieceA} {v : Value} (h : kPiece.K w p [v]) : ∃ T u, v = .iface T u := by
 cases p with
 | ins a t n => obtain ⟨A, c, e, _⟩ := kPiece_ins h; exact ⟨_, _, (List.cons.inj e).1⟩
 | emb a t n => obtain ⟨A, c, e, _⟩ := kPiece_emb h; exact ⟨_, _, (List.cons.inj e).1⟩
 | ret a n => obtain ⟨A, c, e, _⟩ := kPiece_ret h; exact ⟨_, _, (List.cons.inj e).1⟩
 | del n => have e := kPiece_del h; exact ⟨_, _, (List.cons.inj e).1⟩
theorem map_getD {α β : Type} (f : α → β) (d : α) (d' : β) {xs : List α} {i : Nat} (h : i < xs.length) : (xs.map f).getD i d' = f (xs.getD i d) := by
 rw [List.getD_eq_getElem?_getD, List.getD_eq_getElem?_getD, List.getElem?_map, List.getElem?_eq_getElem h]; rfl
theorem map_take_snoc (xs : List OpA) (i : Nat) (h : i < xs.length) : (xs.take i).map pOf ++ [pOf (xs.getD i op0)] = (xs.take (i + 1)).map pOf := by rw [take_snocD op0 xs i h, List.map_append]; rfl
set_option maxHeartbeats 2000000 in
theorem of_any (A : Option Addr) (c : Nat) (xs : List OpA) (w : World) (hx : kOp.C w A xs.length xs) (hn : xs.length ≤ 100000000) (hz : ∀ i, i < xs.length → opSz (xs.getD i op0)) (hT : Tabs w) (es : List Addr) (hE : ErrsO w es) : Calls Tryd.prog 114 #[.slice A xs.length c] w fun e w' => ∃ A' c', e = .returned (.tuple #[.slice A' (ofP xs).length c', .int .i64 (badI xs : Int), errV es (badE xs)]) ∧ kPiece.R 84 w' w.heap.size (OkFrom w.heap.size) (.slice A' (ofP xs).length c') (ofP xs) ∧ Below w.heap.size w w' := by
 have hpl : xs.length ≤ 9223372036854775807 := hx.2.1
 refine RX.enter Tryd.func114 rfl 32 rfl [(0, .slice A xs.length c)] rfl (by kernel_rfl) (fun R_ hR_ => ?_)
 refine sq (rg (xe0 3 [(0, .slice A xs.length c)] ?_))
 refine nl (sq (rg (xr0 1 [(5, .slice none 0 0)] [] ?_)))
 refine nl (sq (sq (rg (xr0 3 [(10, .slice A xs.length c), (11, .int .i64 (xs.length : Int)), (12, .int .i64 0)] [0] ?_))))
 refine nl (bk (X_loop (ι := Nat × Option Addr × Nat × List PieceA) (fun ⟨i, A5, c5, zs5⟩ => [(5, .slice A5 zs5.length c5), (10, .slice A xs.length c), (11, .int .i64 (xs.length : Int)), (12, .int .i64 (i : Int))]) (fun ⟨i, A5, c5, zs5⟩ wl => i ≤ xs.length ∧ badE (xs.take i) = 0 ∧ zs5 = (xs.take i).map pOf ∧ kPiece.R 84 wl w.heap.size (OkFrom w.heap.size) (.slice A5 zs5.length c5) zs5 ∧ Below w.heap.size w wl) (fun ⟨i, A5, c5, zs5⟩ => xs.length - i) (0, none, 0, []) ⟨by omega, rfl, rfl, Kd.R_nil _ _ _ _ _, (Below.refl _ _)⟩ (by kernel_rfl) ?_))
 rintro ⟨i, A5, c5, zs5⟩ wl ⟨hi, hb0, he5, hr5, HB⟩
 have hzl : zs5.length = min i xs.length := by rw [he5, List.length_map, List.length_take]
 refine sq (X_region ?_)
 by_cases c_1 : (i : Int) < (xs.length : Int)
 ·refine xr 1 [(13, .eq (.bool true))] [(13, .bool true)] [] [Value.bool (decide ((i : Int) < (xs.length : Int))) = Value.bool true] ⟨congrArg Value.bool (decide_eq_true (c_1)), trivial⟩ ?_
  refine nl (sq (ct (sk (sq (bk (sq (rg (xr0 1 [(14, nv i)] [13] ?_))))))))
  obtain ⟨ad_2, B_5, c_6, ha_3, hc_4, hl_7, hC_8⟩ := Kd.atOp (Kd.C_below hx HB) (i := (i : Int)) (by omega) (by omega)
  replace hc_4 : CellsAt wl (ad_2.add ((i : Int).toNat * 7)) [.int .i64 ((xs.getD i op0).kind), .string ((xs.getD i op0).text), .int .i64 ((xs.getD i op0).vk), .int .i64 ((xs.getD i op0).vn), .string ((xs.getD i op0).vt), .int .i64 ((xs.getD i op0).count), .slice B_5 ((xs.getD i op0).attrs.length) c_6] := hc_4
  replace hl_7 : (xs.getD i op0).attrs.length ≤ c_6 := hl_7
  replace hC_8 : kAttr.C wl B_5 ((xs.getD i op0).attrs.length) (xs.getD i op0).attrs := hC_8
  refine xw 3 [(15, .idx ad_2), (16, .load (.agg #[.int .i64 ((xs.getD i op0).kind), .string ((xs.getD i op0).text), .int .i64 ((xs.getD i op0).vk), .int .i64 ((xs.getD i op0).vn), .string ((xs.getD i op0).vt), .int .i64 ((xs.getD i op0).count), .slice B_5 ((xs.getD i op0).attrs.length) c_6]))] [(7, pw wl.heap.size 0), (16, .agg #[.int .i64 ((xs.getD i op0).kind), .string ((xs.getD i op0).text), .int .i64 ((xs.getD i op0).vk), .int .i64 ((xs.getD i op0).vn), .string ((xs.getD i op0).vt), .int .i64 ((xs.getD i op0).count), .slice B_5 ((xs.getD i op0).attrs.length) c_6])] [] (wl.alloc (.cells #[.int .i64 0, .string ByteArray.empty, .int .i64 0, .int .i64 0, .string ByteArray.empty, .int .i64 0, .slice none 0 0] 47)) [A = some ad_2, (0 : Int) ≤ (i : Int), (i : Int) < (xs.length : Int), LoadsAs Tryd.prog 47 (ad_2.add ((i : Int).toNat * 7)) (.agg #[.int .i64 ((xs.getD i op0).kind), .string ((xs.getD i op0).text), .int .i64 ((xs.getD i op0).vk), .int .i64 ((xs.getD i op0).vn), .string ((xs.getD i op0).vt), .int .i64 ((xs.getD i op0).count), .slice B_5 ((xs.getD i op0).attrs.length) c_6]) wl] ⟨ha_3, (by omega), (by omega), loadsE rfl rfl hc_4 0 ⟨by kernel_rfl, by kernel_rfl⟩, trivial⟩ ?_
  obtain ⟨w_9, hw_13, hb_10, hk_11, hz_12⟩ := new_world wl #[.int .i64 0, .string ByteArray.empty, .int .i64 0, .int .i64 0, .string ByteArray.empty, .int .i64 0, .slice none 0 0] 47
  rw [hw_13]
  refine xr0 1 [(6, nv i)] [14] ?_
  refine xst (.agg #[.int .i64 ((xs.getD i op0).kind), .string ((xs.getD i op0).text), .int .i64 ((xs.getD i op0).vk), .int .i64 ((xs.getD i op0).vn), .string ((xs.getD i op0).vt), .int .i64 ((xs.getD i op0).count), .slice B_5 ((xs.getD i op0).attrs.length) c_6]) hk_11 0 #[.int .i64 ((xs.getD i op0).kind), .string ((xs.getD i op0).text), .int .i64 ((xs.getD i op0).vk), .int .i64 ((xs.getD i op0).vn), .string ((xs.getD i op0).vt), .int .i64 ((xs.getD i op0).count), .slice B_5 ((xs.getD i op0).attrs.length) c_6] (fun w_14 hg_15 hk_16 hz_17 => ?_)
  refine nl (sq (rg (xr 1 [(18, .load (.agg #[.int .i64 ((xs.getD i op0).kind), .string ((xs.getD i op0).text), .int .i64 ((xs.getD i op0).vk), .int .i64 ((xs.getD i op0).vn), .string ((xs.getD i op0).vt), .int .i64 ((xs.getD i op0).count), .slice B_5 ((xs.getD i op0).attrs.length) c_6]))] [(18, .agg #[.int .i64 ((xs.getD i op0).kind), .string ((xs.getD i op0).text), .int .i64 ((xs.getD i op0).vk), .int .i64 ((xs.getD i op0).vn), .string ((xs.getD i op0).vt), .int .i64 ((xs.getD i op0).count), .slice B_5 ((xs.getD i op0).attrs.length) c_6])] [7, 16] [LoadsAs Tryd.prog 47 (⟨wl.heap.size, 0, none⟩) (.agg #[.int .i64 ((xs.getD i op0).kind), .string ((xs.getD i op0).text), .int .i64 ((xs.getD i op0).vk), .int .i64 ((xs.getD i op0).vn), .string ((xs.getD i op0).vt), .int .i64 ((xs.getD i op0).count), .slice B_5 ((xs.getD i op0).attrs.length) c_6]) w_14] ⟨loadsB rfl rfl hk_16 0 ⟨by kernel_rfl, by kernel_rfl⟩, trivial⟩ ?_)))
  refine xc 154 ent154 [.agg #[.int .i64 ((xs.getD i op0).kind), .string ((xs.getD i op0).text), .int .i64 ((xs.getD i op0).vk), .int .i64 ((xs.getD i op0).vn), .string ((xs.getD i op0).vt), .int .i64 ((xs.getD i op0).count), .slice B_5 ((xs.getD i op0).attrs.length) c_6]] (piece_any (xs.getD i op0) _ _ _ (Kd.C_below hC_8 (bg hb_10 hg_15 (Nat.le_refl _))) (hz i (by omega)) (hT.below (bg (bt HB hb_10) hg_15 (HB).size)) es (hE.below (bg (bt HB hb_10) hg_15 (HB).size))) ?_
  rintro e w_21 ⟨v_18, rfl, hM_19, hN_20, hb_22⟩; refine ⟨_, rfl, ?_⟩
  refine xe0 5 [(5, .slice A5 zs5.length c5), (6, nv i), (8, v_18), (9, errV es (pErr (xs.getD i op0))), (10, .slice A xs.length c), (11, .int .i64 (xs.length : Int)), (12, nv i)] ?_
  refine nl (sq (sq (rg (xr0 1 [(22, errV es (pErr (xs.getD i op0)))] [] ?_))))
  by_cases c_23 : (pErr (xs.getD i op0)) = 0
  ·rw [show errV es (pErr (xs.getD i op0)) = .nilIface from by rw [c_23]; rfl]
   refine xr0 1 [(9, .nilIface), (23, .bool false)] [22] ?_
   refine nl (cf (sk (X_region ?_)))
   have hm_26 := hM_19 c_23
   obtain ⟨T_24, u_25, rfl⟩ := kPiece_iface (kPiece.K_of_M hm_26)
   refine xw 3 [] [(26, .slice A5 zs5.length c5), (28, .slice (some ⟨w_21.heap.size, 0, none⟩) 1 1)] [5, 6, 8, 9, 23] (w_21.alloc (.cells #[.iface T_24 u_25] 84)) [] trivial ?_
   obtain ⟨w_27, hw_31, hb_28, hk_29, hz_30⟩ := new_world w_21 #[.iface T_24 u_25] 84
   rw [hw_31]
   have hB_35 : Below wl.heap.size wl w_21 := (bt (bg hb_10 hg_15 (Nat.le_refl _)) hb_22)
   obtain ⟨okp_32, hM_33, hok_34⟩ := Kd.M_apart hm_26 ((bg (bt HB hb_10) hg_15 (HB).size)).size (Kd.R_below hr5 hB_35) (by decide)
   rw [← hw_31]
   have hB_44 : Below w.heap.size w w_21 := (bt (bg (bt HB hb_10) hg_15 (HB).size) hb_22)
   refine XL_append kPiece rfl rfl rfl w.heap.size 84 .nilIface 16 Tryd.underlying80 info84 rfl (by decide) (by omega) zs5 (pOf (xs.getD i op0)) [.iface T_24 u_25] okp_32 (by kernel_rfl) hM_33 hok_34 (Kd.R_below hr5 hB_35) (hB_44).size (by first | omega | (simp; omega)) ?_
   intro A_36 c_37 w_38 hr_39 hc_40 hg_41 hl_42 ha_43
   refine xr0 1 [(5, .slice A_36 ((zs5 ++ [(pOf (xs.getD i op0))]).length) c_37)] [26, 28, 29] ?_
   refine nl (rg (xr 2 [(30, .eq (.int .i64 ((i : Int) + 1)))] [(12, .int .i64 ((i : Int) + 1))] [] [Value.int .i64 (IntKind.i64.wrap ((i : Int) + 1)) = Value.int .i64 ((i : Int) + 1)] ⟨wr_i64 (by omega) (by omega), trivial⟩ ?_))
   refine nl ?_
   refine ⟨(i + 1, A_36, c_37, (zs5 ++ [(pOf (xs.getD i op0))])), by kernel_rfl, ?_, ?_⟩
   ·exact ⟨by omega, badE_succ (by omega) hb0 c_23, by rw [he5]; exact map_take_snoc xs i (by omega), hr_39, (bgo hB_44 hg_41 hl_42 (Nat.le_refl _))⟩
   (try dsimp only); omega
  rw [errV_pos es (pErr (xs.getD i op0)) (Nat.pos_of_ne_zero c_23)]
  refine xr0 1 [(9, .iface 235 (.pointer (some (errAt es (pErr (xs.getD i op0)))))), (23, .bool true)] [22] ?_
  refine nl (ct (sq (rg (xe0 5 [(2, .slice none 0 0), (3, nv i), (4, .iface 235 (.pointer (some (errAt es (pErr (xs.getD i op0))))))] ?_))))
  refine nl (X_ret (rk [.slice none 0 0, .int .i64 (i : Int), .iface 235 (.pointer (some (errAt es (pErr (xs.getD i op0)))))] (hR_ _ _ ?_)))
  have hB_45 : Below w.heap.size w w_21 := (bt (bg (bt HB hb_10) hg_15 (HB).size) hb_22)
  have hbe := badE_stop (xs := xs) (i := i) (by omega) hb0 c_23
  have hbi := badI_stop (xs := xs) (i := i) (by omega) hb0 c_23
  have hof := ofP_bad (xs := xs) (by rw [hbe]; exact c_23)
  rw [hof, hbi, hbe, errV_pos es _ (Nat.pos_of_ne_zero c_23)]
  exact ⟨none, 0, rfl, Kd.R_nil _ _ _ _ _, hB_45⟩
 refine xr 1 [(13, .eq (.bool false))] [(13, .bool false)] [] [Value.bool (decide ((i : Int) < (xs.length : Int))) = Value.bool false] ⟨congrArg Value.bool (decide_eq_false (c_1)), trivial⟩ ?_
 refine nl (sq (cf (X_exit (sq (rg (xe0 4 [(2, .slice A5 zs5.length c5), (3, .int .i64 0), (4, .nilIface)] ?_))))))
 refine nl (X_ret (rk [.slice A5 zs5.length c5, .int .i64 0, .nilIface] (hR_ _ _ ?_)))
 have hxi : xs.take i = xs := List.take_of_length_le (by omega)
 rw [hxi] at hb0 he5
 have hof : ofP xs = zs5 := by rw [ofP_ok hb0, he5]
 rw [hof, badI_none hb0, hb0]
 exact ⟨_, _, rfl, hr5, HB⟩
set_option maxHeartbeats 2000000 in
theorem lengths_any (A : Option Addr) (c : Nat) (xs : List OpA) (w : World) (hb : badE xs = 0) (hx : kPiece.C w A (xs.map pOf).length (xs.map pOf)) (hn : xs.length ≤ 100000000) (hz : ∀ i, i < xs.length → opSz (xs.getD i op0)) :
  Calls Tryd.prog 163 #[.slice A (xs.map pOf).length c] w fun e w' => e = .returned (.tuple #[.int .i64 (min (sB xs) 1099511627777), .int .i64 (min (sR xs) 1099511627777)]) ∧ Below w.heap.size w w' := by
 have hlen : (xs.map pOf).length = xs.length := List.length_map ..
 have hpl : (xs.map pOf).length ≤ 9223372036854775807 := hx.2.1
 refine RX.enter Tryd.func163 rfl 43 rfl [(0, .slice A ((xs.map pOf).length) c)] rfl (by kernel_rfl) (fun R_ hR_ => ?_)
 refine sq (rg (xe0 2 [(0, .slice A ((xs.map pOf).length) c)] ?_))
 refine nl (sq (rg (xr0 2 [(4, .int .i64 0), (5, .int .i64 0)] [] ?_)))
 refine nl (sq (sq (rg (xr0 3 [(11, .slice A ((xs.map pOf).length) c), (12, .int .i64 ((xs.map pOf).length : Int)), (13, .int .i64 0)] [0] ?_))))
 refine nl (bk (X_loop (ι := Nat × Int × Int) (fun ⟨i, b, r⟩ => [(4, .int .i64 b), (5, .int .i64 r), (11, .slice A ((xs.map pOf).length) c), (12, .int .i64 ((xs.map pOf).length : Int)), (13, .int .i64 (i : Int))]) (fun ⟨i, b, r⟩ wl => i ≤ xs.length ∧ b = min (sB (xs.take i)) 1099511627777 ∧ r = min (sR (xs.take i)) 1099511627777 ∧ Below w.heap.size w wl) (fun ⟨i, b, r⟩ => xs.length - i) (0, 0, 0) ⟨by omega, rfl, rfl, (Below.refl _ _)⟩ (by kernel_rfl) ?_))
 rintro ⟨i, b, r⟩ wl ⟨hi, hbb, hrr, HB⟩
 have hs0 := sB_ok (badE_take hb i)
 have hs1 := sR_ok (badE_take hb i)
 refine sq (X_region ?_)
 by_cases c_1 : (i : Int) < ((xs.map pOf).length : Int)
 ·refine xr 1 [(14, .eq (.bool true))] [(14, .bool true)] [] [Value.bool (decide ((i : Int) < ((xs.map pOf).length : Int))) = Value.bool true] ⟨congrArg Value.bool (decide_eq_true (c_1)), trivial⟩ ?_
  refine nl (sq (ct (sk (sq (bk (sq (X_region ?_)))))))
  obtain ⟨ad_2, v_5, ha_3, hc_4, hK_6⟩ := Kd.atPiece (Kd.C_below hx HB) (i := (i : Int)) (by omega) (by omega)
  replace hK_6 : kPiece.K wl ((xs.map pOf).getD i piece0) [v_5] := hK_6
  refine xr 1 [(15, .idx ad_2)] [(15, .pointer (some (ad_2.add ((i : Int).toNat * 1))))] [14] [A = some ad_2, (0 : Int) ≤ (i : Int), (i : Int) < ((xs.map pOf).length : Int)] ⟨ha_3, (by omega), (by omega), trivial⟩ ?_
  rw [map_getD pOf op0 piece0 (show i < xs.length by omega)] at hK_6
  have hpe := badE_getD hb (show i < xs.length by omega)
  have hsz := (hz i (by omega)).1
  have hscl := U.sc_le (xs.getD i op0).text
  have hcn := fun hk_ => count_of_ok hpe hk_
  rcases kind_of_ok hpe with hk | hk | hk | hk
  ·rw [pOf_ins hk] at hK_6
   obtain ⟨A_7, c_8, e_9, _, _⟩ := kPiece_ins hK_6
   obtain rfl := (List.cons.inj e_9).1
   have hob : opB (xs.getD i op0) = 0 := by unfold opB opLen; rw [if_neg (by omega)]
   have hor : opR (xs.getD i op0) = ((U.sc (xs.getD i op0).text).length : Int) := by unfold opR opLen; rw [if_neg (by omega), if_pos hk]
   refine xr 2 [(16, .load (.iface 95 (.agg #[.slice A_7 ((xs.getD i op0).attrs.length) c_8, .string ((xs.getD i op0).text), .int .i64 ((U.sc (xs.getD i op0).text).length : Int)])))] [(7, .iface 95 (.agg #[.slice A_7 ((xs.getD i op0).attrs.length) c_8, .string ((xs.getD i op0).text), .int .i64 ((U.sc (xs.getD i op0).text).length : Int)]))] [15] [LoadsAs Tryd.prog 84 (ad_2.add ((i : Int).toNat * 1)) (.iface 95 (.agg #[.slice A_7 ((xs.getD i op0).attrs.length) c_8, .string ((xs.getD i op0).text), .int .i64 ((U.sc (xs.getD i op0).text).length : Int)])) wl] ⟨loads1 rfl (elem_cell hc_4 0 _ rfl), trivial⟩ ?_
   refine nl (sq (rg (xr0 1 [(17, .iface 95 (.agg #[.slice A_7 ((xs.getD i op0).attrs.length) c_8, .string ((xs.getD i op0).text), .int .i64 ((U.sc (xs.getD i op0).text).length : Int)]))] [] ?_)))
   refine nl (bk (sq (rg (xr0 3 [(23, .bool false), (24, .agg #[.slice none 0 0, .int .i64 0])] [] ?_))))
   refine nl (cf (sq (rg (xe0 3 [(4, .int .i64 b), (5, .int .i64 r), (7, .iface 95 (.agg #[.slice A_7 ((xs.getD i op0).attrs.length) c_8, .string ((xs.getD i op0).text), .int .i64 ((U.sc (xs.getD i op0).text).length : Int)])), (11, .slice A ((xs.map pOf).length) c), (12, .int .i64 ((xs.map pOf).length : Int)), (13, nv i), (17, .iface 95 (.agg #[.slice A_7 ((xs.getD i op0).attrs.length) c_8, .string ((xs.getD i op0).text), .int .i64 ((U.sc (xs.getD i op0).text).length : Int)])), (34, .bool false), (35, .agg #[.int .i64 0])] ?_))))
   refine nl (cf (sq (rg (xr0 1 [] [17, 34, 35] ?_))))
   refine nl (rg (xr0 2 [(18, .int .i64 r), (19, .iface 95 (.agg #[.slice A_7 ((xs.getD i op0).attrs.length) c_8, .string ((xs.getD i op0).text), .int .i64 ((U.sc (xs.getD i op0).text).length : Int)]))] [5, 7] ?_))
   refine XL_inv 194 #[.agg #[.slice A_7 ((xs.getD i op0).attrs.length) c_8, .string ((xs.getD i op0).text), .int .i64 ((U.sc (xs.getD i op0).text).length : Int)]] rfl rfl (by kernel_rfl) (by kernel_rfl) (insertLen_any _ _ _ _ _ _) ?_
   rintro e w_10 ⟨rfl, hb_11⟩; refine ⟨_, rfl, ?_⟩
   refine xc 173 ent173 [.int .i64 r, .int .i64 ((U.sc (xs.getD i op0).text).length : Int)] (sum_any r ((U.sc (xs.getD i op0).text).length : Int) _ (by omega) (by omega)) ?_
   rintro e w_12 ⟨rfl, hb_13⟩; refine ⟨_, rfl, ?_⟩
   refine xr0 1 [(5, .int .i64 (min (r + ((U.sc (xs.getD i op0).text).length : Int)) 1099511627777))] [18, 19, 20, 21] ?_
   refine nl (rg (xr 2 [(40, .eq (.int .i64 ((i : Int) + 1)))] [(13, .int .i64 ((i : Int) + 1))] [] [Value.int .i64 (IntKind.i64.wrap ((i : Int) + 1)) = Value.int .i64 ((i : Int) + 1)] ⟨wr_i64 (by omega) (by omega), trivial⟩ ?_))
   refine nl ?_
   refine ⟨(i + 1, b, min (r + ((U.sc (xs.getD i op0).text).length : Int)) 1099511627777), by kernel_rfl, ?_, ?_⟩
   ·have hst1 := sumI_take opB xs i (by omega)
    have hst2 := sumI_take opR xs i (by omega)
    rw [hob] at hst1
    rw [hor] at hst2
    exact ⟨by omega, by unfold sB at *; omega, by unfold sR at *; omega, (bt (bt HB hb_11) hb_13)⟩
   (try dsimp only); omega
  ·rw [pOf_emb hk] at hK_6
   obtain ⟨A_14, c_15, e_16, _, _⟩ := kPiece_emb hK_6
   obtain rfl := (List.cons.inj e_16).1
   have hob : opB (xs.getD i op0) = 0 := by unfold opB opLen; rw [if_neg (by omega)]
   have hor : opR (xs.getD i op0) = 1 := by unfold opR opLen; rw [if_neg (by omega), if_neg (by omega), if_pos hk]
   refine xr 2 [(16, .load (.iface 97 (.agg #[.slice A_14 ((xs.getD i op0).attrs.length) c_15, .string ((xs.getD i op0).text), valV (xs.getD i op0).val])))] [(7, .iface 97 (.agg #[.slice A_14 ((xs.getD i op0).attrs.length) c_15, .string ((xs.getD i op0).text), valV (xs.getD i op0).val]))] [15] [LoadsAs Tryd.prog 84 (ad_2.add ((i : Int).toNat * 1)) (.iface 97 (.agg #[.slice A_14 ((xs.getD i op0).attrs.length) c_15, .string ((xs.getD i op0).text), valV (xs.getD i op0).val])) wl] ⟨loads1 rfl (elem_cell hc_4 0 _ rfl), trivial⟩ ?_
   refine nl (sq (rg (xr0 1 [(17, .iface 97 (.agg #[.slice A_14 ((xs.getD i op0).attrs.length) c_15, .string ((xs.getD i op0).text), valV (xs.getD i op0).val]))] [] ?_)))
   refine nl (bk (sq (rg (xr0 3 [(23, .bool false), (24, .agg #[.slice none 0 0, .int .i64 0])] [] ?_))))
   refine nl (cf (sq (rg (xe0 3 [(4, .int .i64 b), (5, .int .i64 r), (7, .iface 97 (.agg #[.slice A_14 ((xs.getD i op0).attrs.length) c_15, .string ((xs.getD i op0).text), valV (xs.getD i op0).val])), (11, .slice A ((xs.map pOf).length) c), (12, .int .i64 ((xs.map pOf).length : Int)), (13, nv i), (17, .iface 97 (.agg #[.slice A_14 ((xs.getD i op0).attrs.length) c_15, .string ((xs.getD i op0).text), valV (xs.getD i op0).val])), (34, .bool false), (35, .agg #[.int .i64 0])] ?_))))
   refine nl (cf (sq (rg (xr0 1 [] [17, 34, 35] ?_))))
   refine nl (rg (xr0 2 [(18, .int .i64 r), (19, .iface 97 (.agg #[.slice A_14 ((xs.getD i op0).attrs.length) c_15, .string ((xs.getD i op0).text), valV (xs.getD i op0).val]))] [5, 7] ?_))
   refine XL_inv 196 #[.agg #[.slice A_14 ((xs.getD i op0).attrs.length) c_15, .string ((xs.getD i op0).text), valV (xs.getD i op0).val]] rfl rfl (by kernel_rfl) (by kernel_rfl) (embedLen_any _ _ _ _ _ _) ?_
   rintro e w_17 ⟨rfl, hb_18⟩; refine ⟨_, rfl, ?_⟩
   refine xc 173 ent173 [.int .i64 r, .int .i64 1] (sum_any r 1 _ (by omega) (by omega)) ?_
   rintro e w_19 ⟨rfl, hb_20⟩; refine ⟨_, rfl, ?_⟩
   refine xr0 1 [(5, .int .i64 (min (r + 1) 1099511627777))] [18, 19, 20, 21] ?_
   refine nl (rg (xr 2 [(40, .eq (.int .i64 ((i : Int) + 1)))] [(13, .int .i64 ((i : Int) + 1))] [] [Value.int .i64 (IntKind.i64.wrap ((i : Int) + 1)) = Value.int .i64 ((i : Int) + 1)] ⟨wr_i64 (by omega) (by omega), trivial⟩ ?_))
   refine nl ?_
   refine ⟨(i + 1, b, min (r + 1) 1099511627777), by kernel_rfl, ?_, ?_⟩
   ·have hst1 := sumI_take opB xs i (by omega)
    have hst2 := sumI_take opR xs i (by omega)
    rw [hob] at hst1
    rw [hor] at hst2
    exact ⟨by omega, by unfold sB at *; omega, by unfold sR at *; omega, (bt (bt HB hb_18) hb_20)⟩
   (try dsimp only); omega
  ·rw [pOf_ret hk] at hK_6
   obtain ⟨A_21, c_22, e_23, _, _⟩ := kPiece_ret hK_6
   obtain rfl := (List.cons.inj e_23).1
   have hob : opB (xs.getD i op0) = (xs.getD i op0).count := by unfold opB opLen; rw [if_pos (by omega), if_neg (by omega), if_neg (by omega)]
   have hor : opR (xs.getD i op0) = (xs.getD i op0).count := by unfold opR opLen; rw [if_neg (by omega), if_neg (by omega), if_neg (by omega)]
   have hcc := hcn (by omega)
   refine xr 2 [(16, .load (.iface 100 (.agg #[.slice A_21 ((xs.getD i op0).attrs.length) c_22, .int .i64 ((xs.getD i op0).count)])))] [(7, .iface 100 (.agg #[.slice A_21 ((xs.getD i op0).attrs.length) c_22, .int .i64 ((xs.getD i op0).count)]))] [15] [LoadsAs Tryd.prog 84 (ad_2.add ((i : Int).toNat * 1)) (.iface 100 (.agg #[.slice A_21 ((xs.getD i op0).attrs.length) c_22, .int .i64 ((xs.getD i op0).count)])) wl] ⟨loads1 rfl (elem_cell hc_4 0 _ rfl), trivial⟩ ?_
   refine nl (sq (rg (xr0 1 [(17, .iface 100 (.agg #[.slice A_21 ((xs.getD i op0).attrs.length) c_22, .int .i64 ((xs.getD i op0).count)]))] [] ?_)))
   refine nl (bk (sq (rg (xr0 3 [(23, .bool true), (24, .agg #[.slice A_21 ((xs.getD i op0).attrs.length) c_22, .int .i64 ((xs.getD i op0).count)])] [] ?_))))
   refine nl (ct (sq (rg (xwe 1 [] [(4, .int .i64 b), (5, .int .i64 r), (8, pw wl.heap.size 0), (11, .slice A ((xs.map pOf).length) c), (12, .int .i64 ((xs.map pOf).length : Int)), (13, nv i), (24, .agg #[.slice A_21 ((xs.getD i op0).attrs.length) c_22, .int .i64 ((xs.getD i op0).count)])] (wl.alloc (.cells #[.slice none 0 0, .int .i64 0] 100)) [] trivial ?_))))
   obtain ⟨w_24, hw_28, hb_25, hk_26, hz_27⟩ := new_world wl #[.slice none 0 0, .int .i64 0] 100
   rw [hw_28]
   refine xst (.agg #[.slice A_21 ((xs.getD i op0).attrs.length) c_22, .int .i64 ((xs.getD i op0).count)]) hk_26 0 #[.slice A_21 ((xs.getD i op0).attrs.length) c_22, .int .i64 ((xs.getD i op0).count)] (fun w_29 hg_30 hk_31 hz_32 => ?_)
   refine nl (X_grow [] 10 #[false, false, false, false, false, false, false, false, false, false] (by kernel_rfl) (by kernel_rfl) (by kernel_rfl) (fun wd_33 hb_34 hh_35 => ?_))
   refine XB_run (fuel' := 4) (Below.refl _ _) [0, 1, 2, 4, 5, 6] [(27, .load (.int .i64 ((xs.getD i op0).count))), (31, .load (.int .i64 ((xs.getD i op0).count)))] [.int .i64 b, .pointer (some ⟨wl.heap.size, 1, none⟩), .int .i64 ((xs.getD i op0).count), .int .i64 r, .pointer (some ⟨wl.heap.size, 1, none⟩), .int .i64 ((xs.getD i op0).count)] #[true, true, true, false, true, true, true, false, false, false] [(11, .slice A ((xs.map pOf).length) c), (12, .int .i64 ((xs.map pOf).length : Int)), (13, .int .i64 (i : Int)), (25, .int .i64 b), (27, .int .i64 ((xs.getD i op0).count)), (29, .int .i64 r), (31, .int .i64 ((xs.getD i op0).count))] (fun w_ => [LoadsAs Tryd.prog 3 (⟨wl.heap.size, 1, none⟩) (.int .i64 ((xs.getD i op0).count)) w_, LoadsAs Tryd.prog 3 (⟨wl.heap.size, 1, none⟩) (.int .i64 ((xs.getD i op0).count)) w_]) (fun _ _ _ _ h => h) (fun w_ => by kernel_rfl) rfl (fun w_ hC_ => ⟨loads1 rfl (Blk.cell (Blk.below hk_31 (bt hb_34 hC_)) 1 _ rfl), loads1 rfl (Blk.cell (Blk.below hk_31 (bt hb_34 hC_)) 1 _ rfl), trivial⟩) ?_
   refine XB_mid (fuel' := 3) 3 #[true, true, true, true, true, true, true, false, false, false] _ rfl (by kernel_rfl) (by kernel_rfl) rfl ?_
   refine xc 173 ent173 [.int .i64 b, .int .i64 ((xs.getD i op0).count)] (sum_any b ((xs.getD i op0).count) _ (by omega) (by omega)) ?_
   rintro e w_36 ⟨rfl, hb_37⟩; refine ⟨_, rfl, ?_⟩
   refine nl ?_
   refine ⟨hb_37, ?_⟩
   refine XB_mid (fuel' := 2) 7 #[true, true, true, true, true, true, true, true, false, false] _ rfl (by kernel_rfl) (by kernel_rfl) rfl ?_
   refine xc 173 ent173 [.int .i64 r, .int .i64 ((xs.getD i op0).count)] (sum_any r ((xs.getD i op0).count) _ (by omega) (by omega)) ?_
   rintro e w_38 ⟨rfl, hb_39⟩; refine ⟨_, rfl, ?_⟩
   refine nl ?_
   refine ⟨(bt hb_37 hb_39), ?_⟩
   refine XB_run (fuel' := 0) (bt hb_37 hb_39) [8, 9] [] [.int .i64 (min (b + ((xs.getD i op0).count)) 1099511627777), .int .i64 (min (r + ((xs.getD i op0).count)) 1099511627777)] #[true, true, true, true, true, true, true, true, true, true] [(4, .int .i64 (min (b + ((xs.getD i op0).count)) 1099511627777)), (5, .int .i64 (min (r + ((xs.getD i op0).count)) 1099511627777)), (11, .slice A ((xs.map pOf).length) c), (12, .int .i64 ((xs.map pOf).length : Int)), (13, .int .i64 (i : Int))] (fun w_ => []) (fun _ _ _ _ h => h) (fun w_ => by kernel_rfl) rfl (fun w_ hC_ => trivial) ?_
   refine XB_done (by kernel_rfl) ?_
   refine rg (xr 2 [(40, .eq (.int .i64 ((i : Int) + 1)))] [(13, .int .i64 ((i : Int) + 1))] [] [Value.int .i64 (IntKind.i64.wrap ((i : Int) + 1)) = Value.int .i64 ((i : Int) + 1)] ⟨wr_i64 (by omega) (by omega), trivial⟩ ?_)
   refine nl ?_
   have hB_40 : Below w.heap.size w w_38 := (bt (bt (bt (bg (bt HB hb_25) hg_30 (HB).size) hb_34) hb_37) hb_39)
   refine ⟨(i + 1, min (b + ((xs.getD i op0).count)) 1099511627777, min (r + ((xs.getD i op0).count)) 1099511627777), by kernel_rfl, ?_, ?_⟩
   ·have hst1 := sumI_take opB xs i (by omega)
    have hst2 := sumI_take opR xs i (by omega)
    rw [hob] at hst1
    rw [hor] at hst2
    exact ⟨by omega, by unfold sB at *; omega, by unfold sR at *; omega, hB_40⟩
   (try dsimp only); omega
  rw [pOf_del hk] at hK_6
  have e_43 := kPiece_del hK_6
  obtain rfl := (List.cons.inj e_43).1
  have hob : opB (xs.getD i op0) = (xs.getD i op0).count := by unfold opB opLen; rw [if_pos (by omega), if_neg (by omega), if_neg (by omega)]
  have hor : opR (xs.getD i op0) = 0 := by unfold opR opLen; rw [if_pos hk]
  have hcc := hcn (by omega)
  refine xr 2 [(16, .load (.iface 102 (.agg #[.int .i64 ((xs.getD i op0).count)])))] [(7, .iface 102 (.agg #[.int .i64 ((xs.getD i op0).count)]))] [15] [LoadsAs Tryd.prog 84 (ad_2.add ((i : Int).toNat * 1)) (.iface 102 (.agg #[.int .i64 ((xs.getD i op0).count)])) wl] ⟨loads1 rfl (elem_cell hc_4 0 _ rfl), trivial⟩ ?_
  refine nl (sq (rg (xr0 1 [(17, .iface 102 (.agg #[.int .i64 ((xs.getD i op0).count)]))] [] ?_)))
  refine nl (bk (sq (rg (xr0 3 [(23, .bool false), (24, .agg #[.slice none 0 0, .int .i64 0])] [] ?_))))
  refine nl (cf (sq (rg (xe0 3 [(4, .int .i64 b), (5, .int .i64 r), (7, .iface 102 (.agg #[.int .i64 ((xs.getD i op0).count)])), (11, .slice A ((xs.map pOf).length) c), (12, .int .i64 ((xs.map pOf).length : Int)), (13, nv i), (17, .iface 102 (.agg #[.int .i64 ((xs.getD i op0).count)])), (34, .bool true), (35, .agg #[.int .i64 ((xs.getD i op0).count)])] ?_))))
  refine nl (ct (sq (rg (xw 1 [] [(9, pw wl.heap.size 0)] [7, 17, 34] (wl.alloc (.cells #[.int .i64 0] 102)) [] trivial ?_))))
  obtain ⟨w_44, hw_48, hb_45, hk_46, hz_47⟩ := new_world wl #[.int .i64 0] 102
  rw [hw_48]
  refine xst (.agg #[.int .i64 ((xs.getD i op0).count)]) hk_46 0 #[.int .i64 ((xs.getD i op0).count)] (fun w_49 hg_50 hk_51 hz_52 => ?_)
  refine nl (rg (xr 3 [(38, .load (.int .i64 ((xs.getD i op0).count)))] [(36, .int .i64 b), (38, .int .i64 ((xs.getD i op0).count))] [4, 9, 35] [LoadsAs Tryd.prog 3 (⟨wl.heap.size, 0, none⟩) (.int .i64 ((xs.getD i op0).count)) w_49] ⟨loads1 rfl (Blk.cell hk_51 0 _ rfl), trivial⟩ ?_))
  refine xc 173 ent173 [.int .i64 b, .int .i64 ((xs.getD i op0).count)] (sum_any b ((xs.getD i op0).count) _ (by omega) (by omega)) ?_
  rintro e w_53 ⟨rfl, hb_54⟩; refine ⟨_, rfl, ?_⟩
  refine xr0 1 [(4, .int .i64 (min (b + ((xs.getD i op0).count)) 1099511627777))] [36, 38, 39] ?_
  refine nl (rg (xr 2 [(40, .eq (.int .i64 ((i : Int) + 1)))] [(13, .int .i64 ((i : Int) + 1))] [] [Value.int .i64 (IntKind.i64.wrap ((i : Int) + 1)) = Value.int .i64 ((i : Int) + 1)] ⟨wr_i64 (by omega) (by omega), trivial⟩ ?_))
  refine nl ?_
  have hB_55 : Below w.heap.size w w_53 := (bt (bg (bt HB hb_45) hg_50 (HB).size) hb_54)
  refine ⟨(i + 1, min (b + ((xs.getD i op0).count)) 1099511627777, r), by kernel_rfl, ?_, ?_⟩
  ·have hst1 := sumI_take opB xs i (by omega)
   have hst2 := sumI_take opR xs i (by omega)
   rw [hob] at hst1
   rw [hor] at hst2
   exact ⟨by omega, by unfold sB at *; omega, by unfold sR at *; omega, hB_55⟩
  (try dsimp only); omega
 refine xr 1 [(14, .eq (.bool false))] [(14, .bool false)] [] [Value.bool (decide ((i : Int) < ((xs.map pOf).length : Int))) = Value.bool false] ⟨congrArg Value.bool (decide_eq_false (c_1)), trivial⟩ ?_
 refine nl (sq (cf (X_exit (sq (rg (xe0 4 [(2, .int .i64 b), (3, .int .i64 r)] ?_))))))
 refine nl (X_ret (rk [.int .i64 b, .int .i64 r] (hR_ _ _ ?_)))
 have hxi : xs.take i = xs := List.take_of_length_le (by omega)
 rw [hxi] at hbb hrr
 rw [← hbb, ← hrr]
 exact ⟨rfl, HB⟩
set_option maxHeartbeats 2000000 in
theorem olen_any (A : Option Addr) (c : Nat) (xs : List OpA) (w : World) (hx : kOp.C w A xs.length xs) (hn : xs.length ≤ 100000000) (hz : ∀ i, i < xs.length → opSz (xs.getD i op0)) (hT : Tabs w) (es : List Addr) (hE : ErrsO w es) : Calls Tryd.prog 127 #[.slice A xs.length c] w fun e w' => e = .returned (.tuple #[.int .i64 (lenP xs).1, .int .i64 (lenP xs).2.1, errV es (lenP xs).2.2]) ∧ Below w.heap.size w w' := by
 refine RX.enter Tryd.func127 rfl 33 rfl [(0, .slice A xs.length c)] rfl (by kernel_rfl) (fun R_ hR_ => ?_)
 refine sq (rg (xe0 3 [(0, .slice A xs.length c)] ?_))
 refine nl (sq (rg (xe0 1 [(11, .slice A xs.length c)] ?_)))
 refine xc 114 ent114 [.slice A xs.length c] (of_any _ _ xs _ hx hn hz (hT.below (Below.refl _ _)) es (hE.below (Below.refl _ _))) ?_
 rintro e w_4 ⟨A_1, c_2, rfl, hr_3, hb_5⟩; refine ⟨_, rfl, ?_⟩
 refine xe0 7 [(5, .slice A_1 ((ofP xs).length) c_2), (7, errV es (badE xs))] ?_
 refine nl (sq (sq (rg (xr0 1 [(16, errV es (badE xs))] [] ?_))))
 by_cases c_6 : (badE xs) = 0
 ·rw [show errV es (badE xs) = .nilIface from by rw [c_6]; rfl]
  refine xr0 1 [(7, .nilIface), (17, .bool false)] [16] ?_
  refine nl (cf (sk (sq (rg (xe0 1 [(20, .slice A_1 ((ofP xs).length) c_2)] ?_)))))
  refine xc 163 ent163 [.slice A_1 ((ofP xs).length) c_2] (by have h_ := lengths_any A_1 c_2 xs w_4 c_6 (by rw [← ofP_ok c_6]; exact Kd.R_C hr_3) hn hz; rw [← ofP_ok c_6] at h_; exact h_) ?_
  rintro e w_7 ⟨rfl, hb_8⟩; refine ⟨_, rfl, ?_⟩
  refine xe0 5 [(8, .int .i64 (min (sB xs) 1099511627777)), (9, .int .i64 (min (sR xs) 1099511627777))] ?_
  refine nl (sq (sq (rg (xr0 1 [(24, .int .i64 (min (sB xs) 1099511627777))] [] ?_))))
  by_cases c_9 : min (sB xs) 1099511627777 > 1099511627776
  ·refine xr 5 [(25, .eq (.bool true))] [(29, .bool true)] [24] [Value.bool (decide (min (sB xs) 1099511627777 > 1099511627776)) = Value.bool true] ⟨congrArg Value.bool (decide_eq_true (c_9)), trivial⟩ ?_
   refine nl (ct (sq (X_still (by kernel_rfl) (by kernel_rfl) (fun wd_10 hb_11 hh_12 => ?_))))
   refine xse 4 [(30, .load (.iface 235 (.pointer (some (errAt es 11)))))] [(2, .int .i64 0), (3, .int .i64 0), (4, .iface 235 (.pointer (some (errAt es 11))))] [LoadsAs Tryd.prog 24 (⟨11, 0, none⟩) (.iface 235 (.pointer (some (errAt es 11)))) wd_10] ⟨loads1 rfl (((bt (bt hb_5 hb_8) hb_11).cell (World.block_lt_of_cell? _ _ (hE.load 11 11 (by decide) (by decide) rfl))).trans (hE.load 11 11 (by decide) (by decide) rfl)), trivial⟩ ?_
   refine XS_nil ?_
   refine X_ret (rk [.int .i64 0, .int .i64 0, .iface 235 (.pointer (some (errAt es 11)))] (hR_ _ _ ?_))
   rw [lenP_long c_6 (by omega)]
   exact ⟨rfl, (bt (bt hb_5 hb_8) hb_11)⟩
  refine xr 3 [(25, .eq (.bool false))] [(26, .bool false), (27, .int .i64 (min (sR xs) 1099511627777))] [24] [Value.bool (decide (min (sB xs) 1099511627777 > 1099511627776)) = Value.bool false] ⟨congrArg Value.bool (decide_eq_false (c_9)), trivial⟩ ?_
  by_cases c_13 : min (sR xs) 1099511627777 > 1099511627776
  ·refine xr 2 [(28, .eq (.bool true))] [(29, .bool true)] [26, 27] [Value.bool (decide (min (sR xs) 1099511627777 > 1099511627776)) = Value.bool true] ⟨congrArg Value.bool (decide_eq_true (c_13)), trivial⟩ ?_
   refine nl (ct (sq (X_still (by kernel_rfl) (by kernel_rfl) (fun wd_14 hb_15 hh_16 => ?_))))
   refine xse 4 [(30, .load (.iface 235 (.pointer (some (errAt es 11)))))] [(2, .int .i64 0), (3, .int .i64 0), (4, .iface 235 (.pointer (some (errAt es 11))))] [LoadsAs Tryd.prog 24 (⟨11, 0, none⟩) (.iface 235 (.pointer (some (errAt es 11)))) wd_14] ⟨loads1 rfl (((bt (bt hb_5 hb_8) hb_15).cell (World.block_lt_of_cell? _ _ (hE.load 11 11 (by decide) (by decide) rfl))).trans (hE.load 11 11 (by decide) (by decide) rfl)), trivial⟩ ?_
   refine XS_nil ?_
   refine X_ret (rk [.int .i64 0, .int .i64 0, .iface 235 (.pointer (some (errAt es 11)))] (hR_ _ _ ?_))
   rw [lenP_long c_6 (by omega)]
   exact ⟨rfl, (bt (bt hb_5 hb_8) hb_15)⟩
  refine xr 2 [(28, .eq (.bool false))] [(29, .bool false)] [26, 27] [Value.bool (decide (min (sR xs) 1099511627777 > 1099511627776)) = Value.bool false] ⟨congrArg Value.bool (decide_eq_false (c_13)), trivial⟩ ?_
  refine nl (cf (sk (sq (rg (xe0 5 [(2, .int .i64 (min (sB xs) 1099511627777)), (3, .int .i64 (min (sR xs) 1099511627777)), (4, .nilIface)] ?_)))))
  refine nl (X_ret (rk [.int .i64 (min (sB xs) 1099511627777), .int .i64 (min (sR xs) 1099511627777), .nilIface] (hR_ _ _ ?_)))
  rw [lenP_ok c_6 (by omega)]
  have h1_ : min (sB xs) 1099511627777 = sB xs := by omega
  have h2_ : min (sR xs) 1099511627777 = sR xs := by omega
  rw [h1_, h2_]
  exact ⟨rfl, (bt hb_5 hb_8)⟩
 rw [errV_pos es (badE xs) (Nat.pos_of_ne_zero c_6)]
 refine xr0 1 [(7, .iface 235 (.pointer (some (errAt es (badE xs))))), (17, .bool true)] [16] ?_
 refine nl (ct (sq (rg (xe0 4 [(2, .int .i64 0), (3, .int .i64 0), (4, .iface 235 (.pointer (some (errAt es (badE xs)))))] ?_))))
 refine nl (X_ret (rk [.int .i64 0, .int .i64 0, .iface 235 (.pointer (some (errAt es (badE xs))))] (hR_ _ _ ?_)))
 rw [lenP_bad c_6]
 exact ⟨by rw [errV_pos es _ (Nat.pos_of_ne_zero c_6)]; rfl, hb_5⟩
theorem fits_any (a b : OpA) (A B : Option Addr) (c d : Nat) (w : World) (hA : kAttr.C w A a.attrs.length a.attrs) (hB : kAttr.C w B b.attrs.length b.attrs) : Calls Tryd.prog 128 #[.agg #[.int .i64 a.kind, .string a.text, .int .i64 a.vk, .int .i64 a.vn, .string a.vt, .int .i64 a.count, .slice A a.attrs.length c], .agg #[.int .i64 b.kind, .string b.text, .int .i64 b.vk, .int .i64 b.vn, .string b.vt, .int .i64 b.count, .slice B b.attrs.length d]] w fun e w' => e = .returned (.bool (fitsP a b)) ∧ Below w.heap.size w w' := by
 refine RX.enter Tryd.func128 rfl 29 rfl [(0, .agg #[.int .i64 a.kind, .string a.text, .int .i64 a.vk, .int .i64 a.vn, .string a.vt, .int .i64 a.count, .slice A a.attrs.length c]), (1, .agg #[.int .i64 b.kind, .string b.text, .int .i64 b.vk, .int .i64 b.vn, .string b.vt, .int .i64 b.count, .slice B b.attrs.length d])] rfl (by kernel_rfl) (fun R_ hR_ => ?_)
 refine sq (rg (xwe 1 [] [(1, .agg #[.int .i64 b.kind, .string b.text, .int .i64 b.vk, .int .i64 b.vn, .string b.vt, .int .i64 b.count, .slice B b.attrs.length d]), (2, pw w.heap.size 0)] (w.alloc (.cells #[.int .i64 a.kind, .string a.text, .int .i64 a.vk, .int .i64 a.vn, .string a.vt, .int .i64 a.count, .slice A a.attrs.length c] 47)) [] trivial ?_))
 obtain ⟨w_1, hw_5, hb_2, hk_3, hz_4⟩ := new_world w #[.int .i64 a.kind, .string a.text, .int .i64 a.vk, .int .i64 a.vn, .string a.vt, .int .i64 a.count, .slice A a.attrs.length c] 47
 rw [hw_5]
 refine xw 1 [] [(3, pw w_1.heap.size 0)] [1] (w_1.alloc (.cells #[.int .i64 b.kind, .string b.text, .int .i64 b.vk, .int .i64 b.vn, .string b.vt, .int .i64 b.count, .slice B b.attrs.length d] 47)) [] trivial ?_
 obtain ⟨w_6, hw_10, hb_7, hk_8, hz_9⟩ := new_world w_1 #[.int .i64 b.kind, .string b.text, .int .i64 b.vk, .int .i64 b.vn, .string b.vt, .int .i64 b.count, .slice B b.attrs.length d] 47
 rw [hw_10]
 refine xr0 1 [] [] ?_
 refine nl (sq (sq (rg (xr 2 [(6, .load (.int .i64 a.kind))] [(6, .int .i64 a.kind)] [] [LoadsAs Tryd.prog 3 (⟨w.heap.size, 0, none⟩) (.int .i64 a.kind) w_6] ⟨loads1 rfl (Blk.cell (Blk.below hk_3 hb_7) 0 _ rfl), trivial⟩ ?_))))
 by_cases c_11 : a.kind = 4
 ·refine xr 1 [(7, .eq (.bool true))] [(7, .bool true)] [6] [Value.bool (a.kind == 4) = Value.bool true] ⟨congrArg Value.bool (beq_iff_eq.2 (c_11)), trivial⟩ ?_
  refine nl (ct (sq (rg (xe 2 [(9, .load (.int .i64 b.kind))] [(9, .int .i64 b.kind)] [LoadsAs Tryd.prog 3 (⟨w_1.heap.size, 0, none⟩) (.int .i64 b.kind) w_6] ⟨loads1 rfl (Blk.cell hk_8 0 _ rfl), trivial⟩ ?_))))
  by_cases c_12 : b.kind = 3
  ·refine xe 2 [(10, .eq (.bool true))] [(4, .bool true)] [Value.bool (b.kind == 3) = Value.bool true] ⟨congrArg Value.bool (beq_iff_eq.2 (c_12)), trivial⟩ ?_
   refine nl (X_ret (rk [.bool true] (hR_ _ _ ?_)))
   rw [show fitsP a b = true from by unfold fitsP; simp_all]
   exact ⟨rfl, (bt hb_2 hb_7)⟩
  refine xe 2 [(10, .eq (.bool false))] [(4, .bool false)] [Value.bool (b.kind == 3) = Value.bool false] ⟨congrArg Value.bool (beq_eq_false_iff_ne.2 (c_12)), trivial⟩ ?_
  refine nl (X_ret (rk [.bool false] (hR_ _ _ ?_)))
  rw [show fitsP a b = false from by unfold fitsP; simp_all]
  exact ⟨rfl, (bt hb_2 hb_7)⟩
 refine xr 1 [(7, .eq (.bool false))] [(7, .bool false)] [6] [Value.bool (a.kind == 4) = Value.bool false] ⟨congrArg Value.bool (beq_eq_false_iff_ne.2 (c_11)), trivial⟩ ?_
 refine nl (cf (sk (sq (rg (xr 4 [(12, .load (.int .i64 a.kind)), (14, .load (.int .i64 b.kind))] [(12, .int .i64 a.kind), (14, .int .i64 b.kind)] [7] [LoadsAs Tryd.prog 3 (⟨w.heap.size, 0, none⟩) (.int .i64 a.kind) w_6, LoadsAs Tryd.prog 3 (⟨w_1.heap.size, 0, none⟩) (.int .i64 b.kind) w_6] ⟨loads1 rfl (Blk.cell (Blk.below hk_3 hb_7) 0 _ rfl), loads1 rfl (Blk.cell hk_8 0 _ rfl), trivial⟩ ?_)))))
 by_cases c_13 : a.kind = b.kind
 ·refine xe 4 [(15, .eq (.bool false)), (18, .load (.int .i64 a.kind))] [(2, pw w.heap.size 0), (3, pw w_1.heap.size 0), (16, .bool false), (18, .int .i64 a.kind)] [Value.bool (a.kind != b.kind) = Value.bool false, LoadsAs Tryd.prog 3 (⟨w.heap.size, 0, none⟩) (.int .i64 a.kind) w_6] ⟨congrArg Value.bool (bneF (c_13)), loads1 rfl (Blk.cell (Blk.below hk_3 hb_7) 0 _ rfl), trivial⟩ ?_
  by_cases c_14 : a.kind = 2
  ·refine xe 11 [(19, .eq (.bool true))] [(4, .bool true)] [Value.bool (a.kind == 2) = Value.bool true] ⟨congrArg Value.bool (beq_iff_eq.2 (c_14)), trivial⟩ ?_
   refine nl (X_ret (rk [.bool true] (hR_ _ _ ?_)))
   rw [show fitsP a b = true from by unfold fitsP; simp_all]
   exact ⟨rfl, (bt hb_2 hb_7)⟩
  refine xe 7 [(19, .eq (.bool false)), (23, .load (.slice A a.attrs.length c)), (25, .load (.slice B b.attrs.length d))] [(21, .bool false), (23, .slice A a.attrs.length c), (25, .slice B b.attrs.length d)] [Value.bool (a.kind == 2) = Value.bool false, LoadsAs Tryd.prog 45 (⟨w.heap.size, 6, none⟩) (.slice A a.attrs.length c) w_6, LoadsAs Tryd.prog 45 (⟨w_1.heap.size, 6, none⟩) (.slice B b.attrs.length d) w_6] ⟨congrArg Value.bool (beq_eq_false_iff_ne.2 (c_14)), loads1 rfl (Blk.cell (Blk.below hk_3 hb_7) 6 _ rfl), loads1 rfl (Blk.cell hk_8 6 _ rfl), trivial⟩ ?_
  refine xc 136 ent136 [.slice A a.attrs.length c, .slice B b.attrs.length d] (asame_any _ _ _ _ a.attrs b.attrs _ (Kd.C_below hA (bt hb_2 hb_7)) (Kd.C_below hB (bt hb_2 hb_7))) ?_
  rintro e w_15 ⟨rfl, hb_16⟩; refine ⟨_, rfl, ?_⟩
  by_cases c_17 : decide (a.attrs = b.attrs) = true
  ·rw [show (decide (a.attrs = b.attrs) : Bool) = true from by simpa using c_17]
   refine xe0 3 [(4, .bool false)] ?_
   refine nl (X_ret (rk [.bool false] (hR_ _ _ ?_)))
   rw [show fitsP a b = false from by unfold fitsP; simp_all]
   exact ⟨rfl, (bt (bt hb_2 hb_7) hb_16)⟩
  rw [show (decide (a.attrs = b.attrs) : Bool) = false from by simpa using c_17]
  refine xe0 3 [(4, .bool true)] ?_
  refine nl (X_ret (rk [.bool true] (hR_ _ _ ?_)))
  rw [show fitsP a b = true from by unfold fitsP; simp_all]
  exact ⟨rfl, (bt (bt hb_2 hb_7) hb_16)⟩
 refine xe 15 [(15, .eq (.bool true))] [(4, .bool true)] [Value.bool (a.kind != b.kind) = Value.bool true] ⟨congrArg Value.bool (bneT (c_13)), trivial⟩ ?_
 refine nl (X_ret (rk [.bool true] (hR_ _ _ ?_)))
 rw [show fitsP a b = true from by unfold fitsP; simp_all]
 exact ⟨rfl, (bt hb_2 hb_7)⟩
theorem can_last {xs : List OpA} (h : ¬ (lenP xs).2.2 = 0) : canP xs = false := (canP_false xs).2 fun hc => h hc.1
set_option maxHeartbeats 2000000 in
theorem ocan_any (A : Option Addr) (c : Nat) (xs : List OpA) (w : World) (hx : kOp.C w A xs.length xs) (hn : xs.length ≤ 100000000) (hz : ∀ i, i < xs.length → opSz (xs.getD i op0)) (hT : Tabs w) (es : List Addr) (hE : ErrsO w es) : Calls Tryd.prog 67 #[.slice A xs.length c] w fun e w' => e = .returned (.bool (canP xs)) ∧ Below w.heap.size w w' := by
 have hpl : xs.length ≤ 9223372036854775807 := hx.2.1
 refine RX.enter Tryd.func67 rfl 58 rfl [(0, .slice A xs.length c)] rfl (by kernel_rfl) (fun R_ hR_ => ?_)
 refine sq (rg (xe0 1 [(0, .slice A xs.length c)] ?_))
 refine nl (sq (sq (rg (xr0 1 [(10, .slice A xs.length c)] [] ?_))))
 refine xc 127 ent127 [.slice A xs.length c] (olen_any _ _ xs _ hx hn hz (hT.below (Below.refl _ _)) es (hE.below (Below.refl _ _))) ?_
 rintro e w_1 ⟨rfl, hb_2⟩; refine ⟨_, rfl, ?_⟩
 refine xr0 7 [(5, errV es ((lenP xs).2.2))] [10, 11] ?_
 refine nl (sq (rg (xr0 1 [(15, errV es ((lenP xs).2.2))] [5] ?_)))
 by_cases c_3 : (lenP xs).2.2 = 0
 ·rw [show errV es ((lenP xs).2.2) = .nilIface from by rw [c_3]; rfl]
  refine xr0 1 [(16, .bool false)] [15] ?_
  refine nl (cf (sk (sq (sq (rg (xr0 3 [(17, .slice A xs.length c), (18, .int .i64 (xs.length : Int)), (19, .int .i64 0)] [16] ?_))))))
  refine nl (bk (X_loop (ι := Nat) (fun i => [(0, .slice A xs.length c), (17, .slice A xs.length c), (18, .int .i64 (xs.length : Int)), (19, .int .i64 (i : Int))]) (fun i wl => i ≤ xs.length ∧ (∀ q, q + 1 < i → fitsP (xs.getD q op0) (xs.getD (q + 1) op0) = true) ∧ Below w.heap.size w wl) (fun i => xs.length - i) 0 ⟨by omega, fun q hq => by omega, hb_2⟩ (by kernel_rfl) ?_))
  rintro i wl ⟨hi, hch, HB⟩
  have hzi : ((i : Int) - 1).toNat = i - 1 := by omega
  refine sq (X_region ?_)
  by_cases c_4 : (i : Int) < (xs.length : Int)
  ·refine xr 1 [(20, .eq (.bool true))] [(20, .bool true)] [] [Value.bool (decide ((i : Int) < (xs.length : Int))) = Value.bool true] ⟨congrArg Value.bool (decide_eq_true (c_4)), trivial⟩ ?_
   refine nl (sq (ct (sk (sq (bk (sq (rg (xr0 1 [(21, nv i)] [20] ?_))))))))
   obtain ⟨ad_5, B_8, c_9, ha_6, hc_7, hl_10, hC_11⟩ := Kd.atOp (Kd.C_below hx HB) (i := (i : Int)) (by omega) (by omega)
   replace hc_7 : CellsAt wl (ad_5.add ((i : Int).toNat * 7)) [.int .i64 ((xs.getD i op0).kind), .string ((xs.getD i op0).text), .int .i64 ((xs.getD i op0).vk), .int .i64 ((xs.getD i op0).vn), .string ((xs.getD i op0).vt), .int .i64 ((xs.getD i op0).count), .slice B_8 ((xs.getD i op0).attrs.length) c_9] := hc_7
   replace hl_10 : (xs.getD i op0).attrs.length ≤ c_9 := hl_10
   replace hC_11 : kAttr.C wl B_8 ((xs.getD i op0).attrs.length) (xs.getD i op0).attrs := hC_11
   refine xw 3 [(22, .idx ad_5), (23, .load (.agg #[.int .i64 ((xs.getD i op0).kind), .string ((xs.getD i op0).text), .int .i64 ((xs.getD i op0).vk), .int .i64 ((xs.getD i op0).vn), .string ((xs.getD i op0).vt), .int .i64 ((xs.getD i op0).count), .slice B_8 ((xs.getD i op0).attrs.length) c_9]))] [(7, pw wl.heap.size 0), (23, .agg #[.int .i64 ((xs.getD i op0).kind), .string ((xs.getD i op0).text), .int .i64 ((xs.getD i op0).vk), .int .i64 ((xs.getD i op0).vn), .string ((xs.getD i op0).vt), .int .i64 ((xs.getD i op0).count), .slice B_8 ((xs.getD i op0).attrs.length) c_9])] [] (wl.alloc (.cells #[.int .i64 0, .string ByteArray.empty, .int .i64 0, .int .i64 0, .string ByteArray.empty, .int .i64 0, .slice none 0 0] 47)) [A = some ad_5, (0 : Int) ≤ (i : Int), (i : Int) < (xs.length : Int), LoadsAs Tryd.prog 47 (ad_5.add ((i : Int).toNat * 7)) (.agg #[.int .i64 ((xs.getD i op0).kind), .string ((xs.getD i op0).text), .int .i64 ((xs.getD i op0).vk), .int .i64 ((xs.getD i op0).vn), .string ((xs.getD i op0).vt), .int .i64 ((xs.getD i op0).count), .slice B_8 ((xs.getD i op0).attrs.length) c_9]) wl] ⟨ha_6, (by omega), (by omega), loadsE rfl rfl hc_7 0 ⟨by kernel_rfl, by kernel_rfl⟩, trivial⟩ ?_
   obtain ⟨w_12, hw_16, hb_13, hk_14, hz_15⟩ := new_world wl #[.int .i64 0, .string ByteArray.empty, .int .i64 0, .int .i64 0, .string ByteArray.empty, .int .i64 0, .slice none 0 0] 47
   rw [hw_16]
   refine xr0 1 [(6, nv i)] [21] ?_
   refine xst (.agg #[.int .i64 ((xs.getD i op0).kind), .string ((xs.getD i op0).text), .int .i64 ((xs.getD i op0).vk), .int .i64 ((xs.getD i op0).vn), .string ((xs.getD i op0).vt), .int .i64 ((xs.getD i op0).count), .slice B_8 ((xs.getD i op0).attrs.length) c_9]) hk_14 0 #[.int .i64 ((xs.getD i op0).kind), .string ((xs.getD i op0).text), .int .i64 ((xs.getD i op0).vk), .int .i64 ((xs.getD i op0).vn), .string ((xs.getD i op0).vt), .int .i64 ((xs.getD i op0).count), .slice B_8 ((xs.getD i op0).attrs.length) c_9] (fun w_17 hg_18 hk_19 hz_20 => ?_)
   refine nl (sq (X_any [9] 12 #[false, false, false, false, false, false, false, false, false, false, false, false] (by kernel_rfl) (by kernel_rfl) (by kernel_rfl) (fun wd_21 hb_22 hh_23 => ?_)))
   refine XA_run (fuel' := 11) [0] [] [.int .i64 (i : Int)] #[true, false, false, false, false, false, false, false, false, false, false, false] [(0, .slice A xs.length c), (6, .int .i64 (i : Int)), (7, .pointer (some ⟨wl.heap.size, 0, none⟩)), (17, .slice A xs.length c), (18, .int .i64 (xs.length : Int)), (19, .int .i64 (i : Int)), (24, .int .i64 (i : Int))] [] (fun _ _ _ _ h => h) (by kernel_rfl) rfl trivial ?_
   by_cases c_24 : (i : Int) > 0
   ·refine XA_run (fuel' := 6) [1, 2, 3, 4, 5] [(25, .eq (.bool true)), (29, .eq (.int .i64 ((i : Int) - 1)))] [.bool true, .bool true, .slice A xs.length c, .int .i64 (i : Int), .int .i64 ((i : Int) - 1)] #[true, true, true, true, true, true, false, false, false, false, false, false] [(0, .slice A xs.length c), (7, .pointer (some ⟨wl.heap.size, 0, none⟩)), (17, .slice A xs.length c), (18, .int .i64 (xs.length : Int)), (19, .int .i64 (i : Int)), (26, .bool true), (27, .slice A xs.length c), (29, .int .i64 ((i : Int) - 1))] [Value.bool (decide ((i : Int) > 0)) = Value.bool true, Value.int .i64 (IntKind.i64.wrap ((i : Int) - 1)) = Value.int .i64 ((i : Int) - 1)] (fun _ _ _ _ h => h) (by kernel_rfl) rfl ⟨congrArg Value.bool (decide_eq_true (c_24)), wr_i64 (by omega) (by omega), trivial⟩ ?_
    have hB_25 : Below w.heap.size w wd_21 := (bt (bg (bt HB hb_13) hg_18 (HB).size) hb_22)
    obtain ⟨ad_26, B_29, c_30, ha_27, hc_28, hl_31, hC_32⟩ := Kd.atOp (Kd.C_below hx hB_25) (i := (i : Int) - 1) (by omega) (by omega)
    replace hc_28 : CellsAt wd_21 (ad_26.add (((i : Int) - 1).toNat * 7)) [.int .i64 ((xs.getD ((i : Int) - 1).toNat op0).kind), .string ((xs.getD ((i : Int) - 1).toNat op0).text), .int .i64 ((xs.getD ((i : Int) - 1).toNat op0).vk), .int .i64 ((xs.getD ((i : Int) - 1).toNat op0).vn), .string ((xs.getD ((i : Int) - 1).toNat op0).vt), .int .i64 ((xs.getD ((i : Int) - 1).toNat op0).count), .slice B_29 ((xs.getD ((i : Int) - 1).toNat op0).attrs.length) c_30] := hc_28
    replace hl_31 : (xs.getD ((i : Int) - 1).toNat op0).attrs.length ≤ c_30 := hl_31
    replace hC_32 : kAttr.C wd_21 B_29 ((xs.getD ((i : Int) - 1).toNat op0).attrs.length) (xs.getD ((i : Int) - 1).toNat op0).attrs := hC_32
    refine XA_run (fuel' := 3) [6, 7, 8] [(30, .idx ad_26), (31, .load (.agg #[.int .i64 ((xs.getD ((i : Int) - 1).toNat op0).kind), .string ((xs.getD ((i : Int) - 1).toNat op0).text), .int .i64 ((xs.getD ((i : Int) - 1).toNat op0).vk), .int .i64 ((xs.getD ((i : Int) - 1).toNat op0).vn), .string ((xs.getD ((i : Int) - 1).toNat op0).vt), .int .i64 ((xs.getD ((i : Int) - 1).toNat op0).count), .slice B_29 ((xs.getD ((i : Int) - 1).toNat op0).attrs.length) c_30])), (32, .load (.agg #[.int .i64 ((xs.getD i op0).kind), .string ((xs.getD i op0).text), .int .i64 ((xs.getD i op0).vk), .int .i64 ((xs.getD i op0).vn), .string ((xs.getD i op0).vt), .int .i64 ((xs.getD i op0).count), .slice B_8 ((xs.getD i op0).attrs.length) c_9]))] [.pointer (some (ad_26.add (((i : Int) - 1).toNat * 7))), .agg #[.int .i64 ((xs.getD ((i : Int) - 1).toNat op0).kind), .string ((xs.getD ((i : Int) - 1).toNat op0).text), .int .i64 ((xs.getD ((i : Int) - 1).toNat op0).vk), .int .i64 ((xs.getD ((i : Int) - 1).toNat op0).vn), .string ((xs.getD ((i : Int) - 1).toNat op0).vt), .int .i64 ((xs.getD ((i : Int) - 1).toNat op0).count), .slice B_29 ((xs.getD ((i : Int) - 1).toNat op0).attrs.length) c_30], .agg #[.int .i64 ((xs.getD i op0).kind), .string ((xs.getD i op0).text), .int .i64 ((xs.getD i op0).vk), .int .i64 ((xs.getD i op0).vn), .string ((xs.getD i op0).vt), .int .i64 ((xs.getD i op0).count), .slice B_8 ((xs.getD i op0).attrs.length) c_9]] #[true, true, true, true, true, true, true, true, true, false, false, false] [(0, .slice A xs.length c), (17, .slice A xs.length c), (18, .int .i64 (xs.length : Int)), (19, .int .i64 (i : Int)), (26, .bool true), (31, .agg #[.int .i64 ((xs.getD ((i : Int) - 1).toNat op0).kind), .string ((xs.getD ((i : Int) - 1).toNat op0).text), .int .i64 ((xs.getD ((i : Int) - 1).toNat op0).vk), .int .i64 ((xs.getD ((i : Int) - 1).toNat op0).vn), .string ((xs.getD ((i : Int) - 1).toNat op0).vt), .int .i64 ((xs.getD ((i : Int) - 1).toNat op0).count), .slice B_29 ((xs.getD ((i : Int) - 1).toNat op0).attrs.length) c_30]), (32, .agg #[.int .i64 ((xs.getD i op0).kind), .string ((xs.getD i op0).text), .int .i64 ((xs.getD i op0).vk), .int .i64 ((xs.getD i op0).vn), .string ((xs.getD i op0).vt), .int .i64 ((xs.getD i op0).count), .slice B_8 ((xs.getD i op0).attrs.length) c_9])] [A = some ad_26, (0 : Int) ≤ (i : Int) - 1, (i : Int) - 1 < (xs.length : Int), LoadsAs Tryd.prog 47 (ad_26.add (((i : Int) - 1).toNat * 7)) (.agg #[.int .i64 ((xs.getD ((i : Int) - 1).toNat op0).kind), .string ((xs.getD ((i : Int) - 1).toNat op0).text), .int .i64 ((xs.getD ((i : Int) - 1).toNat op0).vk), .int .i64 ((xs.getD ((i : Int) - 1).toNat op0).vn), .string ((xs.getD ((i : Int) - 1).toNat op0).vt), .int .i64 ((xs.getD ((i : Int) - 1).toNat op0).count), .slice B_29 ((xs.getD ((i : Int) - 1).toNat op0).attrs.length) c_30]) wd_21, LoadsAs Tryd.prog 47 (⟨wl.heap.size, 0, none⟩) (.agg #[.int .i64 ((xs.getD i op0).kind), .string ((xs.getD i op0).text), .int .i64 ((xs.getD i op0).vk), .int .i64 ((xs.getD i op0).vn), .string ((xs.getD i op0).vt), .int .i64 ((xs.getD i op0).count), .slice B_8 ((xs.getD i op0).attrs.length) c_9]) wd_21] (fun _ _ _ _ h => h) (by kernel_rfl) rfl ⟨ha_27, (by omega), (by omega), loadsE rfl rfl hc_28 0 ⟨by kernel_rfl, by kernel_rfl⟩, loadsB rfl rfl (Blk.below hk_19 hb_22) 0 ⟨by kernel_rfl, by kernel_rfl⟩, trivial⟩ ?_
    refine XA_act (fuel' := 2) 9 #[true, true, true, true, true, true, true, true, true, true, false, false] _ rfl (by kernel_rfl) rfl (by kernel_rfl) rfl ?_
    have hB_33 : Below wl.heap.size wl wd_21 := (bt (bg hb_13 hg_18 (Nat.le_refl _)) hb_22)
    refine xc 128 ent128 [.agg #[.int .i64 ((xs.getD ((i : Int) - 1).toNat op0).kind), .string ((xs.getD ((i : Int) - 1).toNat op0).text), .int .i64 ((xs.getD ((i : Int) - 1).toNat op0).vk), .int .i64 ((xs.getD ((i : Int) - 1).toNat op0).vn), .string ((xs.getD ((i : Int) - 1).toNat op0).vt), .int .i64 ((xs.getD ((i : Int) - 1).toNat op0).count), .slice B_29 ((xs.getD ((i : Int) - 1).toNat op0).attrs.length) c_30], .agg #[.int .i64 ((xs.getD i op0).kind), .string ((xs.getD i op0).text), .int .i64 ((xs.getD i op0).vk), .int .i64 ((xs.getD i op0).vn), .string ((xs.getD i op0).vt), .int .i64 ((xs.getD i op0).count), .slice B_8 ((xs.getD i op0).attrs.length) c_9]] (fits_any (xs.getD ((i : Int) - 1).toNat op0) (xs.getD i op0) _ _ _ _ _ hC_32 (Kd.C_below hC_11 hB_33)) ?_
    rintro e w_34 ⟨rfl, hb_35⟩; refine ⟨_, rfl, ?_⟩
    refine nl ?_
    by_cases c_36 : fitsP (xs.getD ((i : Int) - 1).toNat op0) (xs.getD i op0) = true
    ·rw [show (fitsP (xs.getD ((i : Int) - 1).toNat op0) (xs.getD i op0) : Bool) = true from by simpa using c_36]
     refine XA_pure (fuel' := 0) [10, 11] [] [.bool false, .bool false] #[true, true, true, true, true, true, true, true, true, true, true, true] [(0, .slice A xs.length c), (17, .slice A xs.length c), (18, .int .i64 (xs.length : Int)), (19, .int .i64 (i : Int)), (35, .bool false)] (fun w_ => []) (fun _ _ _ _ h => h) (fun w_ => by kernel_rfl) rfl (fun w_ => trivial) ?_
     refine XA_done (by kernel_rfl) ?_
     refine cf (sk (rg (xr 2 [(36, .eq (.int .i64 ((i : Int) + 1)))] [(19, .int .i64 ((i : Int) + 1))] [35] [Value.int .i64 (IntKind.i64.wrap ((i : Int) + 1)) = Value.int .i64 ((i : Int) + 1)] ⟨wr_i64 (by omega) (by omega), trivial⟩ ?_)))
     refine nl ?_
     refine ⟨(i + 1), by kernel_rfl, ?_, ?_⟩
     ·exact ⟨by omega, fun q hq => by by_cases e_ : q + 1 = i; (· have h_ := c_36; rw [hzi] at h_; rw [show q = i - 1 from by omega, show i - 1 + 1 = i from by omega]; exact h_); (· exact hch q (by omega)), (bt hB_25 hb_35)⟩
     (try dsimp only); omega
    rw [show (fitsP (xs.getD ((i : Int) - 1).toNat op0) (xs.getD i op0) : Bool) = false from by simpa using c_36]
    refine XA_pure (fuel' := 0) [10, 11] [] [.bool true, .bool true] #[true, true, true, true, true, true, true, true, true, true, true, true] [(0, .slice A xs.length c), (17, .slice A xs.length c), (18, .int .i64 (xs.length : Int)), (19, .int .i64 (i : Int)), (35, .bool true)] (fun w_ => []) (fun _ _ _ _ h => h) (fun w_ => by kernel_rfl) rfl (fun w_ => trivial) ?_
    refine XA_done (by kernel_rfl) ?_
    refine ct (sq (rg (xe0 1 [(2, .bool false)] ?_)))
    refine nl (X_ret (rk [.bool false] (hR_ _ _ ?_)))
    rw [(canP_false xs).2 (fun hc_ => c_36 (by have h_ := hc_.2.1 (i - 1) (by omega); rw [show i - 1 + 1 = i from by omega] at h_; rw [hzi]; exact h_))]
    exact ⟨rfl, (bt hB_25 hb_35)⟩
   refine XA_run (fuel' := 3) [1, 2, 3, 4, 5, 6, 7, 8] [(25, .eq (.bool false))] [.bool false, .bool false, undef, undef, undef, undef, undef, undef] #[true, true, true, true, true, true, true, true, true, false, false, false] [(0, .slice A xs.length c), (17, .slice A xs.length c), (18, .int .i64 (xs.length : Int)), (19, .int .i64 (i : Int)), (26, .bool false), (31, undef), (32, undef)] [Value.bool (decide ((i : Int) > 0)) = Value.bool false] (fun _ _ _ _ h => h) (by kernel_rfl) rfl ⟨congrArg Value.bool (decide_eq_false (c_24)), trivial⟩ ?_
   refine XA_pure (fuel' := 2) [9] [] [undef] #[true, true, true, true, true, true, true, true, true, true, false, false] [(0, .slice A xs.length c), (17, .slice A xs.length c), (18, .int .i64 (xs.length : Int)), (19, .int .i64 (i : Int)), (26, .bool false), (33, undef)] (fun w_ => []) (fun _ _ _ _ h => h) (fun w_ => by kernel_rfl) rfl (fun w_ => trivial) ?_
   refine XA_pure (fuel' := 0) [10, 11] [] [undef, .bool false] #[true, true, true, true, true, true, true, true, true, true, true, true] [(0, .slice A xs.length c), (17, .slice A xs.length c), (18, .int .i64 (xs.length : Int)), (19, .int .i64 (i : Int)), (35, .bool false)] (fun w_ => []) (fun _ _ _ _ h => h) (fun w_ => by kernel_rfl) rfl (fun w_ => trivial) ?_
   refine XA_done (by kernel_rfl) ?_
   refine cf (sk (rg (xr 2 [(36, .eq (.int .i64 ((i : Int) + 1)))] [(19, .int .i64 ((i : Int) + 1))] [35] [Value.int .i64 (IntKind.i64.wrap ((i : Int) + 1)) = Value.int .i64 ((i : Int) + 1)] ⟨wr_i64 (by omega) (by omega), trivial⟩ ?_)))
   refine nl ?_
   have hB_37 : Below w.heap.size w wd_21 := (bt (bg (bt HB hb_13) hg_18 (HB).size) hb_22)
   refine ⟨(i + 1), by kernel_rfl, ?_, ?_⟩
   ·exact ⟨by omega, fun q hq => by omega, hB_37⟩
   (try dsimp only); omega
  refine xr 1 [(20, .eq (.bool false))] [(20, .bool false)] [] [Value.bool (decide ((i : Int) < (xs.length : Int))) = Value.bool false] ⟨congrArg Value.bool (decide_eq_false (c_4)), trivial⟩ ?_
  refine nl (sq (cf (X_exit (sq (sq (rg (xr0 3 [(8, .int .i64 (xs.length : Int))] [17, 18, 19, 20] ?_)))))))
  refine nl (sq (rg (xr0 1 [(39, .int .i64 (xs.length : Int))] [] ?_)))
  by_cases c_38 : (xs.length : Int) > 0
  ·refine xr 1 [(40, .eq (.bool true))] [(40, .bool true)] [39] [Value.bool (decide ((xs.length : Int) > 0)) = Value.bool true] ⟨congrArg Value.bool (decide_eq_true (c_38)), trivial⟩ ?_
   refine nl (ct (sq (rg (xr 3 [(43, .eq (.int .i64 ((xs.length : Int) - 1)))] [(41, .slice A xs.length c), (43, .int .i64 ((xs.length : Int) - 1))] [40] [Value.int .i64 (IntKind.i64.wrap ((xs.length : Int) - 1)) = Value.int .i64 ((xs.length : Int) - 1)] ⟨wr_i64 (by omega) (by omega), trivial⟩ ?_))))
   obtain ⟨ad_39, B_42, c_43, ha_40, hc_41, hl_44, hC_45⟩ := Kd.atOp (Kd.C_below hx HB) (i := (xs.length : Int) - 1) (by omega) (by omega)
   replace hc_41 : CellsAt wl (ad_39.add (((xs.length : Int) - 1).toNat * 7)) [.int .i64 ((xs.getD ((xs.length : Int) - 1).toNat op0).kind), .string ((xs.getD ((xs.length : Int) - 1).toNat op0).text), .int .i64 ((xs.getD ((xs.length : Int) - 1).toNat op0).vk), .int .i64 ((xs.getD ((xs.length : Int) - 1).toNat op0).vn), .string ((xs.getD ((xs.length : Int) - 1).toNat op0).vt), .int .i64 ((xs.getD ((xs.length : Int) - 1).toNat op0).count), .slice B_42 ((xs.getD ((xs.length : Int) - 1).toNat op0).attrs.length) c_43] := hc_41
   replace hl_44 : (xs.getD ((xs.length : Int) - 1).toNat op0).attrs.length ≤ c_43 := hl_44
   replace hC_45 : kAttr.C wl B_42 ((xs.getD ((xs.length : Int) - 1).toNat op0).attrs.length) (xs.getD ((xs.length : Int) - 1).toNat op0).attrs := hC_45
   refine xe 3 [(44, .idx ad_39), (46, .load (.int .i64 ((xs.getD ((xs.length : Int) - 1).toNat op0).kind)))] [(0, .slice A xs.length c), (8, .int .i64 (xs.length : Int)), (46, .int .i64 ((xs.getD ((xs.length : Int) - 1).toNat op0).kind))] [A = some ad_39, (0 : Int) ≤ (xs.length : Int) - 1, (xs.length : Int) - 1 < (xs.length : Int), LoadsAs Tryd.prog 3 (ad_39.add (((xs.length : Int) - 1).toNat * 7)) (.int .i64 ((xs.getD ((xs.length : Int) - 1).toNat op0).kind)) wl] ⟨ha_40, (by omega), (by omega), loads1 rfl (elem_cell hc_41 0 _ rfl), trivial⟩ ?_
   by_cases c_46 : (xs.getD ((xs.length : Int) - 1).toNat op0).kind = 3
   ·refine xe 5 [(47, .eq (.bool false)), (51, .eq (.int .i64 ((xs.length : Int) - 1)))] [(48, .bool false), (49, .slice A xs.length c), (51, .int .i64 ((xs.length : Int) - 1))] [Value.bool ((xs.getD ((xs.length : Int) - 1).toNat op0).kind != 3) = Value.bool false, Value.int .i64 (IntKind.i64.wrap ((xs.length : Int) - 1)) = Value.int .i64 ((xs.length : Int) - 1)] ⟨congrArg Value.bool (bneF (c_46)), wr_i64 (by omega) (by omega), trivial⟩ ?_
    obtain ⟨ad_47, B_50, c_51, ha_48, hc_49, hl_52, hC_53⟩ := Kd.atOp (Kd.C_below hx HB) (i := (xs.length : Int) - 1) (by omega) (by omega)
    replace hc_49 : CellsAt wl (ad_47.add (((xs.length : Int) - 1).toNat * 7)) [.int .i64 ((xs.getD ((xs.length : Int) - 1).toNat op0).kind), .string ((xs.getD ((xs.length : Int) - 1).toNat op0).text), .int .i64 ((xs.getD ((xs.length : Int) - 1).toNat op0).vk), .int .i64 ((xs.getD ((xs.length : Int) - 1).toNat op0).vn), .string ((xs.getD ((xs.length : Int) - 1).toNat op0).vt), .int .i64 ((xs.getD ((xs.length : Int) - 1).toNat op0).count), .slice B_50 ((xs.getD ((xs.length : Int) - 1).toNat op0).attrs.length) c_51] := hc_49
    replace hl_52 : (xs.getD ((xs.length : Int) - 1).toNat op0).attrs.length ≤ c_51 := hl_52
    replace hC_53 : kAttr.C wl B_50 ((xs.getD ((xs.length : Int) - 1).toNat op0).attrs.length) (xs.getD ((xs.length : Int) - 1).toNat op0).attrs := hC_53
    refine xr 4 [(52, .idx ad_47), (54, .load (.slice B_50 ((xs.getD ((xs.length : Int) - 1).toNat op0).attrs.length) c_51))] [(55, .int .i64 ((xs.getD ((xs.length : Int) - 1).toNat op0).attrs.length : Int))] [49, 51] [A = some ad_47, (0 : Int) ≤ (xs.length : Int) - 1, (xs.length : Int) - 1 < (xs.length : Int), LoadsAs Tryd.prog 45 ((ad_47.add (((xs.length : Int) - 1).toNat * 7)).add 6) (.slice B_50 ((xs.getD ((xs.length : Int) - 1).toNat op0).attrs.length) c_51) wl] ⟨ha_48, (by omega), (by omega), loads1 rfl (elem_cell hc_49 6 _ rfl), trivial⟩ ?_
    by_cases c_54 : ((xs.getD ((xs.length : Int) - 1).toNat op0).attrs.length : Int) > 0
    ·refine xe 3 [(56, .eq (.bool true))] [(2, .bool true)] [Value.bool (decide (((xs.getD ((xs.length : Int) - 1).toNat op0).attrs.length : Int) > 0)) = Value.bool true] ⟨congrArg Value.bool (decide_eq_true (c_54)), trivial⟩ ?_
     refine nl (X_ret (rk [.bool true] (hR_ _ _ ?_)))
     have hzl : ((xs.length : Int) - 1).toNat = xs.length - 1 := by omega
     rw [hzl] at c_46
     rw [hzl] at c_54
     rw [(canP_iff xs).2 ⟨c_3, fun q hq => hch q (by omega), by unfold plainR; first | exact .inl (by omega) | exact .inr (by intro h_; omega)⟩]
     exact ⟨rfl, HB⟩
    refine xe 3 [(56, .eq (.bool false))] [(2, .bool false)] [Value.bool (decide (((xs.getD ((xs.length : Int) - 1).toNat op0).attrs.length : Int) > 0)) = Value.bool false] ⟨congrArg Value.bool (decide_eq_false (c_54)), trivial⟩ ?_
    refine nl (X_ret (rk [.bool false] (hR_ _ _ ?_)))
    have hzl : ((xs.length : Int) - 1).toNat = xs.length - 1 := by omega
    rw [hzl] at c_46
    rw [hzl] at c_54
    rw [(canP_false xs).2 (fun hc_ => by have h_ := hc_.2.2; unfold plainR at h_; rcases h_ with h_ | h_; (· omega); (· exact h_ ⟨by omega, by omega⟩))]
    exact ⟨rfl, HB⟩
   refine xe 12 [(47, .eq (.bool true))] [(2, .bool true)] [Value.bool ((xs.getD ((xs.length : Int) - 1).toNat op0).kind != 3) = Value.bool true] ⟨congrArg Value.bool (bneT (c_46)), trivial⟩ ?_
   refine nl (X_ret (rk [.bool true] (hR_ _ _ ?_)))
   have hzl : ((xs.length : Int) - 1).toNat = xs.length - 1 := by omega
   rw [hzl] at c_46
   rw [(canP_iff xs).2 ⟨c_3, fun q hq => hch q (by omega), by unfold plainR; first | exact .inl (by omega) | exact .inr (by intro h_; omega)⟩]
   exact ⟨rfl, HB⟩
  refine xr 1 [(40, .eq (.bool false))] [(40, .bool false)] [39] [Value.bool (decide ((xs.length : Int) > 0)) = Value.bool false] ⟨congrArg Value.bool (decide_eq_false (c_38)), trivial⟩ ?_
  refine nl (cf (sk (sq (rg (xe0 1 [(2, .bool true)] ?_)))))
  refine nl (X_ret (rk [.bool true] (hR_ _ _ ?_)))
  have hzl : ((xs.length : Int) - 1).toNat = xs.length - 1 := by omega
  rw [(canP_iff xs).2 ⟨c_3, fun q hq => hch q (by omega), by unfold plainR; first | exact .inl (by omega) | exact .inr (by intro h_; omega)⟩]
  exact ⟨rfl, HB⟩
 rw [errV_pos es ((lenP xs).2.2) (Nat.pos_of_ne_zero c_3)]
 refine xr0 1 [(16, .bool true)] [15] ?_
 refine nl (ct (sq (rg (xe0 1 [(2, .bool false)] ?_))))
 refine nl (X_ret (rk [.bool false] (hR_ _ _ ?_)))
 rw [can_last c_3]
 exact ⟨rfl, hb_2⟩
def opEqP (a b : OpA) : Bool := decide (a.kind = b.kind) && (decide (a.text = b.text) && (decide (a.count = b.count) && (decide (((a.vk, a.vn, a.vt) : Pl) = (b.vk, b.vn, b.vt)) && decide (a.attrs = b.attrs))))
theorem opEqP_iff (a b : OpA) : opEqP a b = true ↔ a = b := by
 obtain ⟨a1, a2, a3, a4, a5, a6, a7⟩ := a
 obtain ⟨b1, b2, b3, b4, b5, b6, b7⟩ := b
 simp only [opEqP, Bool.and_eq_true, decide_eq_true_eq, Prod.mk.injEq, OpA.mk.injEq]
 exact ⟨fun ⟨h1, h2, h3, ⟨h4, h5, h6⟩, h7⟩ => ⟨h1, h2, h4, h5, h6, h3, h7⟩, fun ⟨h1, h2, h4, h5, h6, h3, h7⟩ => ⟨h1, h2, h3, ⟨h4, h5, h6⟩, h7⟩⟩
noncomputable def opsEqP (xs ys : List OpA) : Bool := @decide (xs = ys) (Classical.propDecidable _)
theorem opsEqP_iff (xs ys : List OpA) : opsEqP xs ys = true ↔ xs = ys := by unfold opsEqP; exact @decide_eq_true_iff _ (Classical.propDecidable _)
theorem opsEqP_false (xs ys : List OpA) : opsEqP xs ys = false ↔ ¬ xs = ys := by rw [← opsEqP_iff]; cases opsEqP xs ys <;> simp
theorem ops_ext {xs ys : List OpA} (hl : xs.length = ys.length) (h : ∀ q, q < xs.length → xs.getD q op0 = ys.getD q op0) : xs = ys :=
 List.ext_getElem hl fun q h1 h2 => by have := h q h1; simpa [List.getD_eq_getElem?_getD, List.getElem?_eq_getElem h1, List.getElem?_eq_getElem h2] using this
end Go.Proofs.YtkehomiogkoomaaDoor
