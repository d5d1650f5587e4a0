import Derived.Test.YtgphmfnkeolbcaaDoorO1
import Derived.Test.YtgphmfnkeolbcaaDoorInv
/- What ops.Check, Of, Lengths, Canonical and Same answer. Conditions: sizes, the tables of utf8, the errors' variables. -/
set_option linter.unusedVariables false
set_option linter.unusedSimpArgs false
set_option maxRecDepth 100000
namespace Go.Proofs.YtgphmfnkeolbcaaDoor
open Go Go.RowKit Go.Proofs.YtgphmfnkeolbcaaDoorW.PrintWords RX
theorem ent65 : Ent Tryd.prog 65 := ent_of Tryd.func65 (by kernel_rfl) rfl
theorem ent66 : Ent Tryd.prog 66 := ent_of Tryd.func66 (by kernel_rfl) rfl
theorem ent63 : Ent Tryd.prog 63 := ent_of Tryd.func63 (by kernel_rfl) rfl
theorem ent39 : Ent Tryd.prog 39 := ent_of Tryd.func39 (by kernel_rfl) rfl
theorem ent62 : Ent Tryd.prog 62 := ent_of Tryd.func62 (by kernel_rfl) rfl
theorem info59 : (Tryd.prog.info? 59).map (fun i => (i.zero, i.size, i.bytes)) = some (some (.agg #[.int .i64 0, .string ByteArray.empty, .int .i64 0, .int .i64 0, .string ByteArray.empty, .int .i64 0, .slice none 0 0]), 7, 88) := by kernel_rfl
theorem info87 : (Tryd.prog.info? 87).map (fun i => (i.zero, i.size, i.bytes)) = some (some .nilIface, 1, 16) := by kernel_rfl
theorem insertLen_any (A : Option Addr) (n c : Nat) (t : ByteArray) (k : Int) (w : World) : Calls Tryd.prog 112 #[.agg #[.slice A n c, .string t, .int .i64 k]] w fun e w' => e = .returned (.int .i64 k) ∧ Below w.heap.size w w' := by
 refine RX.enter Tryd.func112 rfl 5 rfl [(0, .agg #[.slice A n c, .string t, .int .i64 k])] rfl (by kernel_rfl) (fun R_ hR_ => ?_)
 refine sq (rg (xwe 1 [] [(1, pw w.heap.size 0)] (w.alloc (.cells #[.slice A n c, .string t, .int .i64 k] 139)) [] trivial ?_))
 obtain ⟨w_1, hw_5, hb_2, hk_3, hz_4⟩ := new_world w #[.slice A n c, .string t, .int .i64 k] 139
 rw [hw_5]
 refine xr0 1 [] [] ?_
 refine nl (sq (rg (xe 3 [(4, .load (.int .i64 k))] [(2, .int .i64 k)] [LoadsAs Tryd.prog 3 (⟨w.heap.size, 2, none⟩) (.int .i64 k) w_1] ⟨loads1 rfl (Blk.cell hk_3 2 _ rfl), trivial⟩ ?_)))
 refine nl (X_ret (rk [.int .i64 k] (hR_ _ _ ?_)))
 exact ⟨rfl, hb_2⟩
theorem embedLen_any (A : Option Addr) (n c : Nat) (t : ByteArray) (v : Value) (w : World) : Calls Tryd.prog 114 #[.agg #[.slice A n c, .string t, v]] w fun e w' => e = .returned (.int .i64 1) ∧ Below w.heap.size w w' := by
 refine RX.enter Tryd.func114 rfl 3 rfl [(0, .agg #[.slice A n c, .string t, v])] rfl (by kernel_rfl) (fun R_ hR_ => ?_)
 refine sq (rg (xwe 1 [] [] (w.alloc (.cells #[.slice A n c, .string t, v] 143)) [] trivial ?_))
 obtain ⟨w_1, hw_5, hb_2, hk_3, hz_4⟩ := new_world w #[.slice A n c, .string t, v] 143
 rw [hw_5]
 refine xe0 1 [] ?_
 refine nl (sq (rg (xe0 1 [(2, .int .i64 1)] ?_)))
 refine nl (X_ret (rk [.int .i64 1] (hR_ _ _ ?_)))
 exact ⟨rfl, hb_2⟩
theorem ocheck_any (o : OpA) (A : Option Addr) (c : Nat) (w : World) (hA : kAttr.C w A o.attrs.length o.attrs) (hz : opSz o) (hT : Tabs w) (es : List Addr) (hE : ErrsO w es) : Calls Tryd.prog 65 #[.agg (o7A o (.slice A o.attrs.length c))] w fun e w' => e = .returned (errV es (pErr o)) ∧ Below w.heap.size w w' := by
 refine RX.enter Tryd.func65 rfl 11 rfl [(0, .agg (o7A o (.slice A o.attrs.length c)))] rfl (by kernel_rfl) (fun R_ hR_ => ?_)
 refine sq (rg (xwe 1 [] [(1, pw w.heap.size 0)] (w.alloc (.cells (o7A o (.slice A o.attrs.length c)) 59)) [] trivial ?_))
 obtain ⟨w_1, hw_5, hb_2, hk_3, hz_4⟩ := new_world w (o7A o (.slice A o.attrs.length c)) 59
 rw [hw_5]
 refine xr0 1 [] [] ?_
 refine nl (sq (rg (xe 1 [(6, .load (.agg (o7A o (.slice A o.attrs.length c))))] [(6, .agg (o7A o (.slice A o.attrs.length c)))] [LoadsAs Tryd.prog 59 (⟨w.heap.size, 0, none⟩) (.agg (o7A o (.slice A o.attrs.length c))) w_1] ⟨loadsB rfl rfl hk_3 0 ⟨by kernel_rfl, by kernel_rfl⟩, trivial⟩ ?_)))
 refine xc 78 ent78 [.agg (o7A o (.slice A o.attrs.length c))] (piece_any o _ _ _ (Kd.C_below hA hb_2) hz (hT.below hb_2) es (hE.below hb_2)) ?_
 rintro e w_9 ⟨v_6, rfl, hM_7, hN_8, hb_10⟩; refine ⟨_, rfl, ?_⟩
 refine xe0 5 [(4, errV es (pErr o))] ?_
 refine nl (sq (rg (xe0 2 [(2, errV es (pErr o))] ?_)))
 refine nl (X_ret (rk [errV es (pErr o)] (hR_ _ _ ?_)))
 exact ⟨rfl, (bt hb_2 hb_10)⟩
noncomputable def ofP (xs : List OpA) : List PieceA := if badE xs = 0 then xs.map pOf else []
theorem ofP_ok {xs : List OpA} (h : badE xs = 0) : ofP xs = xs.map pOf := if_pos h
theorem ofP_bad {xs : List OpA} (h : badE xs ≠ 0) : ofP xs = [] := if_neg h
theorem kPiece_iface {w : World} {p : PieceA} {v : Value} (h : kPiece.K w p [v]) : ∃ T u, v = .iface T u := by
 cases p with
 | ins a t n => obtain ⟨A, c, e, _⟩ := kPiece_ins h; exact ⟨_, _, (List.cons.inj e).1⟩
 | emb a t n => obtain ⟨A, c, e, _⟩ := kPiece_emb h; exact ⟨_, _, (List.cons.inj e).1⟩
 | ret a n => obtain ⟨A, c, e, _⟩ := kPiece_ret h; exact ⟨_, _, (List.cons.inj e).1⟩
 | del n => have e := kPiece_del h; exact ⟨_, _, (List.cons.inj e).1⟩
theorem map_getD {α β : Type} (f : α → β) (d : α) (d' : β) {xs : List α} {i : Nat} (h : i < xs.length) : (xs.map f).getD i d' = f (xs.getD i d) := by
 rw [List.getD_eq_getElem?_getD, List.getD_eq_getElem?_getD, List.getElem?_map, List.getElem?_eq_getElem h]; rfl
theorem map_take_snoc (xs : List OpA) (i : Nat) (h : i < xs.length) : (xs.take i).map pOf ++ [pOf (xs.getD i op0)] = (xs.take (i + 1)).map pOf := by rw [take_snocD op0 xs i h, List.map_append]; rfl
set_option maxHeartbeats 2000000 in
theorem of_any (A : Option Addr) (c : Nat) (xs : List OpA) (w : World) (hx : kOp.C w A xs.length xs) (hn : xs.length ≤ 100000000) (hz : ∀ i, i < xs.length → opSz (xs.getD i op0)) (hT : Tabs w) (es : List Addr) (hE : ErrsO w es) : Calls Tryd.prog 66 #[.slice A xs.length c] w fun e w' => ∃ A' c', e = .returned (.tuple #[.slice A' (ofP xs).length c', .int .i64 (badI xs : Int), errV es (badE xs)]) ∧ kPiece.R 87 w' w.heap.size (OkFrom w.heap.size) (.slice A' (ofP xs).length c') (ofP xs) ∧ Below w.heap.size w w' := by
 have hpl : xs.length ≤ 9223372036854775807 := hx.2.1
 refine RX.enter Tryd.func66 rfl 32 rfl [(0, .slice A xs.length c)] rfl (by kernel_rfl) (fun R_ hR_ => ?_)
 refine sq (rg (xe0 3 [(0, .slice A xs.length c)] ?_))
 refine nl (sq (rg (xr0 1 [(5, .slice none 0 0)] [] ?_)))
 refine nl (sq (sq (rg (xr0 3 [(10, .slice A xs.length c), (11, .int .i64 (xs.length : Int)), (12, .int .i64 0)] [0] ?_))))
 refine nl (bk (X_loop (ι := Nat × Option Addr × Nat × List PieceA) (fun ⟨i, A5, c5, zs5⟩ => [(5, .slice A5 zs5.length c5), (10, .slice A xs.length c), (11, .int .i64 (xs.length : Int)), (12, .int .i64 (i : Int))]) (fun ⟨i, A5, c5, zs5⟩ wl => i ≤ xs.length ∧ badE (xs.take i) = 0 ∧ zs5 = (xs.take i).map pOf ∧ kPiece.R 87 wl w.heap.size (OkFrom w.heap.size) (.slice A5 zs5.length c5) zs5 ∧ Below w.heap.size w wl) (fun ⟨i, A5, c5, zs5⟩ => xs.length - i) (0, none, 0, []) ⟨by omega, rfl, rfl, Kd.R_nil _ _ _ _ _, (Below.refl _ _)⟩ (by kernel_rfl) ?_))
 rintro ⟨i, A5, c5, zs5⟩ wl ⟨hi, hb0, he5, hr5, HB⟩
 have hzl : zs5.length = min i xs.length := by rw [he5, List.length_map, List.length_take]
 refine sq (X_region ?_)
 by_cases c_1 : (i : Int) < (xs.length : Int)
 ·refine xr 1 [(13, .eq (.bool true))] [(13, .bool true)] [] [Value.bool (decide ((i : Int) < (xs.length : Int))) = Value.bool true] ⟨congrArg Value.bool (decide_eq_true (c_1)), trivial⟩ ?_
  refine nl (sq (ct (sk (sq (bk (sq (rg (xr0 1 [(14, nv i)] [13] ?_))))))))
  obtain ⟨ad_2, B_5, c_6, ha_3, hc_4, hl_7, hC_8⟩ := Kd.atOp (Kd.C_below hx HB) (i := (i : Int)) (by omega) (by omega)
  replace hc_4 : CellsAt wl (ad_2.add ((i : Int).toNat * 7)) (o7L (xs.getD i op0) (.slice B_5 ((xs.getD i op0).attrs.length) c_6)) := hc_4
  replace hl_7 : (xs.getD i op0).attrs.length ≤ c_6 := hl_7
  replace hC_8 : kAttr.C wl B_5 ((xs.getD i op0).attrs.length) (xs.getD i op0).attrs := hC_8
  refine xw 3 [(15, .idx ad_2), (16, .load (.agg (o7A (xs.getD i op0) (.slice B_5 ((xs.getD i op0).attrs.length) c_6))))] [(7, pw wl.heap.size 0), (16, .agg (o7A (xs.getD i op0) (.slice B_5 ((xs.getD i op0).attrs.length) c_6)))] [] (wl.alloc (.cells #[.int .i64 0, .string ByteArray.empty, .int .i64 0, .int .i64 0, .string ByteArray.empty, .int .i64 0, .slice none 0 0] 59)) [A = some ad_2, (0 : Int) ≤ (i : Int), (i : Int) < (xs.length : Int), LoadsAs Tryd.prog 59 (ad_2.add ((i : Int).toNat * 7)) (.agg (o7A (xs.getD i op0) (.slice B_5 ((xs.getD i op0).attrs.length) c_6))) wl] ⟨ha_3, (by omega), (by omega), loadsE rfl rfl hc_4 0 ⟨by kernel_rfl, by kernel_rfl⟩, trivial⟩ ?_
  obtain ⟨w_9, hw_13, hb_10, hk_11, hz_12⟩ := new_world wl #[.int .i64 0, .string ByteArray.empty, .int .i64 0, .int .i64 0, .string ByteArray.empty, .int .i64 0, .slice none 0 0] 59
  rw [hw_13]
  refine xr0 1 [(6, nv i)] [14] ?_
  refine xst (.agg (o7A (xs.getD i op0) (.slice B_5 ((xs.getD i op0).attrs.length) c_6))) hk_11 0 (o7A (xs.getD i op0) (.slice B_5 ((xs.getD i op0).attrs.length) c_6)) (fun w_14 hg_15 hk_16 hz_17 => ?_)
  refine nl (sq (rg (xr 1 [(18, .load (.agg (o7A (xs.getD i op0) (.slice B_5 ((xs.getD i op0).attrs.length) c_6))))] [(18, .agg (o7A (xs.getD i op0) (.slice B_5 ((xs.getD i op0).attrs.length) c_6)))] [7, 16] [LoadsAs Tryd.prog 59 (⟨wl.heap.size, 0, none⟩) (.agg (o7A (xs.getD i op0) (.slice B_5 ((xs.getD i op0).attrs.length) c_6))) w_14] ⟨loadsB rfl rfl hk_16 0 ⟨by kernel_rfl, by kernel_rfl⟩, trivial⟩ ?_)))
  refine xc 78 ent78 [.agg (o7A (xs.getD i op0) (.slice B_5 ((xs.getD i op0).attrs.length) c_6))] (piece_any (xs.getD i op0) _ _ _ (Kd.C_below hC_8 (bg hb_10 hg_15 (Nat.le_refl _))) (hz i (by omega)) (hT.below (bg (bt HB hb_10) hg_15 (HB).size)) es (hE.below (bg (bt HB hb_10) hg_15 (HB).size))) ?_
  rintro e w_21 ⟨v_18, rfl, hM_19, hN_20, hb_22⟩; refine ⟨_, rfl, ?_⟩
  refine xe0 5 [(5, .slice A5 zs5.length c5), (6, nv i), (8, v_18), (9, errV es (pErr (xs.getD i op0))), (10, .slice A xs.length c), (11, .int .i64 (xs.length : Int)), (12, nv i)] ?_
  refine nl (sq (sq (rg (xr0 1 [(22, errV es (pErr (xs.getD i op0)))] [] ?_))))
  by_cases c_23 : (pErr (xs.getD i op0)) = 0
  ·rw [show errV es (pErr (xs.getD i op0)) = .nilIface from by rw [c_23]; rfl]
   refine xr0 1 [(9, .nilIface), (23, .bool false)] [22] ?_
   refine nl (cf (sk (X_region ?_)))
   have hm_26 := hM_19 c_23
   obtain ⟨T_24, u_25, rfl⟩ := kPiece_iface (kPiece.K_of_M hm_26)
   refine xw 3 [] [(26, .slice A5 zs5.length c5), (28, .slice (some ⟨w_21.heap.size, 0, none⟩) 1 1)] [5, 6, 8, 9, 23] (w_21.alloc (.cells #[.iface T_24 u_25] 87)) [] trivial ?_
   obtain ⟨w_27, hw_31, hb_28, hk_29, hz_30⟩ := new_world w_21 #[.iface T_24 u_25] 87
   rw [hw_31]
   have hB_35 : Below wl.heap.size wl w_21 := (bt (bg hb_10 hg_15 (Nat.le_refl _)) hb_22)
   obtain ⟨okp_32, hM_33, hok_34⟩ := Kd.M_apart hm_26 ((bg (bt HB hb_10) hg_15 (HB).size)).size (Kd.R_below hr5 hB_35) (by decide)
   rw [← hw_31]
   have hB_44 : Below w.heap.size w w_21 := (bt (bg (bt HB hb_10) hg_15 (HB).size) hb_22)
   refine XL_append kPiece rfl rfl rfl w.heap.size 87 .nilIface 16 Tryd.underlying62 info87 rfl (by decide) (by omega) zs5 (pOf (xs.getD i op0)) [.iface T_24 u_25] okp_32 (by kernel_rfl) hM_33 hok_34 (Kd.R_below hr5 hB_35) (hB_44).size (by first | omega | (simp; omega)) ?_
   intro A_36 c_37 w_38 hr_39 hc_40 hg_41 hl_42 ha_43
   refine xr0 1 [(5, .slice A_36 ((zs5 ++ [(pOf (xs.getD i op0))]).length) c_37)] [26, 28, 29] ?_
   refine nl (rg (xr 2 [(30, .eq (.int .i64 ((i : Int) + 1)))] [(12, .int .i64 ((i : Int) + 1))] [] [Value.int .i64 (IntKind.i64.wrap ((i : Int) + 1)) = Value.int .i64 ((i : Int) + 1)] ⟨wr_i64 (by omega) (by omega), trivial⟩ ?_))
   refine nl ?_
   refine ⟨(i + 1, A_36, c_37, (zs5 ++ [(pOf (xs.getD i op0))])), by kernel_rfl, ?_, ?_⟩
   ·exact ⟨by omega, badE_succ (by omega) hb0 c_23, by rw [he5]; exact map_take_snoc xs i (by omega), hr_39, (bgo hB_44 hg_41 hl_42 (Nat.le_refl _))⟩
   (try dsimp only); omega
  rw [errV_pos es (pErr (xs.getD i op0)) (Nat.pos_of_ne_zero c_23)]
  refine xr0 1 [(9, .iface 164 (.pointer (some (errAt es (pErr (xs.getD i op0)))))), (23, .bool true)] [22] ?_
  refine nl (ct (sq (rg (xe0 5 [(2, .slice none 0 0), (3, nv i), (4, .iface 164 (.pointer (some (errAt es (pErr (xs.getD i op0))))))] ?_))))
  refine nl (X_ret (rk [.slice none 0 0, .int .i64 (i : Int), .iface 164 (.pointer (some (errAt es (pErr (xs.getD i op0)))))] (hR_ _ _ ?_)))
  have hB_45 : Below w.heap.size w w_21 := (bt (bg (bt HB hb_10) hg_15 (HB).size) hb_22)
  have hbe := badE_stop (xs := xs) (i := i) (by omega) hb0 c_23
  have hbi := badI_stop (xs := xs) (i := i) (by omega) hb0 c_23
  have hof := ofP_bad (xs := xs) (by rw [hbe]; exact c_23)
  rw [hof, hbi, hbe, errV_pos es _ (Nat.pos_of_ne_zero c_23)]
  exact ⟨none, 0, rfl, Kd.R_nil _ _ _ _ _, hB_45⟩
 refine xr 1 [(13, .eq (.bool false))] [(13, .bool false)] [] [Value.bool (decide ((i : Int) < (xs.length : Int))) = Value.bool false] ⟨congrArg Value.bool (decide_eq_false (c_1)), trivial⟩ ?_
 refine nl (sq (cf (X_exit (sq (rg (xe0 4 [(2, .slice A5 zs5.length c5), (3, .int .i64 0), (4, .nilIface)] ?_))))))
 refine nl (X_ret (rk [.slice A5 zs5.length c5, .int .i64 0, .nilIface] (hR_ _ _ ?_)))
 have hxi : xs.take i = xs := List.take_of_length_le (by omega)
 rw [hxi] at hb0 he5
 have hof : ofP xs = zs5 := by rw [ofP_ok hb0, he5]
 rw [hof, badI_none hb0, hb0]
 exact ⟨_, _, rfl, hr5, HB⟩
def opEqP (a b : OpA) : Bool := decide (a.kind = b.kind) && (decide (a.text = b.text) && (decide (a.count = b.count) && (decide (((a.vk, a.vn, a.vt) : Pl) = (b.vk, b.vn, b.vt)) && decide (a.attrs = b.attrs))))
theorem opEqP_iff (a b : OpA) : opEqP a b = true ↔ a = b := by
 obtain ⟨a1, a2, a3, a4, a5, a6, a7⟩ := a
 obtain ⟨b1, b2, b3, b4, b5, b6, b7⟩ := b
 simp only [opEqP, Bool.and_eq_true, decide_eq_true_eq, Prod.mk.injEq, OpA.mk.injEq]
 exact ⟨fun ⟨h1, h2, h3, ⟨h4, h5, h6⟩, h7⟩ => ⟨h1, h2, h4, h5, h6, h3, h7⟩, fun ⟨h1, h2, h4, h5, h6, h3, h7⟩ => ⟨h1, h2, h3, ⟨h4, h5, h6⟩, h7⟩⟩
noncomputable def opsEqP (xs ys : List OpA) : Bool := @decide (xs = ys) (Classical.propDecidable _)
theorem opsEqP_iff (xs ys : List OpA) : opsEqP xs ys = true ↔ xs = ys := by unfold opsEqP; exact @decide_eq_true_iff _ (Classical.propDecidable _)
theorem opsEqP_false (xs ys : List OpA) : opsEqP xs ys = false ↔ ¬ xs = ys := by rw [← opsEqP_iff]; cases opsEqP xs ys <;> simp
theorem ops_ext {xs ys : List OpA} (hl : xs.length = ys.length) (h : ∀ q, q < xs.length → xs.getD q op0 = ys.getD q op0) : xs = ys :=
 List.ext_getElem hl fun q h1 h2 => by have := h q h1; simpa [List.getD_eq_getElem?_getD, List.getElem?_eq_getElem h1, List.getElem?_eq_getElem h2] using this
theorem same1_any (a b : OpA) (A B : Option Addr) (c d : Nat) (w : World) (hA : kAttr.C w A a.attrs.length a.attrs) (hB : kAttr.C w B b.attrs.length b.attrs) : Calls Tryd.prog 63 #[.agg (o7A a (.slice A a.attrs.length c)), .agg (o7A b (.slice B b.attrs.length d))] w fun e w' => e = .returned (.bool (opEqP a b)) ∧ Below w.heap.size w w' := by
 refine RX.enter Tryd.func63 rfl 38 rfl [(0, .agg (o7A a (.slice A a.attrs.length c))), (1, .agg (o7A b (.slice B b.attrs.length d)))] rfl (by kernel_rfl) (fun R_ hR_ => ?_)
 refine sq (rg (xwe 1 [] [(1, .agg (o7A b (.slice B b.attrs.length d))), (2, pw w.heap.size 0)] (w.alloc (.cells (o7A a (.slice A a.attrs.length c)) 59)) [] trivial ?_))
 obtain ⟨w_1, hw_5, hb_2, hk_3, hz_4⟩ := new_world w (o7A a (.slice A a.attrs.length c)) 59
 rw [hw_5]
 refine xw 1 [] [(3, pw w_1.heap.size 0)] [1] (w_1.alloc (.cells (o7A b (.slice B b.attrs.length d)) 59)) [] trivial ?_
 obtain ⟨w_6, hw_10, hb_7, hk_8, hz_9⟩ := new_world w_1 (o7A b (.slice B b.attrs.length d)) 59
 rw [hw_10]
 refine xr0 1 [] [] ?_
 refine nl (sq (rg (xr 4 [(6, .load (.int .i64 a.kind)), (8, .load (.int .i64 b.kind))] [(6, .int .i64 a.kind), (8, .int .i64 b.kind)] [] [LoadsAs Tryd.prog 3 (⟨w.heap.size, 0, none⟩) (.int .i64 a.kind) w_6, LoadsAs Tryd.prog 3 (⟨w_1.heap.size, 0, none⟩) (.int .i64 b.kind) w_6] ⟨loads1 rfl (Blk.cell (Blk.below hk_3 hb_7) 0 _ rfl), loads1 rfl (Blk.cell hk_8 0 _ rfl), trivial⟩ ?_)))
 by_cases c_11 : a.kind = b.kind
 ·refine xr 6 [(9, .eq (.bool true)), (12, .load (.string a.text)), (14, .load (.string b.text))] [(10, .bool true), (12, .string a.text), (14, .string b.text)] [6, 8] [Value.bool (a.kind == b.kind) = Value.bool true, LoadsAs Tryd.prog 9 (⟨w.heap.size, 1, none⟩) (.string a.text) w_6, LoadsAs Tryd.prog 9 (⟨w_1.heap.size, 1, none⟩) (.string b.text) w_6] ⟨congrArg Value.bool (beq_iff_eq.2 (c_11)), loads1 rfl (Blk.cell (Blk.below hk_3 hb_7) 1 _ rfl), loads1 rfl (Blk.cell hk_8 1 _ rfl), trivial⟩ ?_
  by_cases c_12 : a.text = b.text
  ·refine xr 7 [(15, .eq (.bool true)), (19, .load (.int .i64 a.count)), (21, .load (.int .i64 b.count))] [(17, .bool true), (19, .int .i64 a.count), (21, .int .i64 b.count)] [10, 12, 14] [Value.bool (a.text.toList == b.text.toList) = Value.bool true, LoadsAs Tryd.prog 3 (⟨w.heap.size, 5, none⟩) (.int .i64 a.count) w_6, LoadsAs Tryd.prog 3 (⟨w_1.heap.size, 5, none⟩) (.int .i64 b.count) w_6] ⟨congrArg Value.bool (strEqT (c_12)), loads1 rfl (Blk.cell (Blk.below hk_3 hb_7) 5 _ rfl), loads1 rfl (Blk.cell hk_8 5 _ rfl), trivial⟩ ?_
   by_cases c_13 : a.count = b.count
   ·refine xe 7 [(22, .eq (.bool true)), (26, .load (.agg #[.int .i64 a.vk, .int .i64 a.vn, .string a.vt])), (28, .load (.agg #[.int .i64 b.vk, .int .i64 b.vn, .string b.vt]))] [(2, pw w.heap.size 0), (3, pw w_1.heap.size 0), (24, .bool true), (26, .agg #[.int .i64 a.vk, .int .i64 a.vn, .string a.vt]), (28, .agg #[.int .i64 b.vk, .int .i64 b.vn, .string b.vt])] [Value.bool (a.count == b.count) = Value.bool true, LoadsAs Tryd.prog 41 (⟨w.heap.size, 2, none⟩) (.agg #[.int .i64 a.vk, .int .i64 a.vn, .string a.vt]) w_6, LoadsAs Tryd.prog 41 (⟨w_1.heap.size, 2, none⟩) (.agg #[.int .i64 b.vk, .int .i64 b.vn, .string b.vt]) w_6] ⟨congrArg Value.bool (beq_iff_eq.2 (c_13)), loadsB rfl rfl (Blk.below hk_3 hb_7) 2 ⟨by kernel_rfl, by kernel_rfl⟩, loadsB rfl rfl hk_8 2 ⟨by kernel_rfl, by kernel_rfl⟩, trivial⟩ ?_
    refine xc 53 ent53 [.agg #[.int .i64 a.vk, .int .i64 a.vn, .string a.vt], .agg #[.int .i64 b.vk, .int .i64 b.vn, .string b.vt]] (vsame_any (a.vk, a.vn, a.vt) (b.vk, b.vn, b.vt) _) ?_
    rintro e w_14 ⟨rfl, hb_15⟩; refine ⟨_, rfl, ?_⟩
    refine xr0 2 [(31, .bool (decide (((a.vk, a.vn, a.vt) : Pl) = (b.vk, b.vn, b.vt))))] [24, 26, 28, 29] ?_
    by_cases c_16 : decide (((a.vk, a.vn, a.vt) : Pl) = (b.vk, b.vn, b.vt)) = true
    ·rw [show (decide (((a.vk, a.vn, a.vt) : Pl) = (b.vk, b.vn, b.vt)) : Bool) = true from by simpa using c_16]
     refine xe 4 [(33, .load (.slice A a.attrs.length c)), (35, .load (.slice B b.attrs.length d))] [(31, .bool true), (33, .slice A a.attrs.length c), (35, .slice B b.attrs.length d)] [LoadsAs Tryd.prog 42 (⟨w.heap.size, 6, none⟩) (.slice A a.attrs.length c) w_14, LoadsAs Tryd.prog 42 (⟨w_1.heap.size, 6, none⟩) (.slice B b.attrs.length d) w_14] ⟨loads1 rfl (Blk.cell (Blk.below hk_3 (bt hb_7 hb_15)) 6 _ rfl), loads1 rfl (Blk.cell (Blk.below hk_8 hb_15) 6 _ rfl), trivial⟩ ?_
     refine xc 56 ent56 [.slice A a.attrs.length c, .slice B b.attrs.length d] (asame_any _ _ _ _ a.attrs b.attrs _ (Kd.C_below hA (bt (bt hb_2 hb_7) hb_15)) (Kd.C_below hB (bt (bt hb_2 hb_7) hb_15))) ?_
     rintro e w_17 ⟨rfl, hb_18⟩; refine ⟨_, rfl, ?_⟩
     refine xe0 2 [(4, .bool (decide (a.attrs = b.attrs)))] ?_
     refine nl (X_ret (rk [.bool (decide (a.attrs = b.attrs))] (hR_ _ _ ?_)))
     rw [show opEqP a b = decide (a.attrs = b.attrs) from by unfold opEqP; simp_all]
     exact ⟨rfl, (bt (bt (bt hb_2 hb_7) hb_15) hb_18)⟩
    rw [show (decide (((a.vk, a.vn, a.vt) : Pl) = (b.vk, b.vn, b.vt)) : Bool) = false from by simpa using c_16]
    refine xe0 7 [(4, .bool false)] ?_
    refine nl (X_ret (rk [.bool false] (hR_ _ _ ?_)))
    rw [show opEqP a b = false from by unfold opEqP; simp_all]
    exact ⟨rfl, (bt (bt hb_2 hb_7) hb_15)⟩
   refine xe 17 [(22, .eq (.bool false))] [(4, .bool false)] [Value.bool (a.count == b.count) = Value.bool false] ⟨congrArg Value.bool (beq_eq_false_iff_ne.2 (c_13)), trivial⟩ ?_
   refine nl (X_ret (rk [.bool false] (hR_ _ _ ?_)))
   rw [show opEqP a b = false from by unfold opEqP; simp_all]
   exact ⟨rfl, (bt hb_2 hb_7)⟩
  refine xe 24 [(15, .eq (.bool false))] [(4, .bool false)] [Value.bool (a.text.toList == b.text.toList) = Value.bool false] ⟨congrArg Value.bool (strEqF (c_12)), trivial⟩ ?_
  refine nl (X_ret (rk [.bool false] (hR_ _ _ ?_)))
  rw [show opEqP a b = false from by unfold opEqP; simp_all]
  exact ⟨rfl, (bt hb_2 hb_7)⟩
 refine xe 30 [(9, .eq (.bool false))] [(4, .bool false)] [Value.bool (a.kind == b.kind) = Value.bool false] ⟨congrArg Value.bool (beq_eq_false_iff_ne.2 (c_11)), trivial⟩ ?_
 refine nl (X_ret (rk [.bool false] (hR_ _ _ ?_)))
 rw [show opEqP a b = false from by unfold opEqP; simp_all]
 exact ⟨rfl, (bt hb_2 hb_7)⟩
theorem equalF_any (A B : Option Addr) (c d : Nat) (xs ys : List OpA) (w : World) (hx : kOp.C w A xs.length xs) (hy : kOp.C w B ys.length ys) : Calls Tryd.prog 62 #[.slice A xs.length c, .slice B ys.length d, .func (.func 63) #[] #[]] w fun e w' => e = .returned (.bool (opsEqP xs ys)) ∧ Below w.heap.size w w' := by
 have hpl : xs.length ≤ 9223372036854775807 := hx.2.1
 refine RX.enter Tryd.func62 rfl 32 rfl [(0, .slice A xs.length c), (1, .slice B ys.length d), (2, .func (.func 63) #[] #[])] rfl (by kernel_rfl) (fun R_ hR_ => ?_)
 refine sq (rg (xe0 1 [(0, .slice A xs.length c), (1, .slice B ys.length d), (2, .func (.func 63) #[] #[])] ?_))
 refine nl (sq (sq (rg (xr0 4 [(11, .int .i64 (xs.length : Int)), (13, .int .i64 (ys.length : Int))] [] ?_))))
 by_cases c_1 : (xs.length : Int) = (ys.length : Int)
 ·refine xr 1 [(14, .eq (.bool false))] [(14, .bool false)] [11, 13] [Value.bool ((xs.length : Int) != (ys.length : Int)) = Value.bool false] ⟨congrArg Value.bool (bneF (c_1)), trivial⟩ ?_
  refine nl (cf (sk (sq (sq (rg (xr0 3 [(15, .slice A xs.length c), (16, .int .i64 (xs.length : Int)), (17, .int .i64 0)] [0, 14] ?_))))))
  refine nl (bk (X_loop (ι := Nat) (fun i => [(1, .slice B ys.length d), (2, .func (.func 63) #[] #[]), (15, .slice A xs.length c), (16, .int .i64 (xs.length : Int)), (17, .int .i64 (i : Int))]) (fun i wl => i ≤ xs.length ∧ xs.length = ys.length ∧ (∀ q, q < i → xs.getD q op0 = ys.getD q op0) ∧ Below w.heap.size w wl) (fun i => xs.length - i) 0 ⟨by omega, by omega, fun q hq => by omega, (Below.refl _ _)⟩ (by kernel_rfl) ?_))
  rintro i wl ⟨hi, hlen, hq0, HB⟩
  refine sq (X_region ?_)
  by_cases c_2 : (i : Int) < (xs.length : Int)
  ·refine xr 1 [(18, .eq (.bool true))] [(18, .bool true)] [] [Value.bool (decide ((i : Int) < (xs.length : Int))) = Value.bool true] ⟨congrArg Value.bool (decide_eq_true (c_2)), trivial⟩ ?_
   refine nl (sq (ct (sk (sq (bk (sq (rg (xr0 1 [(19, nv i)] [18] ?_))))))))
   obtain ⟨ad_3, B_6, c_7, ha_4, hc_5, hl_8, hC_9⟩ := Kd.atOp (Kd.C_below hx HB) (i := (i : Int)) (by omega) (by omega)
   replace hc_5 : CellsAt wl (ad_3.add ((i : Int).toNat * 7)) (o7L (xs.getD i op0) (.slice B_6 ((xs.getD i op0).attrs.length) c_7)) := hc_5
   replace hl_8 : (xs.getD i op0).attrs.length ≤ c_7 := hl_8
   replace hC_9 : kAttr.C wl B_6 ((xs.getD i op0).attrs.length) (xs.getD i op0).attrs := hC_9
   refine xw 3 [(20, .idx ad_3), (21, .load (.agg (o7A (xs.getD i op0) (.slice B_6 ((xs.getD i op0).attrs.length) c_7))))] [(8, pw wl.heap.size 0), (21, .agg (o7A (xs.getD i op0) (.slice B_6 ((xs.getD i op0).attrs.length) c_7)))] [] (wl.alloc (.cells #[.int .i64 0, .string ByteArray.empty, .int .i64 0, .int .i64 0, .string ByteArray.empty, .int .i64 0, .slice none 0 0] 59)) [A = some ad_3, (0 : Int) ≤ (i : Int), (i : Int) < (xs.length : Int), LoadsAs Tryd.prog 59 (ad_3.add ((i : Int).toNat * 7)) (.agg (o7A (xs.getD i op0) (.slice B_6 ((xs.getD i op0).attrs.length) c_7))) wl] ⟨ha_4, (by omega), (by omega), loadsE rfl rfl hc_5 0 ⟨by kernel_rfl, by kernel_rfl⟩, trivial⟩ ?_
   obtain ⟨w_10, hw_14, hb_11, hk_12, hz_13⟩ := new_world wl #[.int .i64 0, .string ByteArray.empty, .int .i64 0, .int .i64 0, .string ByteArray.empty, .int .i64 0, .slice none 0 0] 59
   rw [hw_14]
   refine xr0 1 [(7, nv i)] [19] ?_
   refine xst (.agg (o7A (xs.getD i op0) (.slice B_6 ((xs.getD i op0).attrs.length) c_7))) hk_12 0 (o7A (xs.getD i op0) (.slice B_6 ((xs.getD i op0).attrs.length) c_7)) (fun w_15 hg_16 hk_17 hz_18 => ?_)
   refine nl (sq (rg (xr0 2 [(22, .slice B ys.length d), (23, nv i)] [7, 21] ?_)))
   obtain ⟨ad_19, B_22, c_23, ha_20, hc_21, hl_24, hC_25⟩ := Kd.atOp (Kd.C_below hy (bg (bt HB hb_11) hg_16 (HB).size)) (i := (i : Int)) (by omega) (by omega)
   replace hc_21 : CellsAt w_15 (ad_19.add ((i : Int).toNat * 7)) (o7L (ys.getD i op0) (.slice B_22 ((ys.getD i op0).attrs.length) c_23)) := hc_21
   replace hl_24 : (ys.getD i op0).attrs.length ≤ c_23 := hl_24
   replace hC_25 : kAttr.C w_15 B_22 ((ys.getD i op0).attrs.length) (ys.getD i op0).attrs := hC_25
   refine xwe 3 [(24, .idx ad_19), (25, .load (.agg (o7A (ys.getD i op0) (.slice B_22 ((ys.getD i op0).attrs.length) c_23))))] [(1, .slice B ys.length d), (2, .func (.func 63) #[] #[]), (8, pw wl.heap.size 0), (9, pw w_15.heap.size 0), (15, .slice A xs.length c), (16, .int .i64 (xs.length : Int)), (17, nv i), (25, .agg (o7A (ys.getD i op0) (.slice B_22 ((ys.getD i op0).attrs.length) c_23)))] (w_15.alloc (.cells #[.int .i64 0, .string ByteArray.empty, .int .i64 0, .int .i64 0, .string ByteArray.empty, .int .i64 0, .slice none 0 0] 59)) [B = some ad_19, (0 : Int) ≤ (i : Int), (i : Int) < (ys.length : Int), LoadsAs Tryd.prog 59 (ad_19.add ((i : Int).toNat * 7)) (.agg (o7A (ys.getD i op0) (.slice B_22 ((ys.getD i op0).attrs.length) c_23))) w_15] ⟨ha_20, (by omega), (by omega), loadsE rfl rfl hc_21 0 ⟨by kernel_rfl, by kernel_rfl⟩, trivial⟩ ?_
   obtain ⟨w_26, hw_30, hb_27, hk_28, hz_29⟩ := new_world w_15 #[.int .i64 0, .string ByteArray.empty, .int .i64 0, .int .i64 0, .string ByteArray.empty, .int .i64 0, .slice none 0 0] 59
   rw [hw_30]
   refine xst (.agg (o7A (ys.getD i op0) (.slice B_22 ((ys.getD i op0).attrs.length) c_23))) hk_28 0 (o7A (ys.getD i op0) (.slice B_22 ((ys.getD i op0).attrs.length) c_23)) (fun w_31 hg_32 hk_33 hz_34 => ?_)
   refine nl (sq (rg (xr 3 [(27, .load (.agg (o7A (xs.getD i op0) (.slice B_6 ((xs.getD i op0).attrs.length) c_7)))), (28, .load (.agg (o7A (ys.getD i op0) (.slice B_22 ((ys.getD i op0).attrs.length) c_23))))] [(26, .func (.func 63) #[] #[]), (27, .agg (o7A (xs.getD i op0) (.slice B_6 ((xs.getD i op0).attrs.length) c_7))), (28, .agg (o7A (ys.getD i op0) (.slice B_22 ((ys.getD i op0).attrs.length) c_23)))] [8, 9, 25] [LoadsAs Tryd.prog 59 (⟨wl.heap.size, 0, none⟩) (.agg (o7A (xs.getD i op0) (.slice B_6 ((xs.getD i op0).attrs.length) c_7))) w_31, LoadsAs Tryd.prog 59 (⟨w_15.heap.size, 0, none⟩) (.agg (o7A (ys.getD i op0) (.slice B_22 ((ys.getD i op0).attrs.length) c_23))) w_31] ⟨loadsB rfl rfl (Blk.below hk_17 (bg hb_27 hg_32 (Nat.le_refl _))) 0 ⟨by kernel_rfl, by kernel_rfl⟩, loadsB rfl rfl hk_33 0 ⟨by kernel_rfl, by kernel_rfl⟩, trivial⟩ ?_)))
   have hB_37 : Below wl.heap.size wl w_31 := (bg (bt (bg hb_11 hg_16 (Nat.le_refl _)) hb_27) hg_32 ((bg hb_11 hg_16 (Nat.le_refl _))).size)
   refine XL_callv 63 rfl rfl rfl ent63 #[] rfl [.agg (o7A (xs.getD i op0) (.slice B_6 ((xs.getD i op0).attrs.length) c_7)), .agg (o7A (ys.getD i op0) (.slice B_22 ((ys.getD i op0).attrs.length) c_23))] (by kernel_rfl) (same1_any (xs.getD i op0) (ys.getD i op0) _ _ _ _ _ (Kd.C_below hC_9 hB_37) (Kd.C_below hC_25 (bg hb_27 hg_32 (Nat.le_refl _)))) ?_
   rintro e w_35 ⟨rfl, hb_36⟩; refine ⟨_, rfl, ?_⟩
   by_cases c_38 : opEqP (xs.getD i op0) (ys.getD i op0) = true
   ·rw [show (opEqP (xs.getD i op0) (ys.getD i op0) : Bool) = true from by simpa using c_38]
    refine xr0 1 [(30, .bool false)] [26, 27, 28, 29] ?_
    refine nl (cf (sk (rg (xr 2 [(31, .eq (.int .i64 ((i : Int) + 1)))] [(17, .int .i64 ((i : Int) + 1))] [30] [Value.int .i64 (IntKind.i64.wrap ((i : Int) + 1)) = Value.int .i64 ((i : Int) + 1)] ⟨wr_i64 (by omega) (by omega), trivial⟩ ?_))))
    refine nl ?_
    have hB_39 : Below w.heap.size w w_35 := (bt (bg (bt (bg (bt HB hb_11) hg_16 (HB).size) hb_27) hg_32 ((bg (bt HB hb_11) hg_16 (HB).size)).size) hb_36)
    refine ⟨(i + 1), by kernel_rfl, ?_, ?_⟩
    ·exact ⟨by omega, by omega, fun q hq => by by_cases e_ : q = i; (· subst e_; exact (opEqP_iff _ _).1 c_38); (· exact hq0 q (by omega)), hB_39⟩
    (try dsimp only); omega
   rw [show (opEqP (xs.getD i op0) (ys.getD i op0) : Bool) = false from by simpa using c_38]
   refine xr0 1 [(30, .bool true)] [26, 27, 28, 29] ?_
   refine nl (ct (sq (rg (xe0 1 [(6, .bool false)] ?_))))
   refine nl (X_ret (rk [.bool false] (hR_ _ _ ?_)))
   have hB_40 : Below w.heap.size w w_35 := (bt (bg (bt (bg (bt HB hb_11) hg_16 (HB).size) hb_27) hg_32 ((bg (bt HB hb_11) hg_16 (HB).size)).size) hb_36)
   rw [(opsEqP_false xs ys).2 (fun e_ => c_38 ((opEqP_iff _ _).2 (by rw [e_])))]
   exact ⟨rfl, hB_40⟩
  refine xr 1 [(18, .eq (.bool false))] [(18, .bool false)] [] [Value.bool (decide ((i : Int) < (xs.length : Int))) = Value.bool false] ⟨congrArg Value.bool (decide_eq_false (c_2)), trivial⟩ ?_
  refine nl (sq (cf (X_exit (sq (rg (xe0 1 [(6, .bool true)] ?_))))))
  refine nl (X_ret (rk [.bool true] (hR_ _ _ ?_)))
  rw [(opsEqP_iff xs ys).2 (ops_ext hlen (fun q hq => hq0 q (by omega)))]
  exact ⟨rfl, HB⟩
 refine xr 1 [(14, .eq (.bool true))] [(14, .bool true)] [11, 13] [Value.bool ((xs.length : Int) != (ys.length : Int)) = Value.bool true] ⟨congrArg Value.bool (bneT (c_1)), trivial⟩ ?_
 refine nl (ct (sq (rg (xe0 1 [(6, .bool false)] ?_))))
 refine nl (X_ret (rk [.bool false] (hR_ _ _ ?_)))
 rw [(opsEqP_false xs ys).2 (fun e_ => by subst e_; omega)]
 exact ⟨rfl, (Below.refl _ _)⟩
theorem osame_any (A B : Option Addr) (c d : Nat) (xs ys : List OpA) (w : World) (hx : kOp.C w A xs.length xs) (hy : kOp.C w B ys.length ys) : Calls Tryd.prog 39 #[.slice A xs.length c, .slice B ys.length d] w fun e w' => e = .returned (.bool (opsEqP xs ys)) ∧ Below w.heap.size w w' := by
 refine RX.enter Tryd.func39 rfl 8 rfl [(0, .slice A xs.length c), (1, .slice B ys.length d)] rfl (by kernel_rfl) (fun R_ hR_ => ?_)
 refine sq (rg (xe0 1 [(0, .slice A xs.length c), (1, .slice B ys.length d)] ?_))
 refine nl (sq (rg (xe0 2 [(5, .slice A xs.length c), (6, .slice B ys.length d)] ?_)))
 refine xc 62 ent62 [.slice A xs.length c, .slice B ys.length d, .func (.func 63) #[] #[]] (equalF_any _ _ _ _ xs ys _ hx hy) ?_
 rintro e w_1 ⟨rfl, hb_2⟩; refine ⟨_, rfl, ?_⟩
 refine xe0 1 [(4, .bool (opsEqP xs ys))] ?_
 refine nl (X_ret (rk [.bool (opsEqP xs ys)] (hR_ _ _ ?_)))
 exact ⟨rfl, hb_2⟩
end Go.Proofs.YtgphmfnkeolbcaaDoor
