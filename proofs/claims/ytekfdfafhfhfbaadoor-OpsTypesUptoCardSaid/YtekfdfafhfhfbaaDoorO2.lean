/- What ops.Check, Of, Lengths, Canonical and Same answer. Conditions: sizes, the tables of utf8, the errors' variables. -/
import Derived.Test.YtekfdfafhfhfbaaDoorO1
import Derived.Test.YtekfdfafhfhfbaaDoorA3
import Derived.Test.YtekfdfafhfhfbaaDoorInv
set_option linter.unusedVariables false
set_option linter.unusedSimpArgs false
set_option maxRecDepth 100000
namespace Go.Proofs.YtekfdfafhfhfbaaDoor
open Go Go.RowKit Go.Proofs.YtekfdfafhfhfbaaDoorW.PrintWords RX
theorem ent110 : Ent Tryd.prog 110 := ent_of Tryd.func110 (by kernel_rfl) rfl
theorem ent18 : Ent Tryd.prog 18 := ent_of Tryd.func18 (by kernel_rfl) rfl
theorem ent26 : Ent Tryd.prog 26 := ent_of Tryd.func26 (by kernel_rfl) rfl
theorem ent69 : Ent Tryd.prog 69 := ent_of Tryd.func69 (by kernel_rfl) rfl
theorem ent20 : Ent Tryd.prog 20 := ent_of Tryd.func20 (by kernel_rfl) rfl
theorem ent72 : Ent Tryd.prog 72 := ent_of Tryd.func72 (by kernel_rfl) rfl
theorem ent22 : Ent Tryd.prog 22 := ent_of Tryd.func22 (by kernel_rfl) rfl
theorem ent75 : Ent Tryd.prog 75 := ent_of Tryd.func75 (by kernel_rfl) rfl
theorem ent24 : Ent Tryd.prog 24 := ent_of Tryd.func24 (by kernel_rfl) rfl
theorem ent74 : Ent Tryd.prog 74 := ent_of Tryd.func74 (by kernel_rfl) rfl
theorem ent165 : Ent Tryd.prog 165 := ent_of Tryd.func165 (by kernel_rfl) rfl
theorem ent167 : Ent Tryd.prog 167 := ent_of Tryd.func167 (by kernel_rfl) rfl
theorem info33 : (Tryd.prog.info? 33).map (fun i => (i.zero, i.size, i.bytes)) = some (some (.agg #[.int .i64 0, .string ByteArray.empty, .int .i64 0, .int .i64 0, .string ByteArray.empty, .int .i64 0, .slice none 0 0]), 7, 88) := by kernel_rfl
theorem info47 : (Tryd.prog.info? 47).map (fun i => (i.zero, i.size, i.bytes)) = some (some .nilIface, 1, 16) := by kernel_rfl
theorem sum_any (a b : Int) (w : World) (h0 : -1000000000000000000 ≤ a + b) (h1 : a + b ≤ 1000000000000000000) : Calls Tryd.prog 110 #[.int .i64 a, .int .i64 b] w fun e w' => e = .returned (.int .i64 (min (a + b) 1099511627777)) ∧ Below w.heap.size w w' := by
  refine RX.enter Tryd.func110 rfl 9 rfl [(0, .int .i64 a), (1, .int .i64 b)] rfl (by kernel_rfl) (fun R_ hR_ => ?_)
  refine X_seq ?_
  refine X_region ?_
  refine XL_run 1 [] [(0, .int .i64 a), (1, .int .i64 b)] w [] (by kernel_rfl) trivial ?_
  refine XL_nil ?_
  refine X_seq ?_
  refine X_region ?_
  refine XL_run 5 [(7, .eq (.int .i64 (a + b))), (8, .eq (.int .i64 (min (a + b) 1099511627777)))] [(4, .int .i64 (min (a + b) 1099511627777))] w [Value.int .i64 (IntKind.i64.wrap (a + b)) = Value.int .i64 (a + b), Value.int .i64 (if 1099511627777 < a + b then 1099511627777 else a + b) = Value.int .i64 (min (a + b) 1099511627777)] (by kernel_rfl) ⟨wr_i64 (by omega) (by omega), congrArg (Value.int .i64) (min_eq _ _), trivial⟩ ?_
  refine XL_nil ?_
  refine X_ret ?_
  refine RX.ret_ok (P := Tryd.prog) (fn := Tryd.f110) (N := 9) (R := R_) [.int .i64 (min (a + b) 1099511627777)] (by kernel_rfl) (hR_ _ _ ?_)
  exact ⟨rfl, (Below.refl _ _)⟩
theorem insertLen_any (A : Option Addr) (n c : Nat) (t : ByteArray) (k : Int) (w : World) : Calls Tryd.prog 165 #[.agg #[.slice A n c, .string t, .int .i64 k]] w fun e w' => e = .returned (.int .i64 k) ∧ Below w.heap.size w w' := by
  refine RX.enter Tryd.func165 rfl 5 rfl [(0, .agg #[.slice A n c, .string t, .int .i64 k])] rfl (by kernel_rfl) (fun R_ hR_ => ?_)
  refine X_seq ?_
  refine X_region ?_
  refine XL_run 1 [] [(1, .pointer (some ⟨w.heap.size, 0, none⟩))] (w.alloc (.cells #[.slice A n c, .string t, .int .i64 k] 51)) [] (by kernel_rfl) trivial ?_
  obtain ⟨w_1, hw_5, hb_2, hk_3, hz_4⟩ := new_world w #[.slice A n c, .string t, .int .i64 k] 51
  rw [hw_5]
  refine XL_run 1 [] [(1, .pointer (some ⟨w.heap.size, 0, none⟩))] w_1 [] (by kernel_rfl) trivial ?_
  refine XL_nil ?_
  refine X_seq ?_
  refine X_region ?_
  refine XL_run 3 [(4, .load (.int .i64 k))] [(2, .int .i64 k)] w_1 [LoadsAs Tryd.prog 3 (⟨w.heap.size, 2, none⟩) (.int .i64 k) w_1] (by kernel_rfl) ⟨loads1 rfl (Blk.cell hk_3 2 _ rfl), trivial⟩ ?_
  refine XL_nil ?_
  refine X_ret ?_
  refine RX.ret_ok (P := Tryd.prog) (fn := Tryd.f165) (N := 5) (R := R_) [.int .i64 k] (by kernel_rfl) (hR_ _ _ ?_)
  exact ⟨rfl, hb_2⟩
theorem embedLen_any (A : Option Addr) (n c : Nat) (t : ByteArray) (v : Value) (w : World) : Calls Tryd.prog 167 #[.agg #[.slice A n c, .string t, v]] w fun e w' => e = .returned (.int .i64 1) ∧ Below w.heap.size w w' := by
  refine RX.enter Tryd.func167 rfl 3 rfl [(0, .agg #[.slice A n c, .string t, v])] rfl (by kernel_rfl) (fun R_ hR_ => ?_)
  refine X_seq ?_
  refine X_region ?_
  refine XL_run 1 [] [] (w.alloc (.cells #[.slice A n c, .string t, v] 56)) [] (by kernel_rfl) trivial ?_
  obtain ⟨w_1, hw_5, hb_2, hk_3, hz_4⟩ := new_world w #[.slice A n c, .string t, v] 56
  rw [hw_5]
  refine XL_run 1 [] [] w_1 [] (by kernel_rfl) trivial ?_
  refine XL_nil ?_
  refine X_seq ?_
  refine X_region ?_
  refine XL_run 1 [] [(2, .int .i64 1)] w_1 [] (by kernel_rfl) trivial ?_
  refine XL_nil ?_
  refine X_ret ?_
  refine RX.ret_ok (P := Tryd.prog) (fn := Tryd.f167) (N := 3) (R := R_) [.int .i64 1] (by kernel_rfl) (hR_ _ _ ?_)
  exact ⟨rfl, hb_2⟩
theorem ocheck_any (o : OpA) (A : Option Addr) (c : Nat) (w : World) (hA : kAttr.C w A o.attrs.length o.attrs) (hz : opSz o) (hT : Tabs w) (es : List Addr) (hE : ErrsO w es) : Calls Tryd.prog 18 #[.agg #[.int .i64 o.kind, .string o.text, .int .i64 o.vk, .int .i64 o.vn, .string o.vt, .int .i64 o.count, .slice A o.attrs.length c]] w fun e w' => e = .returned (errV es (pErr o)) ∧ Below w.heap.size w w' := by
  refine RX.enter Tryd.func18 rfl 11 rfl [(0, .agg #[.int .i64 o.kind, .string o.text, .int .i64 o.vk, .int .i64 o.vn, .string o.vt, .int .i64 o.count, .slice A o.attrs.length c])] rfl (by kernel_rfl) (fun R_ hR_ => ?_)
  refine X_seq ?_
  refine X_region ?_
  refine XL_run 1 [] [(1, .pointer (some ⟨w.heap.size, 0, none⟩))] (w.alloc (.cells #[.int .i64 o.kind, .string o.text, .int .i64 o.vk, .int .i64 o.vn, .string o.vt, .int .i64 o.count, .slice A o.attrs.length c] 33)) [] (by kernel_rfl) trivial ?_
  obtain ⟨w_1, hw_5, hb_2, hk_3, hz_4⟩ := new_world w #[.int .i64 o.kind, .string o.text, .int .i64 o.vk, .int .i64 o.vn, .string o.vt, .int .i64 o.count, .slice A o.attrs.length c] 33
  rw [hw_5]
  refine XL_run 1 [] [(1, .pointer (some ⟨w.heap.size, 0, none⟩))] w_1 [] (by kernel_rfl) trivial ?_
  refine XL_nil ?_
  refine X_seq ?_
  refine X_region ?_
  refine XL_run 1 [(6, .load (.agg #[.int .i64 o.kind, .string o.text, .int .i64 o.vk, .int .i64 o.vn, .string o.vt, .int .i64 o.count, .slice A o.attrs.length c]))] [(6, .agg #[.int .i64 o.kind, .string o.text, .int .i64 o.vk, .int .i64 o.vn, .string o.vt, .int .i64 o.count, .slice A o.attrs.length c])] w_1 [LoadsAs Tryd.prog 33 (⟨w.heap.size, 0, none⟩) (.agg #[.int .i64 o.kind, .string o.text, .int .i64 o.vk, .int .i64 o.vn, .string o.vt, .int .i64 o.count, .slice A o.attrs.length c]) w_1] (by kernel_rfl) ⟨loadsB rfl rfl hk_3 0 ⟨by kernel_rfl, by kernel_rfl⟩, trivial⟩ ?_
  refine XL_call 67 rfl rfl rfl ent67 [.agg #[.int .i64 o.kind, .string o.text, .int .i64 o.vk, .int .i64 o.vn, .string o.vt, .int .i64 o.count, .slice A o.attrs.length c]] (by kernel_rfl) (piece_any o _ _ _ (Kd.C_below hA hb_2) hz (hT.below hb_2) es (hE.below hb_2)) ?_
  rintro e w_9 ⟨v_6, rfl, hM_7, hN_8, hb_10⟩; refine ⟨_, rfl, ?_⟩
  refine XL_run 5 [] [(4, errV es (pErr o))] w_9 [] (by kernel_rfl) trivial ?_
  refine XL_nil ?_
  refine X_seq ?_
  refine X_region ?_
  refine XL_run 2 [] [(2, errV es (pErr o))] w_9 [] (by kernel_rfl) trivial ?_
  refine XL_nil ?_
  refine X_ret ?_
  refine RX.ret_ok (P := Tryd.prog) (fn := Tryd.f18) (N := 11) (R := R_) [errV es (pErr o)] (by kernel_rfl) (hR_ _ _ ?_)
  exact ⟨rfl, (bt hb_2 hb_10)⟩
noncomputable def ofP (xs : List OpA) : List PieceA := if badE xs = 0 then xs.map pOf else []
theorem ofP_ok {xs : List OpA} (h : badE xs = 0) : ofP xs = xs.map pOf := if_pos h
theorem ofP_bad {xs : List OpA} (h : badE xs ≠ 0) : ofP xs = [] := if_neg h
theorem kPiece_iface {w : World} {p : PieceA} {v : Value} (h : kPiece.K w p [v]) : ∃ T u, v = .iface T u := by
  cases p with
  | ins a t n => obtain ⟨A, c, e, _⟩ := kPiece_ins h; exact ⟨_, _, (List.cons.inj e).1⟩
  | emb a t n => obtain ⟨A, c, e, _⟩ := kPiece_emb h; exact ⟨_, _, (List.cons.inj e).1⟩
  | ret a n => obtain ⟨A, c, e, _⟩ := kPiece_ret h; exact ⟨_, _, (List.cons.inj e).1⟩
  | del n => have e := kPiece_del h; exact ⟨_, _, (List.cons.inj e).1⟩
theorem map_getD {α β : Type} (f : α → β) (d : α) (d' : β) {xs : List α} {i : Nat} (h : i < xs.length) : (xs.map f).getD i d' = f (xs.getD i d) := by
  rw [List.getD_eq_getElem?_getD, List.getD_eq_getElem?_getD, List.getElem?_map, List.getElem?_eq_getElem h]; rfl
theorem map_take_snoc (xs : List OpA) (i : Nat) (h : i < xs.length) : (xs.take i).map pOf ++ [pOf (xs.getD i op0)] = (xs.take (i + 1)).map pOf := by rw [take_snocD op0 xs i h, List.map_append]; rfl
set_option maxHeartbeats 2000000 in
theorem of_any (A : Option Addr) (c : Nat) (xs : List OpA) (w : World) (hx : kOp.C w A xs.length xs) (hn : xs.length ≤ 100000000) (hz : ∀ i, i < xs.length → opSz (xs.getD i op0)) (hT : Tabs w) (es : List Addr) (hE : ErrsO w es) : Calls Tryd.prog 26 #[.slice A xs.length c] w fun e w' => ∃ A' c', e = .returned (.tuple #[.slice A' (ofP xs).length c', .int .i64 (badI xs : Int), errV es (badE xs)]) ∧ kPiece.R 47 w' w.heap.size (OkFrom w.heap.size) (.slice A' (ofP xs).length c') (ofP xs) ∧ Below w.heap.size w w' := by
  have hpl : xs.length ≤ 9223372036854775807 := hx.2.1
  refine RX.enter Tryd.func26 rfl 32 rfl [(0, .slice A xs.length c)] rfl (by kernel_rfl) (fun R_ hR_ => ?_)
  refine X_seq ?_
  refine X_region ?_
  refine XL_run 3 [] [(0, .slice A xs.length c)] w [] (by kernel_rfl) trivial ?_
  refine XL_nil ?_
  refine X_seq ?_
  refine X_region ?_
  refine XL_run 1 [] [(0, .slice A xs.length c), (5, .slice none 0 0)] w [] (by kernel_rfl) trivial ?_
  refine XL_nil ?_
  refine X_seq ?_
  refine X_seq ?_
  refine X_region ?_
  refine XL_run 3 [] [(5, .slice none 0 0), (10, .slice A xs.length c), (11, .int .i64 (xs.length : Int)), (12, .int .i64 0)] w [] (by kernel_rfl) trivial ?_
  refine XL_nil ?_
  refine X_block ?_
  refine X_loop (ι := Nat × Option Addr × Nat × List PieceA) (fun ⟨i, A5, c5, zs5⟩ => [(5, .slice A5 zs5.length c5), (10, .slice A xs.length c), (11, .int .i64 (xs.length : Int)), (12, .int .i64 (i : Int))]) (fun ⟨i, A5, c5, zs5⟩ wl => i ≤ xs.length ∧ badE (xs.take i) = 0 ∧ zs5 = (xs.take i).map pOf ∧ kPiece.R 47 wl w.heap.size (OkFrom w.heap.size) (.slice A5 zs5.length c5) zs5 ∧ Below w.heap.size w wl) (fun ⟨i, A5, c5, zs5⟩ => xs.length - i) (0, none, 0, []) ⟨by omega, rfl, rfl, Kd.R_nil _ _ _ _ _, (Below.refl _ _)⟩ (by kernel_rfl) ?_
  rintro ⟨i, A5, c5, zs5⟩ wl ⟨hi, hb0, he5, hr5, HB⟩
  have hzl : zs5.length = min i xs.length := by rw [he5, List.length_map, List.length_take]
  refine X_seq ?_
  refine X_region ?_
  by_cases c_1 : (i : Int) < (xs.length : Int)
  · refine XL_run 1 [(13, .eq (.bool true))] [(5, .slice A5 zs5.length c5), (10, .slice A xs.length c), (11, .int .i64 (xs.length : Int)), (12, .int .i64 (i : Int)), (13, .bool true)] wl [Value.bool (decide ((i : Int) < (xs.length : Int))) = Value.bool true] (by kernel_rfl) ⟨congrArg Value.bool (decide_eq_true (c_1)), trivial⟩ ?_
    refine XL_nil ?_
    refine X_seq ?_
    refine X_cond true rfl ?_
    refine X_skip ?_
    refine X_seq ?_
    refine X_block ?_
    refine X_seq ?_
    refine X_region ?_
    refine XL_run 1 [] [(5, .slice A5 zs5.length c5), (10, .slice A xs.length c), (11, .int .i64 (xs.length : Int)), (12, .int .i64 (i : Int)), (14, .int .i64 (i : Int))] wl [] (by kernel_rfl) trivial ?_
    obtain ⟨ad_2, B_5, c_6, ha_3, hc_4, hl_7, hC_8⟩ := Kd.atOp (Kd.C_below hx HB) (i := (i : Int)) (by omega) (by omega)
    replace hc_4 : CellsAt wl (ad_2.add ((i : Int).toNat * 7)) [.int .i64 ((xs.getD i op0).kind), .string ((xs.getD i op0).text), .int .i64 ((xs.getD i op0).vk), .int .i64 ((xs.getD i op0).vn), .string ((xs.getD i op0).vt), .int .i64 ((xs.getD i op0).count), .slice B_5 ((xs.getD i op0).attrs.length) c_6] := hc_4
    replace hl_7 : (xs.getD i op0).attrs.length ≤ c_6 := hl_7
    replace hC_8 : kAttr.C wl B_5 ((xs.getD i op0).attrs.length) (xs.getD i op0).attrs := hC_8
    refine XL_run 3 [(15, .idx ad_2), (16, .load (.agg #[.int .i64 ((xs.getD i op0).kind), .string ((xs.getD i op0).text), .int .i64 ((xs.getD i op0).vk), .int .i64 ((xs.getD i op0).vn), .string ((xs.getD i op0).vt), .int .i64 ((xs.getD i op0).count), .slice B_5 ((xs.getD i op0).attrs.length) c_6]))] [(5, .slice A5 zs5.length c5), (7, .pointer (some ⟨wl.heap.size, 0, none⟩)), (10, .slice A xs.length c), (11, .int .i64 (xs.length : Int)), (12, .int .i64 (i : Int)), (14, .int .i64 (i : Int)), (16, .agg #[.int .i64 ((xs.getD i op0).kind), .string ((xs.getD i op0).text), .int .i64 ((xs.getD i op0).vk), .int .i64 ((xs.getD i op0).vn), .string ((xs.getD i op0).vt), .int .i64 ((xs.getD i op0).count), .slice B_5 ((xs.getD i op0).attrs.length) c_6])] (wl.alloc (.cells #[.int .i64 0, .string ByteArray.empty, .int .i64 0, .int .i64 0, .string ByteArray.empty, .int .i64 0, .slice none 0 0] 33)) [A = some ad_2, (0 : Int) ≤ (i : Int), (i : Int) < (xs.length : Int), LoadsAs Tryd.prog 33 (ad_2.add ((i : Int).toNat * 7)) (.agg #[.int .i64 ((xs.getD i op0).kind), .string ((xs.getD i op0).text), .int .i64 ((xs.getD i op0).vk), .int .i64 ((xs.getD i op0).vn), .string ((xs.getD i op0).vt), .int .i64 ((xs.getD i op0).count), .slice B_5 ((xs.getD i op0).attrs.length) c_6]) wl] (by kernel_rfl) ⟨ha_3, (by omega), (by omega), loadsE rfl rfl hc_4 0 ⟨by kernel_rfl, by kernel_rfl⟩, trivial⟩ ?_
    obtain ⟨w_9, hw_13, hb_10, hk_11, hz_12⟩ := new_world wl #[.int .i64 0, .string ByteArray.empty, .int .i64 0, .int .i64 0, .string ByteArray.empty, .int .i64 0, .slice none 0 0] 33
    rw [hw_13]
    refine XL_run 1 [] [(5, .slice A5 zs5.length c5), (6, .int .i64 (i : Int)), (7, .pointer (some ⟨wl.heap.size, 0, none⟩)), (10, .slice A xs.length c), (11, .int .i64 (xs.length : Int)), (12, .int .i64 (i : Int)), (16, .agg #[.int .i64 ((xs.getD i op0).kind), .string ((xs.getD i op0).text), .int .i64 ((xs.getD i op0).vk), .int .i64 ((xs.getD i op0).vn), .string ((xs.getD i op0).vt), .int .i64 ((xs.getD i op0).count), .slice B_5 ((xs.getD i op0).attrs.length) c_6])] w_9 [] (by kernel_rfl) trivial ?_
    refine XL_store (v := .agg #[.int .i64 ((xs.getD i op0).kind), .string ((xs.getD i op0).text), .int .i64 ((xs.getD i op0).vk), .int .i64 ((xs.getD i op0).vn), .string ((xs.getD i op0).vt), .int .i64 ((xs.getD i op0).count), .slice B_5 ((xs.getD i op0).attrs.length) c_6]) rfl rfl rfl (by kernel_rfl) hk_11 0 [.int .i64 ((xs.getD i op0).kind), .string ((xs.getD i op0).text), .int .i64 ((xs.getD i op0).vk), .int .i64 ((xs.getD i op0).vn), .string ((xs.getD i op0).vt), .int .i64 ((xs.getD i op0).count), .slice B_5 ((xs.getD i op0).attrs.length) c_6] #[.int .i64 ((xs.getD i op0).kind), .string ((xs.getD i op0).text), .int .i64 ((xs.getD i op0).vk), .int .i64 ((xs.getD i op0).vn), .string ((xs.getD i op0).vt), .int .i64 ((xs.getD i op0).count), .slice B_5 ((xs.getD i op0).attrs.length) c_6] ⟨by kernel_rfl, rfl, by kernel_rfl⟩ ⟨by kernel_rfl, by kernel_rfl⟩ (Nat.le_of_ble_eq_true (by kernel_rfl)) (fun w_14 hg_15 hk_16 hz_17 => ?_)
    refine XL_nil ?_
    refine X_seq ?_
    refine X_region ?_
    refine XL_run 1 [(18, .load (.agg #[.int .i64 ((xs.getD i op0).kind), .string ((xs.getD i op0).text), .int .i64 ((xs.getD i op0).vk), .int .i64 ((xs.getD i op0).vn), .string ((xs.getD i op0).vt), .int .i64 ((xs.getD i op0).count), .slice B_5 ((xs.getD i op0).attrs.length) c_6]))] [(5, .slice A5 zs5.length c5), (6, .int .i64 (i : Int)), (10, .slice A xs.length c), (11, .int .i64 (xs.length : Int)), (12, .int .i64 (i : Int)), (18, .agg #[.int .i64 ((xs.getD i op0).kind), .string ((xs.getD i op0).text), .int .i64 ((xs.getD i op0).vk), .int .i64 ((xs.getD i op0).vn), .string ((xs.getD i op0).vt), .int .i64 ((xs.getD i op0).count), .slice B_5 ((xs.getD i op0).attrs.length) c_6])] w_14 [LoadsAs Tryd.prog 33 (⟨wl.heap.size, 0, none⟩) (.agg #[.int .i64 ((xs.getD i op0).kind), .string ((xs.getD i op0).text), .int .i64 ((xs.getD i op0).vk), .int .i64 ((xs.getD i op0).vn), .string ((xs.getD i op0).vt), .int .i64 ((xs.getD i op0).count), .slice B_5 ((xs.getD i op0).attrs.length) c_6]) w_14] (by kernel_rfl) ⟨loadsB rfl rfl hk_16 0 ⟨by kernel_rfl, by kernel_rfl⟩, trivial⟩ ?_
    refine XL_call 67 rfl rfl rfl ent67 [.agg #[.int .i64 ((xs.getD i op0).kind), .string ((xs.getD i op0).text), .int .i64 ((xs.getD i op0).vk), .int .i64 ((xs.getD i op0).vn), .string ((xs.getD i op0).vt), .int .i64 ((xs.getD i op0).count), .slice B_5 ((xs.getD i op0).attrs.length) c_6]] (by kernel_rfl) (piece_any (xs.getD i op0) _ _ _ (Kd.C_below hC_8 (bg hb_10 hg_15 (Nat.le_refl _))) (hz i (by omega)) (hT.below (bg (bt HB hb_10) hg_15 (HB).size)) es (hE.below (bg (bt HB hb_10) hg_15 (HB).size))) ?_
    rintro e w_21 ⟨v_18, rfl, hM_19, hN_20, hb_22⟩; refine ⟨_, rfl, ?_⟩
    refine XL_run 5 [] [(5, .slice A5 zs5.length c5), (6, .int .i64 (i : Int)), (8, v_18), (9, errV es (pErr (xs.getD i op0))), (10, .slice A xs.length c), (11, .int .i64 (xs.length : Int)), (12, .int .i64 (i : Int))] w_21 [] (by kernel_rfl) trivial ?_
    refine XL_nil ?_
    refine X_seq ?_
    refine X_seq ?_
    refine X_region ?_
    refine XL_run 1 [] [(5, .slice A5 zs5.length c5), (6, .int .i64 (i : Int)), (8, v_18), (9, errV es (pErr (xs.getD i op0))), (10, .slice A xs.length c), (11, .int .i64 (xs.length : Int)), (12, .int .i64 (i : Int)), (22, errV es (pErr (xs.getD i op0)))] w_21 [] (by kernel_rfl) trivial ?_
    by_cases c_23 : (pErr (xs.getD i op0)) = 0
    · rw [show errV es (pErr (xs.getD i op0)) = .nilIface from by rw [c_23]; rfl]
      refine XL_run 1 [] [(5, .slice A5 zs5.length c5), (6, .int .i64 (i : Int)), (8, v_18), (9, .nilIface), (10, .slice A xs.length c), (11, .int .i64 (xs.length : Int)), (12, .int .i64 (i : Int)), (23, .bool false)] w_21 [] (by kernel_rfl) trivial ?_
      refine XL_nil ?_
      refine X_cond false rfl ?_
      refine X_skip ?_
      refine X_region ?_
      have hm_26 := hM_19 c_23
      obtain ⟨T_24, u_25, rfl⟩ := kPiece_iface (kPiece.K_of_M hm_26)
      refine XL_run 3 [] [(10, .slice A xs.length c), (11, .int .i64 (xs.length : Int)), (12, .int .i64 (i : Int)), (26, .slice A5 zs5.length c5), (28, .slice (some ⟨w_21.heap.size, 0, none⟩) 1 1)] (w_21.alloc (.cells #[.iface T_24 u_25] 47)) [] (by kernel_rfl) trivial ?_
      obtain ⟨w_27, hw_31, hb_28, hk_29, hz_30⟩ := new_world w_21 #[.iface T_24 u_25] 47
      rw [hw_31]
      have hB_35 : Below wl.heap.size wl w_21 := (bt (bg hb_10 hg_15 (Nat.le_refl _)) hb_22)
      obtain ⟨okp_32, hM_33, hok_34⟩ := Kd.M_apart hm_26 ((bg (bt HB hb_10) hg_15 (HB).size)).size (Kd.R_below hr5 hB_35) (by decide)
      rw [← hw_31]
      have hB_44 : Below w.heap.size w w_21 := (bt (bg (bt HB hb_10) hg_15 (HB).size) hb_22)
      refine XL_append kPiece rfl rfl rfl w.heap.size 47 .nilIface 16 Tryd.underlying43 info47 rfl (by decide) (by omega) zs5 (pOf (xs.getD i op0)) [.iface T_24 u_25] okp_32 (by kernel_rfl) hM_33 hok_34 (Kd.R_below hr5 hB_35) (hB_44).size (by first | omega | (simp; omega)) ?_
      intro A_36 c_37 w_38 hr_39 hc_40 hg_41 hl_42 ha_43
      refine XL_run 1 [] [(5, .slice A_36 ((zs5 ++ [(pOf (xs.getD i op0))]).length) c_37), (10, .slice A xs.length c), (11, .int .i64 (xs.length : Int)), (12, .int .i64 (i : Int))] w_38 [] (by kernel_rfl) trivial ?_
      refine XL_nil ?_
      refine X_region ?_
      refine XL_run 2 [(30, .eq (.int .i64 ((i : Int) + 1)))] [(5, .slice A_36 ((zs5 ++ [(pOf (xs.getD i op0))]).length) c_37), (10, .slice A xs.length c), (11, .int .i64 (xs.length : Int)), (12, .int .i64 ((i : Int) + 1))] w_38 [Value.int .i64 (IntKind.i64.wrap ((i : Int) + 1)) = Value.int .i64 ((i : Int) + 1)] (by kernel_rfl) ⟨wr_i64 (by omega) (by omega), trivial⟩ ?_
      refine XL_nil ?_
      refine ⟨(i + 1, A_36, c_37, (zs5 ++ [(pOf (xs.getD i op0))])), by kernel_rfl, ?_, ?_⟩
      · exact ⟨by omega, badE_succ (by omega) hb0 c_23, by rw [he5]; exact map_take_snoc xs i (by omega), hr_39, (bgo hB_44 hg_41 hl_42 (Nat.le_refl _))⟩
      · (try dsimp only); omega
    · rw [errV_pos es (pErr (xs.getD i op0)) (Nat.pos_of_ne_zero c_23)]
      refine XL_run 1 [] [(5, .slice A5 zs5.length c5), (6, .int .i64 (i : Int)), (8, v_18), (9, .iface 184 (.pointer (some (errAt es (pErr (xs.getD i op0)))))), (10, .slice A xs.length c), (11, .int .i64 (xs.length : Int)), (12, .int .i64 (i : Int)), (23, .bool true)] w_21 [] (by kernel_rfl) trivial ?_
      refine XL_nil ?_
      refine X_cond true rfl ?_
      refine X_seq ?_
      refine X_region ?_
      refine XL_run 5 [] [(2, .slice none 0 0), (3, .int .i64 (i : Int)), (4, .iface 184 (.pointer (some (errAt es (pErr (xs.getD i op0))))))] w_21 [] (by kernel_rfl) trivial ?_
      refine XL_nil ?_
      refine X_ret ?_
      refine RX.ret_ok (P := Tryd.prog) (fn := Tryd.f26) (N := 32) (R := R_) [.slice none 0 0, .int .i64 (i : Int), .iface 184 (.pointer (some (errAt es (pErr (xs.getD i op0)))))] (by kernel_rfl) (hR_ _ _ ?_)
      have hB_45 : Below w.heap.size w w_21 := (bt (bg (bt HB hb_10) hg_15 (HB).size) hb_22)
      have hbe := badE_stop (xs := xs) (i := i) (by omega) hb0 c_23
      have hbi := badI_stop (xs := xs) (i := i) (by omega) hb0 c_23
      have hof := ofP_bad (xs := xs) (by rw [hbe]; exact c_23)
      rw [hof, hbi, hbe, errV_pos es _ (Nat.pos_of_ne_zero c_23)]
      exact ⟨none, 0, rfl, Kd.R_nil _ _ _ _ _, hB_45⟩
  · refine XL_run 1 [(13, .eq (.bool false))] [(5, .slice A5 zs5.length c5), (10, .slice A xs.length c), (11, .int .i64 (xs.length : Int)), (12, .int .i64 (i : Int)), (13, .bool false)] wl [Value.bool (decide ((i : Int) < (xs.length : Int))) = Value.bool false] (by kernel_rfl) ⟨congrArg Value.bool (decide_eq_false (c_1)), trivial⟩ ?_
    refine XL_nil ?_
    refine X_seq ?_
    refine X_cond false rfl ?_
    refine X_exit ?_
    refine X_seq ?_
    refine X_region ?_
    refine XL_run 4 [] [(2, .slice A5 zs5.length c5), (3, .int .i64 0), (4, .nilIface)] wl [] (by kernel_rfl) trivial ?_
    refine XL_nil ?_
    refine X_ret ?_
    refine RX.ret_ok (P := Tryd.prog) (fn := Tryd.f26) (N := 32) (R := R_) [.slice A5 zs5.length c5, .int .i64 0, .nilIface] (by kernel_rfl) (hR_ _ _ ?_)
    have hxi : xs.take i = xs := List.take_of_length_le (by omega)
    rw [hxi] at hb0 he5
    have hof : ofP xs = zs5 := by rw [ofP_ok hb0, he5]
    rw [hof, badI_none hb0, hb0]
    exact ⟨_, _, rfl, hr5, HB⟩
set_option maxHeartbeats 2000000 in
theorem lengths_any (A : Option Addr) (c : Nat) (xs : List OpA) (w : World) (hb : badE xs = 0) (hx : kPiece.C w A (xs.map pOf).length (xs.map pOf)) (hn : xs.length ≤ 100000000) (hz : ∀ i, i < xs.length → opSz (xs.getD i op0)) :
    Calls Tryd.prog 69 #[.slice A (xs.map pOf).length c] w fun e w' => e = .returned (.tuple #[.int .i64 (min (sB xs) 1099511627777), .int .i64 (min (sR xs) 1099511627777)]) ∧ Below w.heap.size w w' := by
  have hlen : (xs.map pOf).length = xs.length := List.length_map ..
  have hpl : (xs.map pOf).length ≤ 9223372036854775807 := hx.2.1
  refine RX.enter Tryd.func69 rfl 43 rfl [(0, .slice A ((xs.map pOf).length) c)] rfl (by kernel_rfl) (fun R_ hR_ => ?_)
  refine X_seq ?_
  refine X_region ?_
  refine XL_run 2 [] [(0, .slice A ((xs.map pOf).length) c)] w [] (by kernel_rfl) trivial ?_
  refine XL_nil ?_
  refine X_seq ?_
  refine X_region ?_
  refine XL_run 2 [] [(0, .slice A ((xs.map pOf).length) c), (4, .int .i64 0), (5, .int .i64 0)] w [] (by kernel_rfl) trivial ?_
  refine XL_nil ?_
  refine X_seq ?_
  refine X_seq ?_
  refine X_region ?_
  refine XL_run 3 [] [(4, .int .i64 0), (5, .int .i64 0), (11, .slice A ((xs.map pOf).length) c), (12, .int .i64 ((xs.map pOf).length : Int)), (13, .int .i64 0)] w [] (by kernel_rfl) trivial ?_
  refine XL_nil ?_
  refine X_block ?_
  refine X_loop (ι := Nat × Int × Int) (fun ⟨i, b, r⟩ => [(4, .int .i64 b), (5, .int .i64 r), (11, .slice A ((xs.map pOf).length) c), (12, .int .i64 ((xs.map pOf).length : Int)), (13, .int .i64 (i : Int))]) (fun ⟨i, b, r⟩ wl => i ≤ xs.length ∧ b = min (sB (xs.take i)) 1099511627777 ∧ r = min (sR (xs.take i)) 1099511627777 ∧ Below w.heap.size w wl) (fun ⟨i, b, r⟩ => xs.length - i) (0, 0, 0) ⟨by omega, rfl, rfl, (Below.refl _ _)⟩ (by kernel_rfl) ?_
  rintro ⟨i, b, r⟩ wl ⟨hi, hbb, hrr, HB⟩
  have hs0 := sB_ok (badE_take hb i)
  have hs1 := sR_ok (badE_take hb i)
  refine X_seq ?_
  refine X_region ?_
  by_cases c_1 : (i : Int) < ((xs.map pOf).length : Int)
  · refine XL_run 1 [(14, .eq (.bool true))] [(4, .int .i64 b), (5, .int .i64 r), (11, .slice A ((xs.map pOf).length) c), (12, .int .i64 ((xs.map pOf).length : Int)), (13, .int .i64 (i : Int)), (14, .bool true)] wl [Value.bool (decide ((i : Int) < ((xs.map pOf).length : Int))) = Value.bool true] (by kernel_rfl) ⟨congrArg Value.bool (decide_eq_true (c_1)), trivial⟩ ?_
    refine XL_nil ?_
    refine X_seq ?_
    refine X_cond true rfl ?_
    refine X_skip ?_
    refine X_seq ?_
    refine X_block ?_
    refine X_seq ?_
    refine X_region ?_
    obtain ⟨ad_2, v_5, ha_3, hc_4, hK_6⟩ := Kd.atPiece (Kd.C_below hx HB) (i := (i : Int)) (by omega) (by omega)
    replace hK_6 : kPiece.K wl ((xs.map pOf).getD i piece0) [v_5] := hK_6
    refine XL_run 1 [(15, .idx ad_2)] [(4, .int .i64 b), (5, .int .i64 r), (11, .slice A ((xs.map pOf).length) c), (12, .int .i64 ((xs.map pOf).length : Int)), (13, .int .i64 (i : Int)), (15, .pointer (some (ad_2.add ((i : Int).toNat * 1))))] wl [A = some ad_2, (0 : Int) ≤ (i : Int), (i : Int) < ((xs.map pOf).length : Int)] (by kernel_rfl) ⟨ha_3, (by omega), (by omega), trivial⟩ ?_
    rw [map_getD pOf op0 piece0 (show i < xs.length by omega)] at hK_6
    have hpe := badE_getD hb (show i < xs.length by omega)
    have hsz := (hz i (by omega)).1
    have hscl := U.sc_le (xs.getD i op0).text
    have hcn := fun hk_ => count_of_ok hpe hk_
    rcases kind_of_ok hpe with hk | hk | hk | hk
    · rw [pOf_ins hk] at hK_6
      obtain ⟨A_7, c_8, e_9, _, _⟩ := kPiece_ins hK_6
      obtain rfl := (List.cons.inj e_9).1
      have hob : opB (xs.getD i op0) = 0 := by unfold opB opLen; rw [if_neg (by omega)]
      have hor : opR (xs.getD i op0) = ((U.sc (xs.getD i op0).text).length : Int) := by unfold opR opLen; rw [if_neg (by omega), if_pos hk]
      refine XL_run 2 [(16, .load (.iface 51 (.agg #[.slice A_7 ((xs.getD i op0).attrs.length) c_8, .string ((xs.getD i op0).text), .int .i64 ((U.sc (xs.getD i op0).text).length : Int)])))] [(4, .int .i64 b), (5, .int .i64 r), (7, .iface 51 (.agg #[.slice A_7 ((xs.getD i op0).attrs.length) c_8, .string ((xs.getD i op0).text), .int .i64 ((U.sc (xs.getD i op0).text).length : Int)])), (11, .slice A ((xs.map pOf).length) c), (12, .int .i64 ((xs.map pOf).length : Int)), (13, .int .i64 (i : Int))] wl [LoadsAs Tryd.prog 47 (ad_2.add ((i : Int).toNat * 1)) (.iface 51 (.agg #[.slice A_7 ((xs.getD i op0).attrs.length) c_8, .string ((xs.getD i op0).text), .int .i64 ((U.sc (xs.getD i op0).text).length : Int)])) wl] (by kernel_rfl) ⟨loads1 rfl (elem_cell hc_4 0 _ rfl), trivial⟩ ?_
      refine XL_nil ?_
      refine X_seq ?_
      refine X_region ?_
      refine XL_run 1 [] [(4, .int .i64 b), (5, .int .i64 r), (7, .iface 51 (.agg #[.slice A_7 ((xs.getD i op0).attrs.length) c_8, .string ((xs.getD i op0).text), .int .i64 ((U.sc (xs.getD i op0).text).length : Int)])), (11, .slice A ((xs.map pOf).length) c), (12, .int .i64 ((xs.map pOf).length : Int)), (13, .int .i64 (i : Int)), (17, .iface 51 (.agg #[.slice A_7 ((xs.getD i op0).attrs.length) c_8, .string ((xs.getD i op0).text), .int .i64 ((U.sc (xs.getD i op0).text).length : Int)]))] wl [] (by kernel_rfl) trivial ?_
      refine XL_nil ?_
      refine X_block ?_
      refine X_seq ?_
      refine X_region ?_
      refine XL_run 3 [] [(4, .int .i64 b), (5, .int .i64 r), (7, .iface 51 (.agg #[.slice A_7 ((xs.getD i op0).attrs.length) c_8, .string ((xs.getD i op0).text), .int .i64 ((U.sc (xs.getD i op0).text).length : Int)])), (11, .slice A ((xs.map pOf).length) c), (12, .int .i64 ((xs.map pOf).length : Int)), (13, .int .i64 (i : Int)), (17, .iface 51 (.agg #[.slice A_7 ((xs.getD i op0).attrs.length) c_8, .string ((xs.getD i op0).text), .int .i64 ((U.sc (xs.getD i op0).text).length : Int)])), (23, .bool false), (24, .agg #[.slice none 0 0, .int .i64 0])] wl [] (by kernel_rfl) trivial ?_
      refine XL_nil ?_
      refine X_cond false rfl ?_
      refine X_seq ?_
      refine X_region ?_
      refine XL_run 3 [] [(4, .int .i64 b), (5, .int .i64 r), (7, .iface 51 (.agg #[.slice A_7 ((xs.getD i op0).attrs.length) c_8, .string ((xs.getD i op0).text), .int .i64 ((U.sc (xs.getD i op0).text).length : Int)])), (11, .slice A ((xs.map pOf).length) c), (12, .int .i64 ((xs.map pOf).length : Int)), (13, .int .i64 (i : Int)), (17, .iface 51 (.agg #[.slice A_7 ((xs.getD i op0).attrs.length) c_8, .string ((xs.getD i op0).text), .int .i64 ((U.sc (xs.getD i op0).text).length : Int)])), (34, .bool false), (35, .agg #[.int .i64 0])] wl [] (by kernel_rfl) trivial ?_
      refine XL_nil ?_
      refine X_cond false rfl ?_
      refine X_seq ?_
      refine X_region ?_
      refine XL_run 1 [] [(4, .int .i64 b), (5, .int .i64 r), (7, .iface 51 (.agg #[.slice A_7 ((xs.getD i op0).attrs.length) c_8, .string ((xs.getD i op0).text), .int .i64 ((U.sc (xs.getD i op0).text).length : Int)])), (11, .slice A ((xs.map pOf).length) c), (12, .int .i64 ((xs.map pOf).length : Int)), (13, .int .i64 (i : Int))] wl [] (by kernel_rfl) trivial ?_
      refine XL_nil ?_
      refine X_region ?_
      refine XL_run 2 [] [(4, .int .i64 b), (11, .slice A ((xs.map pOf).length) c), (12, .int .i64 ((xs.map pOf).length : Int)), (13, .int .i64 (i : Int)), (18, .int .i64 r), (19, .iface 51 (.agg #[.slice A_7 ((xs.getD i op0).attrs.length) c_8, .string ((xs.getD i op0).text), .int .i64 ((U.sc (xs.getD i op0).text).length : Int)]))] wl [] (by kernel_rfl) trivial ?_
      refine XL_inv 165 #[.agg #[.slice A_7 ((xs.getD i op0).attrs.length) c_8, .string ((xs.getD i op0).text), .int .i64 ((U.sc (xs.getD i op0).text).length : Int)]] rfl rfl (by kernel_rfl) (by kernel_rfl) (insertLen_any _ _ _ _ _ _) ?_
      rintro e w_10 ⟨rfl, hb_11⟩; refine ⟨_, rfl, ?_⟩
      refine XL_call 110 rfl rfl rfl ent110 [.int .i64 r, .int .i64 ((U.sc (xs.getD i op0).text).length : Int)] (by kernel_rfl) (sum_any r ((U.sc (xs.getD i op0).text).length : Int) _ (by omega) (by omega)) ?_
      rintro e w_12 ⟨rfl, hb_13⟩; refine ⟨_, rfl, ?_⟩
      refine XL_run 1 [] [(4, .int .i64 b), (5, .int .i64 (min (r + ((U.sc (xs.getD i op0).text).length : Int)) 1099511627777)), (11, .slice A ((xs.map pOf).length) c), (12, .int .i64 ((xs.map pOf).length : Int)), (13, .int .i64 (i : Int))] w_12 [] (by kernel_rfl) trivial ?_
      refine XL_nil ?_
      refine X_region ?_
      refine XL_run 2 [(40, .eq (.int .i64 ((i : Int) + 1)))] [(4, .int .i64 b), (5, .int .i64 (min (r + ((U.sc (xs.getD i op0).text).length : Int)) 1099511627777)), (11, .slice A ((xs.map pOf).length) c), (12, .int .i64 ((xs.map pOf).length : Int)), (13, .int .i64 ((i : Int) + 1))] w_12 [Value.int .i64 (IntKind.i64.wrap ((i : Int) + 1)) = Value.int .i64 ((i : Int) + 1)] (by kernel_rfl) ⟨wr_i64 (by omega) (by omega), trivial⟩ ?_
      refine XL_nil ?_
      refine ⟨(i + 1, b, min (r + ((U.sc (xs.getD i op0).text).length : Int)) 1099511627777), by kernel_rfl, ?_, ?_⟩
      · have hst1 := sumI_take opB xs i (by omega)
        have hst2 := sumI_take opR xs i (by omega)
        rw [hob] at hst1
        rw [hor] at hst2
        exact ⟨by omega, by unfold sB at *; omega, by unfold sR at *; omega, (bt (bt HB hb_11) hb_13)⟩
      · (try dsimp only); omega
    · rw [pOf_emb hk] at hK_6
      obtain ⟨A_14, c_15, e_16, _, _⟩ := kPiece_emb hK_6
      obtain rfl := (List.cons.inj e_16).1
      have hob : opB (xs.getD i op0) = 0 := by unfold opB opLen; rw [if_neg (by omega)]
      have hor : opR (xs.getD i op0) = 1 := by unfold opR opLen; rw [if_neg (by omega), if_neg (by omega), if_pos hk]
      refine XL_run 2 [(16, .load (.iface 56 (.agg #[.slice A_14 ((xs.getD i op0).attrs.length) c_15, .string ((xs.getD i op0).text), valV (xs.getD i op0).val])))] [(4, .int .i64 b), (5, .int .i64 r), (7, .iface 56 (.agg #[.slice A_14 ((xs.getD i op0).attrs.length) c_15, .string ((xs.getD i op0).text), valV (xs.getD i op0).val])), (11, .slice A ((xs.map pOf).length) c), (12, .int .i64 ((xs.map pOf).length : Int)), (13, .int .i64 (i : Int))] wl [LoadsAs Tryd.prog 47 (ad_2.add ((i : Int).toNat * 1)) (.iface 56 (.agg #[.slice A_14 ((xs.getD i op0).attrs.length) c_15, .string ((xs.getD i op0).text), valV (xs.getD i op0).val])) wl] (by kernel_rfl) ⟨loads1 rfl (elem_cell hc_4 0 _ rfl), trivial⟩ ?_
      refine XL_nil ?_
      refine X_seq ?_
      refine X_region ?_
      refine XL_run 1 [] [(4, .int .i64 b), (5, .int .i64 r), (7, .iface 56 (.agg #[.slice A_14 ((xs.getD i op0).attrs.length) c_15, .string ((xs.getD i op0).text), valV (xs.getD i op0).val])), (11, .slice A ((xs.map pOf).length) c), (12, .int .i64 ((xs.map pOf).length : Int)), (13, .int .i64 (i : Int)), (17, .iface 56 (.agg #[.slice A_14 ((xs.getD i op0).attrs.length) c_15, .string ((xs.getD i op0).text), valV (xs.getD i op0).val]))] wl [] (by kernel_rfl) trivial ?_
      refine XL_nil ?_
      refine X_block ?_
      refine X_seq ?_
      refine X_region ?_
      refine XL_run 3 [] [(4, .int .i64 b), (5, .int .i64 r), (7, .iface 56 (.agg #[.slice A_14 ((xs.getD i op0).attrs.length) c_15, .string ((xs.getD i op0).text), valV (xs.getD i op0).val])), (11, .slice A ((xs.map pOf).length) c), (12, .int .i64 ((xs.map pOf).length : Int)), (13, .int .i64 (i : Int)), (17, .iface 56 (.agg #[.slice A_14 ((xs.getD i op0).attrs.length) c_15, .string ((xs.getD i op0).text), valV (xs.getD i op0).val])), (23, .bool false), (24, .agg #[.slice none 0 0, .int .i64 0])] wl [] (by kernel_rfl) trivial ?_
      refine XL_nil ?_
      refine X_cond false rfl ?_
      refine X_seq ?_
      refine X_region ?_
      refine XL_run 3 [] [(4, .int .i64 b), (5, .int .i64 r), (7, .iface 56 (.agg #[.slice A_14 ((xs.getD i op0).attrs.length) c_15, .string ((xs.getD i op0).text), valV (xs.getD i op0).val])), (11, .slice A ((xs.map pOf).length) c), (12, .int .i64 ((xs.map pOf).length : Int)), (13, .int .i64 (i : Int)), (17, .iface 56 (.agg #[.slice A_14 ((xs.getD i op0).attrs.length) c_15, .string ((xs.getD i op0).text), valV (xs.getD i op0).val])), (34, .bool false), (35, .agg #[.int .i64 0])] wl [] (by kernel_rfl) trivial ?_
      refine XL_nil ?_
      refine X_cond false rfl ?_
      refine X_seq ?_
      refine X_region ?_
      refine XL_run 1 [] [(4, .int .i64 b), (5, .int .i64 r), (7, .iface 56 (.agg #[.slice A_14 ((xs.getD i op0).attrs.length) c_15, .string ((xs.getD i op0).text), valV (xs.getD i op0).val])), (11, .slice A ((xs.map pOf).length) c), (12, .int .i64 ((xs.map pOf).length : Int)), (13, .int .i64 (i : Int))] wl [] (by kernel_rfl) trivial ?_
      refine XL_nil ?_
      refine X_region ?_
      refine XL_run 2 [] [(4, .int .i64 b), (11, .slice A ((xs.map pOf).length) c), (12, .int .i64 ((xs.map pOf).length : Int)), (13, .int .i64 (i : Int)), (18, .int .i64 r), (19, .iface 56 (.agg #[.slice A_14 ((xs.getD i op0).attrs.length) c_15, .string ((xs.getD i op0).text), valV (xs.getD i op0).val]))] wl [] (by kernel_rfl) trivial ?_
      refine XL_inv 167 #[.agg #[.slice A_14 ((xs.getD i op0).attrs.length) c_15, .string ((xs.getD i op0).text), valV (xs.getD i op0).val]] rfl rfl (by kernel_rfl) (by kernel_rfl) (embedLen_any _ _ _ _ _ _) ?_
      rintro e w_17 ⟨rfl, hb_18⟩; refine ⟨_, rfl, ?_⟩
      refine XL_call 110 rfl rfl rfl ent110 [.int .i64 r, .int .i64 1] (by kernel_rfl) (sum_any r 1 _ (by omega) (by omega)) ?_
      rintro e w_19 ⟨rfl, hb_20⟩; refine ⟨_, rfl, ?_⟩
      refine XL_run 1 [] [(4, .int .i64 b), (5, .int .i64 (min (r + 1) 1099511627777)), (11, .slice A ((xs.map pOf).length) c), (12, .int .i64 ((xs.map pOf).length : Int)), (13, .int .i64 (i : Int))] w_19 [] (by kernel_rfl) trivial ?_
      refine XL_nil ?_
      refine X_region ?_
      refine XL_run 2 [(40, .eq (.int .i64 ((i : Int) + 1)))] [(4, .int .i64 b), (5, .int .i64 (min (r + 1) 1099511627777)), (11, .slice A ((xs.map pOf).length) c), (12, .int .i64 ((xs.map pOf).length : Int)), (13, .int .i64 ((i : Int) + 1))] w_19 [Value.int .i64 (IntKind.i64.wrap ((i : Int) + 1)) = Value.int .i64 ((i : Int) + 1)] (by kernel_rfl) ⟨wr_i64 (by omega) (by omega), trivial⟩ ?_
      refine XL_nil ?_
      refine ⟨(i + 1, b, min (r + 1) 1099511627777), by kernel_rfl, ?_, ?_⟩
      · have hst1 := sumI_take opB xs i (by omega)
        have hst2 := sumI_take opR xs i (by omega)
        rw [hob] at hst1
        rw [hor] at hst2
        exact ⟨by omega, by unfold sB at *; omega, by unfold sR at *; omega, (bt (bt HB hb_18) hb_20)⟩
      · (try dsimp only); omega
    · rw [pOf_ret hk] at hK_6
      obtain ⟨A_21, c_22, e_23, _, _⟩ := kPiece_ret hK_6
      obtain rfl := (List.cons.inj e_23).1
      have hob : opB (xs.getD i op0) = (xs.getD i op0).count := by unfold opB opLen; rw [if_pos (by omega), if_neg (by omega), if_neg (by omega)]
      have hor : opR (xs.getD i op0) = (xs.getD i op0).count := by unfold opR opLen; rw [if_neg (by omega), if_neg (by omega), if_neg (by omega)]
      have hcc := hcn (by omega)
      refine XL_run 2 [(16, .load (.iface 59 (.agg #[.slice A_21 ((xs.getD i op0).attrs.length) c_22, .int .i64 ((xs.getD i op0).count)])))] [(4, .int .i64 b), (5, .int .i64 r), (7, .iface 59 (.agg #[.slice A_21 ((xs.getD i op0).attrs.length) c_22, .int .i64 ((xs.getD i op0).count)])), (11, .slice A ((xs.map pOf).length) c), (12, .int .i64 ((xs.map pOf).length : Int)), (13, .int .i64 (i : Int))] wl [LoadsAs Tryd.prog 47 (ad_2.add ((i : Int).toNat * 1)) (.iface 59 (.agg #[.slice A_21 ((xs.getD i op0).attrs.length) c_22, .int .i64 ((xs.getD i op0).count)])) wl] (by kernel_rfl) ⟨loads1 rfl (elem_cell hc_4 0 _ rfl), trivial⟩ ?_
      refine XL_nil ?_
      refine X_seq ?_
      refine X_region ?_
      refine XL_run 1 [] [(4, .int .i64 b), (5, .int .i64 r), (7, .iface 59 (.agg #[.slice A_21 ((xs.getD i op0).attrs.length) c_22, .int .i64 ((xs.getD i op0).count)])), (11, .slice A ((xs.map pOf).length) c), (12, .int .i64 ((xs.map pOf).length : Int)), (13, .int .i64 (i : Int)), (17, .iface 59 (.agg #[.slice A_21 ((xs.getD i op0).attrs.length) c_22, .int .i64 ((xs.getD i op0).count)]))] wl [] (by kernel_rfl) trivial ?_
      refine XL_nil ?_
      refine X_block ?_
      refine X_seq ?_
      refine X_region ?_
      refine XL_run 3 [] [(4, .int .i64 b), (5, .int .i64 r), (7, .iface 59 (.agg #[.slice A_21 ((xs.getD i op0).attrs.length) c_22, .int .i64 ((xs.getD i op0).count)])), (11, .slice A ((xs.map pOf).length) c), (12, .int .i64 ((xs.map pOf).length : Int)), (13, .int .i64 (i : Int)), (17, .iface 59 (.agg #[.slice A_21 ((xs.getD i op0).attrs.length) c_22, .int .i64 ((xs.getD i op0).count)])), (23, .bool true), (24, .agg #[.slice A_21 ((xs.getD i op0).attrs.length) c_22, .int .i64 ((xs.getD i op0).count)])] wl [] (by kernel_rfl) trivial ?_
      refine XL_nil ?_
      refine X_cond true rfl ?_
      refine X_seq ?_
      refine X_region ?_
      refine XL_run 1 [] [(4, .int .i64 b), (5, .int .i64 r), (8, .pointer (some ⟨wl.heap.size, 0, none⟩)), (11, .slice A ((xs.map pOf).length) c), (12, .int .i64 ((xs.map pOf).length : Int)), (13, .int .i64 (i : Int)), (24, .agg #[.slice A_21 ((xs.getD i op0).attrs.length) c_22, .int .i64 ((xs.getD i op0).count)])] (wl.alloc (.cells #[.slice none 0 0, .int .i64 0] 59)) [] (by kernel_rfl) trivial ?_
      obtain ⟨w_24, hw_28, hb_25, hk_26, hz_27⟩ := new_world wl #[.slice none 0 0, .int .i64 0] 59
      rw [hw_28]
      refine XL_store (v := .agg #[.slice A_21 ((xs.getD i op0).attrs.length) c_22, .int .i64 ((xs.getD i op0).count)]) rfl rfl rfl (by kernel_rfl) hk_26 0 [.slice A_21 ((xs.getD i op0).attrs.length) c_22, .int .i64 ((xs.getD i op0).count)] #[.slice A_21 ((xs.getD i op0).attrs.length) c_22, .int .i64 ((xs.getD i op0).count)] ⟨by kernel_rfl, rfl, by kernel_rfl⟩ ⟨by kernel_rfl, by kernel_rfl⟩ (Nat.le_of_ble_eq_true (by kernel_rfl)) (fun w_29 hg_30 hk_31 hz_32 => ?_)
      refine XL_nil ?_
      refine X_grow [] 10 #[false, false, false, false, false, false, false, false, false, false] (by kernel_rfl) (by kernel_rfl) (by kernel_rfl) (fun wd_33 hb_34 hh_35 => ?_)
      refine XB_run (fuel' := 4) (Below.refl _ _) [0, 1, 2, 4, 5, 6] [(27, .load (.int .i64 ((xs.getD i op0).count))), (31, .load (.int .i64 ((xs.getD i op0).count)))] [.int .i64 b, .pointer (some ⟨wl.heap.size, 1, none⟩), .int .i64 ((xs.getD i op0).count), .int .i64 r, .pointer (some ⟨wl.heap.size, 1, none⟩), .int .i64 ((xs.getD i op0).count)] #[true, true, true, false, true, true, true, false, false, false] [(11, .slice A ((xs.map pOf).length) c), (12, .int .i64 ((xs.map pOf).length : Int)), (13, .int .i64 (i : Int)), (25, .int .i64 b), (27, .int .i64 ((xs.getD i op0).count)), (29, .int .i64 r), (31, .int .i64 ((xs.getD i op0).count))] (fun w_ => [LoadsAs Tryd.prog 3 (⟨wl.heap.size, 1, none⟩) (.int .i64 ((xs.getD i op0).count)) w_, LoadsAs Tryd.prog 3 (⟨wl.heap.size, 1, none⟩) (.int .i64 ((xs.getD i op0).count)) w_]) (fun _ _ _ _ h => h) (fun w_ => by kernel_rfl) rfl (fun w_ hC_ => ⟨loads1 rfl (Blk.cell (Blk.below hk_31 (bt hb_34 hC_)) 1 _ rfl), loads1 rfl (Blk.cell (Blk.below hk_31 (bt hb_34 hC_)) 1 _ rfl), trivial⟩) ?_
      refine XB_mid (fuel' := 3) 3 #[true, true, true, true, true, true, true, false, false, false] _ rfl (by kernel_rfl) (by kernel_rfl) rfl ?_
      refine XL_call 110 rfl rfl rfl ent110 [.int .i64 b, .int .i64 ((xs.getD i op0).count)] (by kernel_rfl) (sum_any b ((xs.getD i op0).count) _ (by omega) (by omega)) ?_
      rintro e w_36 ⟨rfl, hb_37⟩; refine ⟨_, rfl, ?_⟩
      refine XL_nil ?_
      refine ⟨hb_37, ?_⟩
      refine XB_mid (fuel' := 2) 7 #[true, true, true, true, true, true, true, true, false, false] _ rfl (by kernel_rfl) (by kernel_rfl) rfl ?_
      refine XL_call 110 rfl rfl rfl ent110 [.int .i64 r, .int .i64 ((xs.getD i op0).count)] (by kernel_rfl) (sum_any r ((xs.getD i op0).count) _ (by omega) (by omega)) ?_
      rintro e w_38 ⟨rfl, hb_39⟩; refine ⟨_, rfl, ?_⟩
      refine XL_nil ?_
      refine ⟨(bt hb_37 hb_39), ?_⟩
      refine XB_run (fuel' := 0) (bt hb_37 hb_39) [8, 9] [] [.int .i64 (min (b + ((xs.getD i op0).count)) 1099511627777), .int .i64 (min (r + ((xs.getD i op0).count)) 1099511627777)] #[true, true, true, true, true, true, true, true, true, true] [(4, .int .i64 (min (b + ((xs.getD i op0).count)) 1099511627777)), (5, .int .i64 (min (r + ((xs.getD i op0).count)) 1099511627777)), (11, .slice A ((xs.map pOf).length) c), (12, .int .i64 ((xs.map pOf).length : Int)), (13, .int .i64 (i : Int))] (fun w_ => []) (fun _ _ _ _ h => h) (fun w_ => by kernel_rfl) rfl (fun w_ hC_ => trivial) ?_
      refine XB_done (by kernel_rfl) ?_
      refine X_region ?_
      refine XL_run 2 [(40, .eq (.int .i64 ((i : Int) + 1)))] [(4, .int .i64 (min (b + ((xs.getD i op0).count)) 1099511627777)), (5, .int .i64 (min (r + ((xs.getD i op0).count)) 1099511627777)), (11, .slice A ((xs.map pOf).length) c), (12, .int .i64 ((xs.map pOf).length : Int)), (13, .int .i64 ((i : Int) + 1))] w_38 [Value.int .i64 (IntKind.i64.wrap ((i : Int) + 1)) = Value.int .i64 ((i : Int) + 1)] (by kernel_rfl) ⟨wr_i64 (by omega) (by omega), trivial⟩ ?_
      refine XL_nil ?_
      have hB_40 : Below w.heap.size w w_38 := (bt (bt (bt (bg (bt HB hb_25) hg_30 (HB).size) hb_34) hb_37) hb_39)
      refine ⟨(i + 1, min (b + ((xs.getD i op0).count)) 1099511627777, min (r + ((xs.getD i op0).count)) 1099511627777), by kernel_rfl, ?_, ?_⟩
      · have hst1 := sumI_take opB xs i (by omega)
        have hst2 := sumI_take opR xs i (by omega)
        rw [hob] at hst1
        rw [hor] at hst2
        exact ⟨by omega, by unfold sB at *; omega, by unfold sR at *; omega, hB_40⟩
      · (try dsimp only); omega
    · rw [pOf_del hk] at hK_6
      have e_43 := kPiece_del hK_6
      obtain rfl := (List.cons.inj e_43).1
      have hob : opB (xs.getD i op0) = (xs.getD i op0).count := by unfold opB opLen; rw [if_pos (by omega), if_neg (by omega), if_neg (by omega)]
      have hor : opR (xs.getD i op0) = 0 := by unfold opR opLen; rw [if_pos hk]
      have hcc := hcn (by omega)
      refine XL_run 2 [(16, .load (.iface 61 (.agg #[.int .i64 ((xs.getD i op0).count)])))] [(4, .int .i64 b), (5, .int .i64 r), (7, .iface 61 (.agg #[.int .i64 ((xs.getD i op0).count)])), (11, .slice A ((xs.map pOf).length) c), (12, .int .i64 ((xs.map pOf).length : Int)), (13, .int .i64 (i : Int))] wl [LoadsAs Tryd.prog 47 (ad_2.add ((i : Int).toNat * 1)) (.iface 61 (.agg #[.int .i64 ((xs.getD i op0).count)])) wl] (by kernel_rfl) ⟨loads1 rfl (elem_cell hc_4 0 _ rfl), trivial⟩ ?_
      refine XL_nil ?_
      refine X_seq ?_
      refine X_region ?_
      refine XL_run 1 [] [(4, .int .i64 b), (5, .int .i64 r), (7, .iface 61 (.agg #[.int .i64 ((xs.getD i op0).count)])), (11, .slice A ((xs.map pOf).length) c), (12, .int .i64 ((xs.map pOf).length : Int)), (13, .int .i64 (i : Int)), (17, .iface 61 (.agg #[.int .i64 ((xs.getD i op0).count)]))] wl [] (by kernel_rfl) trivial ?_
      refine XL_nil ?_
      refine X_block ?_
      refine X_seq ?_
      refine X_region ?_
      refine XL_run 3 [] [(4, .int .i64 b), (5, .int .i64 r), (7, .iface 61 (.agg #[.int .i64 ((xs.getD i op0).count)])), (11, .slice A ((xs.map pOf).length) c), (12, .int .i64 ((xs.map pOf).length : Int)), (13, .int .i64 (i : Int)), (17, .iface 61 (.agg #[.int .i64 ((xs.getD i op0).count)])), (23, .bool false), (24, .agg #[.slice none 0 0, .int .i64 0])] wl [] (by kernel_rfl) trivial ?_
      refine XL_nil ?_
      refine X_cond false rfl ?_
      refine X_seq ?_
      refine X_region ?_
      refine XL_run 3 [] [(4, .int .i64 b), (5, .int .i64 r), (7, .iface 61 (.agg #[.int .i64 ((xs.getD i op0).count)])), (11, .slice A ((xs.map pOf).length) c), (12, .int .i64 ((xs.map pOf).length : Int)), (13, .int .i64 (i : Int)), (17, .iface 61 (.agg #[.int .i64 ((xs.getD i op0).count)])), (34, .bool true), (35, .agg #[.int .i64 ((xs.getD i op0).count)])] wl [] (by kernel_rfl) trivial ?_
      refine XL_nil ?_
      refine X_cond true rfl ?_
      refine X_seq ?_
      refine X_region ?_
      refine XL_run 1 [] [(4, .int .i64 b), (5, .int .i64 r), (9, .pointer (some ⟨wl.heap.size, 0, none⟩)), (11, .slice A ((xs.map pOf).length) c), (12, .int .i64 ((xs.map pOf).length : Int)), (13, .int .i64 (i : Int)), (35, .agg #[.int .i64 ((xs.getD i op0).count)])] (wl.alloc (.cells #[.int .i64 0] 61)) [] (by kernel_rfl) trivial ?_
      obtain ⟨w_44, hw_48, hb_45, hk_46, hz_47⟩ := new_world wl #[.int .i64 0] 61
      rw [hw_48]
      refine XL_store (v := .agg #[.int .i64 ((xs.getD i op0).count)]) rfl rfl rfl (by kernel_rfl) hk_46 0 [.int .i64 ((xs.getD i op0).count)] #[.int .i64 ((xs.getD i op0).count)] ⟨by kernel_rfl, rfl, by kernel_rfl⟩ ⟨by kernel_rfl, by kernel_rfl⟩ (Nat.le_of_ble_eq_true (by kernel_rfl)) (fun w_49 hg_50 hk_51 hz_52 => ?_)
      refine XL_nil ?_
      refine X_region ?_
      refine XL_run 3 [(38, .load (.int .i64 ((xs.getD i op0).count)))] [(5, .int .i64 r), (11, .slice A ((xs.map pOf).length) c), (12, .int .i64 ((xs.map pOf).length : Int)), (13, .int .i64 (i : Int)), (36, .int .i64 b), (38, .int .i64 ((xs.getD i op0).count))] w_49 [LoadsAs Tryd.prog 3 (⟨wl.heap.size, 0, none⟩) (.int .i64 ((xs.getD i op0).count)) w_49] (by kernel_rfl) ⟨loads1 rfl (Blk.cell hk_51 0 _ rfl), trivial⟩ ?_
      refine XL_call 110 rfl rfl rfl ent110 [.int .i64 b, .int .i64 ((xs.getD i op0).count)] (by kernel_rfl) (sum_any b ((xs.getD i op0).count) _ (by omega) (by omega)) ?_
      rintro e w_53 ⟨rfl, hb_54⟩; refine ⟨_, rfl, ?_⟩
      refine XL_run 1 [] [(4, .int .i64 (min (b + ((xs.getD i op0).count)) 1099511627777)), (5, .int .i64 r), (11, .slice A ((xs.map pOf).length) c), (12, .int .i64 ((xs.map pOf).length : Int)), (13, .int .i64 (i : Int))] w_53 [] (by kernel_rfl) trivial ?_
      refine XL_nil ?_
      refine X_region ?_
      refine XL_run 2 [(40, .eq (.int .i64 ((i : Int) + 1)))] [(4, .int .i64 (min (b + ((xs.getD i op0).count)) 1099511627777)), (5, .int .i64 r), (11, .slice A ((xs.map pOf).length) c), (12, .int .i64 ((xs.map pOf).length : Int)), (13, .int .i64 ((i : Int) + 1))] w_53 [Value.int .i64 (IntKind.i64.wrap ((i : Int) + 1)) = Value.int .i64 ((i : Int) + 1)] (by kernel_rfl) ⟨wr_i64 (by omega) (by omega), trivial⟩ ?_
      refine XL_nil ?_
      have hB_55 : Below w.heap.size w w_53 := (bt (bg (bt HB hb_45) hg_50 (HB).size) hb_54)
      refine ⟨(i + 1, min (b + ((xs.getD i op0).count)) 1099511627777, r), by kernel_rfl, ?_, ?_⟩
      · have hst1 := sumI_take opB xs i (by omega)
        have hst2 := sumI_take opR xs i (by omega)
        rw [hob] at hst1
        rw [hor] at hst2
        exact ⟨by omega, by unfold sB at *; omega, by unfold sR at *; omega, hB_55⟩
      · (try dsimp only); omega
  · refine XL_run 1 [(14, .eq (.bool false))] [(4, .int .i64 b), (5, .int .i64 r), (11, .slice A ((xs.map pOf).length) c), (12, .int .i64 ((xs.map pOf).length : Int)), (13, .int .i64 (i : Int)), (14, .bool false)] wl [Value.bool (decide ((i : Int) < ((xs.map pOf).length : Int))) = Value.bool false] (by kernel_rfl) ⟨congrArg Value.bool (decide_eq_false (c_1)), trivial⟩ ?_
    refine XL_nil ?_
    refine X_seq ?_
    refine X_cond false rfl ?_
    refine X_exit ?_
    refine X_seq ?_
    refine X_region ?_
    refine XL_run 4 [] [(2, .int .i64 b), (3, .int .i64 r)] wl [] (by kernel_rfl) trivial ?_
    refine XL_nil ?_
    refine X_ret ?_
    refine RX.ret_ok (P := Tryd.prog) (fn := Tryd.f69) (N := 43) (R := R_) [.int .i64 b, .int .i64 r] (by kernel_rfl) (hR_ _ _ ?_)
    have hxi : xs.take i = xs := List.take_of_length_le (by omega)
    rw [hxi] at hbb hrr
    rw [← hbb, ← hrr]
    exact ⟨rfl, HB⟩
set_option maxHeartbeats 2000000 in
theorem olen_any (A : Option Addr) (c : Nat) (xs : List OpA) (w : World) (hx : kOp.C w A xs.length xs) (hn : xs.length ≤ 100000000) (hz : ∀ i, i < xs.length → opSz (xs.getD i op0)) (hT : Tabs w) (es : List Addr) (hE : ErrsO w es) : Calls Tryd.prog 20 #[.slice A xs.length c] w fun e w' => e = .returned (.tuple #[.int .i64 (lenP xs).1, .int .i64 (lenP xs).2.1, errV es (lenP xs).2.2]) ∧ Below w.heap.size w w' := by
  refine RX.enter Tryd.func20 rfl 33 rfl [(0, .slice A xs.length c)] rfl (by kernel_rfl) (fun R_ hR_ => ?_)
  refine X_seq ?_
  refine X_region ?_
  refine XL_run 3 [] [(0, .slice A xs.length c)] w [] (by kernel_rfl) trivial ?_
  refine XL_nil ?_
  refine X_seq ?_
  refine X_region ?_
  refine XL_run 1 [] [(11, .slice A xs.length c)] w [] (by kernel_rfl) trivial ?_
  refine XL_call 26 rfl rfl rfl ent26 [.slice A xs.length c] (by kernel_rfl) (of_any _ _ xs _ hx hn hz (hT.below (Below.refl _ _)) es (hE.below (Below.refl _ _))) ?_
  rintro e w_4 ⟨A_1, c_2, rfl, hr_3, hb_5⟩; refine ⟨_, rfl, ?_⟩
  refine XL_run 7 [] [(5, .slice A_1 ((ofP xs).length) c_2), (7, errV es (badE xs))] w_4 [] (by kernel_rfl) trivial ?_
  refine XL_nil ?_
  refine X_seq ?_
  refine X_seq ?_
  refine X_region ?_
  refine XL_run 1 [] [(5, .slice A_1 ((ofP xs).length) c_2), (7, errV es (badE xs)), (16, errV es (badE xs))] w_4 [] (by kernel_rfl) trivial ?_
  by_cases c_6 : (badE xs) = 0
  · rw [show errV es (badE xs) = .nilIface from by rw [c_6]; rfl]
    refine XL_run 1 [] [(5, .slice A_1 ((ofP xs).length) c_2), (7, .nilIface), (17, .bool false)] w_4 [] (by kernel_rfl) trivial ?_
    refine XL_nil ?_
    refine X_cond false rfl ?_
    refine X_skip ?_
    refine X_seq ?_
    refine X_region ?_
    refine XL_run 1 [] [(20, .slice A_1 ((ofP xs).length) c_2)] w_4 [] (by kernel_rfl) trivial ?_
    refine XL_call 69 rfl rfl rfl ent69 [.slice A_1 ((ofP xs).length) c_2] (by kernel_rfl) (by have h_ := lengths_any A_1 c_2 xs w_4 c_6 (by rw [← ofP_ok c_6]; exact Kd.R_C hr_3) hn hz; rw [← ofP_ok c_6] at h_; exact h_) ?_
    rintro e w_7 ⟨rfl, hb_8⟩; refine ⟨_, rfl, ?_⟩
    refine XL_run 5 [] [(8, .int .i64 (min (sB xs) 1099511627777)), (9, .int .i64 (min (sR xs) 1099511627777))] w_7 [] (by kernel_rfl) trivial ?_
    refine XL_nil ?_
    refine X_seq ?_
    refine X_seq ?_
    refine X_region ?_
    refine XL_run 1 [] [(8, .int .i64 (min (sB xs) 1099511627777)), (9, .int .i64 (min (sR xs) 1099511627777)), (24, .int .i64 (min (sB xs) 1099511627777))] w_7 [] (by kernel_rfl) trivial ?_
    by_cases c_9 : min (sB xs) 1099511627777 > 1099511627776
    · refine XL_run 5 [(25, .eq (.bool true))] [(8, .int .i64 (min (sB xs) 1099511627777)), (9, .int .i64 (min (sR xs) 1099511627777)), (29, .bool true)] w_7 [Value.bool (decide (min (sB xs) 1099511627777 > 1099511627776)) = Value.bool true] (by kernel_rfl) ⟨congrArg Value.bool (decide_eq_true (c_9)), trivial⟩ ?_
      refine XL_nil ?_
      refine X_cond true rfl ?_
      refine X_seq ?_
      refine X_still (by kernel_rfl) (by kernel_rfl) (fun wd_10 hb_11 hh_12 => ?_)
      refine XS_run 4 [(30, .load (.iface 184 (.pointer (some (errAt es 11)))))] [.iface 184 (.pointer (some (errAt es 11))), .int .i64 0, .int .i64 0, .iface 184 (.pointer (some (errAt es 11)))] [(2, .int .i64 0), (3, .int .i64 0), (4, .iface 184 (.pointer (some (errAt es 11))))] [LoadsAs Tryd.prog 27 (⟨1, 0, none⟩) (.iface 184 (.pointer (some (errAt es 11)))) wd_10] (by kernel_rfl) (by kernel_rfl) ⟨loads1 rfl (((bt (bt hb_5 hb_8) hb_11).cell (World.block_lt_of_cell? _ _ (hE.load 11 1 (by decide) (by decide) rfl))).trans (hE.load 11 1 (by decide) (by decide) rfl)), trivial⟩ ?_
      refine XS_nil ?_
      refine X_ret ?_
      refine RX.ret_ok (P := Tryd.prog) (fn := Tryd.f20) (N := 33) (R := R_) [.int .i64 0, .int .i64 0, .iface 184 (.pointer (some (errAt es 11)))] (by kernel_rfl) (hR_ _ _ ?_)
      rw [lenP_long c_6 (by omega)]
      exact ⟨rfl, (bt (bt hb_5 hb_8) hb_11)⟩
    · refine XL_run 3 [(25, .eq (.bool false))] [(8, .int .i64 (min (sB xs) 1099511627777)), (9, .int .i64 (min (sR xs) 1099511627777)), (26, .bool false), (27, .int .i64 (min (sR xs) 1099511627777))] w_7 [Value.bool (decide (min (sB xs) 1099511627777 > 1099511627776)) = Value.bool false] (by kernel_rfl) ⟨congrArg Value.bool (decide_eq_false (c_9)), trivial⟩ ?_
      by_cases c_13 : min (sR xs) 1099511627777 > 1099511627776
      · refine XL_run 2 [(28, .eq (.bool true))] [(8, .int .i64 (min (sB xs) 1099511627777)), (9, .int .i64 (min (sR xs) 1099511627777)), (29, .bool true)] w_7 [Value.bool (decide (min (sR xs) 1099511627777 > 1099511627776)) = Value.bool true] (by kernel_rfl) ⟨congrArg Value.bool (decide_eq_true (c_13)), trivial⟩ ?_
        refine XL_nil ?_
        refine X_cond true rfl ?_
        refine X_seq ?_
        refine X_still (by kernel_rfl) (by kernel_rfl) (fun wd_14 hb_15 hh_16 => ?_)
        refine XS_run 4 [(30, .load (.iface 184 (.pointer (some (errAt es 11)))))] [.iface 184 (.pointer (some (errAt es 11))), .int .i64 0, .int .i64 0, .iface 184 (.pointer (some (errAt es 11)))] [(2, .int .i64 0), (3, .int .i64 0), (4, .iface 184 (.pointer (some (errAt es 11))))] [LoadsAs Tryd.prog 27 (⟨1, 0, none⟩) (.iface 184 (.pointer (some (errAt es 11)))) wd_14] (by kernel_rfl) (by kernel_rfl) ⟨loads1 rfl (((bt (bt hb_5 hb_8) hb_15).cell (World.block_lt_of_cell? _ _ (hE.load 11 1 (by decide) (by decide) rfl))).trans (hE.load 11 1 (by decide) (by decide) rfl)), trivial⟩ ?_
        refine XS_nil ?_
        refine X_ret ?_
        refine RX.ret_ok (P := Tryd.prog) (fn := Tryd.f20) (N := 33) (R := R_) [.int .i64 0, .int .i64 0, .iface 184 (.pointer (some (errAt es 11)))] (by kernel_rfl) (hR_ _ _ ?_)
        rw [lenP_long c_6 (by omega)]
        exact ⟨rfl, (bt (bt hb_5 hb_8) hb_15)⟩
      · refine XL_run 2 [(28, .eq (.bool false))] [(8, .int .i64 (min (sB xs) 1099511627777)), (9, .int .i64 (min (sR xs) 1099511627777)), (29, .bool false)] w_7 [Value.bool (decide (min (sR xs) 1099511627777 > 1099511627776)) = Value.bool false] (by kernel_rfl) ⟨congrArg Value.bool (decide_eq_false (c_13)), trivial⟩ ?_
        refine XL_nil ?_
        refine X_cond false rfl ?_
        refine X_skip ?_
        refine X_seq ?_
        refine X_region ?_
        refine XL_run 5 [] [(2, .int .i64 (min (sB xs) 1099511627777)), (3, .int .i64 (min (sR xs) 1099511627777)), (4, .nilIface)] w_7 [] (by kernel_rfl) trivial ?_
        refine XL_nil ?_
        refine X_ret ?_
        refine RX.ret_ok (P := Tryd.prog) (fn := Tryd.f20) (N := 33) (R := R_) [.int .i64 (min (sB xs) 1099511627777), .int .i64 (min (sR xs) 1099511627777), .nilIface] (by kernel_rfl) (hR_ _ _ ?_)
        rw [lenP_ok c_6 (by omega)]
        have h1_ : min (sB xs) 1099511627777 = sB xs := by omega
        have h2_ : min (sR xs) 1099511627777 = sR xs := by omega
        rw [h1_, h2_]
        exact ⟨rfl, (bt hb_5 hb_8)⟩
  · rw [errV_pos es (badE xs) (Nat.pos_of_ne_zero c_6)]
    refine XL_run 1 [] [(5, .slice A_1 ((ofP xs).length) c_2), (7, .iface 184 (.pointer (some (errAt es (badE xs))))), (17, .bool true)] w_4 [] (by kernel_rfl) trivial ?_
    refine XL_nil ?_
    refine X_cond true rfl ?_
    refine X_seq ?_
    refine X_region ?_
    refine XL_run 4 [] [(2, .int .i64 0), (3, .int .i64 0), (4, .iface 184 (.pointer (some (errAt es (badE xs)))))] w_4 [] (by kernel_rfl) trivial ?_
    refine XL_nil ?_
    refine X_ret ?_
    refine RX.ret_ok (P := Tryd.prog) (fn := Tryd.f20) (N := 33) (R := R_) [.int .i64 0, .int .i64 0, .iface 184 (.pointer (some (errAt es (badE xs))))] (by kernel_rfl) (hR_ _ _ ?_)
    rw [lenP_bad c_6]
    exact ⟨by rw [errV_pos es _ (Nat.pos_of_ne_zero c_6)]; rfl, hb_5⟩
theorem fits_any (a b : OpA) (A B : Option Addr) (c d : Nat) (w : World) (hA : kAttr.C w A a.attrs.length a.attrs) (hB : kAttr.C w B b.attrs.length b.attrs) : Calls Tryd.prog 72 #[.agg #[.int .i64 a.kind, .string a.text, .int .i64 a.vk, .int .i64 a.vn, .string a.vt, .int .i64 a.count, .slice A a.attrs.length c], .agg #[.int .i64 b.kind, .string b.text, .int .i64 b.vk, .int .i64 b.vn, .string b.vt, .int .i64 b.count, .slice B b.attrs.length d]] w fun e w' => e = .returned (.bool (fitsP a b)) ∧ Below w.heap.size w w' := by
  refine RX.enter Tryd.func72 rfl 29 rfl [(0, .agg #[.int .i64 a.kind, .string a.text, .int .i64 a.vk, .int .i64 a.vn, .string a.vt, .int .i64 a.count, .slice A a.attrs.length c]), (1, .agg #[.int .i64 b.kind, .string b.text, .int .i64 b.vk, .int .i64 b.vn, .string b.vt, .int .i64 b.count, .slice B b.attrs.length d])] rfl (by kernel_rfl) (fun R_ hR_ => ?_)
  refine X_seq ?_
  refine X_region ?_
  refine XL_run 1 [] [(1, .agg #[.int .i64 b.kind, .string b.text, .int .i64 b.vk, .int .i64 b.vn, .string b.vt, .int .i64 b.count, .slice B b.attrs.length d]), (2, .pointer (some ⟨w.heap.size, 0, none⟩))] (w.alloc (.cells #[.int .i64 a.kind, .string a.text, .int .i64 a.vk, .int .i64 a.vn, .string a.vt, .int .i64 a.count, .slice A a.attrs.length c] 33)) [] (by kernel_rfl) trivial ?_
  obtain ⟨w_1, hw_5, hb_2, hk_3, hz_4⟩ := new_world w #[.int .i64 a.kind, .string a.text, .int .i64 a.vk, .int .i64 a.vn, .string a.vt, .int .i64 a.count, .slice A a.attrs.length c] 33
  rw [hw_5]
  refine XL_run 1 [] [(2, .pointer (some ⟨w.heap.size, 0, none⟩)), (3, .pointer (some ⟨w_1.heap.size, 0, none⟩))] (w_1.alloc (.cells #[.int .i64 b.kind, .string b.text, .int .i64 b.vk, .int .i64 b.vn, .string b.vt, .int .i64 b.count, .slice B b.attrs.length d] 33)) [] (by kernel_rfl) trivial ?_
  obtain ⟨w_6, hw_10, hb_7, hk_8, hz_9⟩ := new_world w_1 #[.int .i64 b.kind, .string b.text, .int .i64 b.vk, .int .i64 b.vn, .string b.vt, .int .i64 b.count, .slice B b.attrs.length d] 33
  rw [hw_10]
  refine XL_run 1 [] [(2, .pointer (some ⟨w.heap.size, 0, none⟩)), (3, .pointer (some ⟨w_1.heap.size, 0, none⟩))] w_6 [] (by kernel_rfl) trivial ?_
  refine XL_nil ?_
  refine X_seq ?_
  refine X_seq ?_
  refine X_region ?_
  refine XL_run 2 [(6, .load (.int .i64 a.kind))] [(2, .pointer (some ⟨w.heap.size, 0, none⟩)), (3, .pointer (some ⟨w_1.heap.size, 0, none⟩)), (6, .int .i64 a.kind)] w_6 [LoadsAs Tryd.prog 3 (⟨w.heap.size, 0, none⟩) (.int .i64 a.kind) w_6] (by kernel_rfl) ⟨loads1 rfl (Blk.cell (Blk.below hk_3 hb_7) 0 _ rfl), trivial⟩ ?_
  by_cases c_11 : a.kind = 4
  · refine XL_run 1 [(7, .eq (.bool true))] [(2, .pointer (some ⟨w.heap.size, 0, none⟩)), (3, .pointer (some ⟨w_1.heap.size, 0, none⟩)), (7, .bool true)] w_6 [Value.bool (a.kind == 4) = Value.bool true] (by kernel_rfl) ⟨congrArg Value.bool (beq_iff_eq.2 (c_11)), trivial⟩ ?_
    refine XL_nil ?_
    refine X_cond true rfl ?_
    refine X_seq ?_
    refine X_region ?_
    refine XL_run 2 [(9, .load (.int .i64 b.kind))] [(9, .int .i64 b.kind)] w_6 [LoadsAs Tryd.prog 3 (⟨w_1.heap.size, 0, none⟩) (.int .i64 b.kind) w_6] (by kernel_rfl) ⟨loads1 rfl (Blk.cell hk_8 0 _ rfl), trivial⟩ ?_
    by_cases c_12 : b.kind = 3
    · refine XL_run 2 [(10, .eq (.bool true))] [(4, .bool true)] w_6 [Value.bool (b.kind == 3) = Value.bool true] (by kernel_rfl) ⟨congrArg Value.bool (beq_iff_eq.2 (c_12)), trivial⟩ ?_
      refine XL_nil ?_
      refine X_ret ?_
      refine RX.ret_ok (P := Tryd.prog) (fn := Tryd.f72) (N := 29) (R := R_) [.bool true] (by kernel_rfl) (hR_ _ _ ?_)
      rw [show fitsP a b = true from by unfold fitsP; simp_all]
      exact ⟨rfl, (bt hb_2 hb_7)⟩
    · refine XL_run 2 [(10, .eq (.bool false))] [(4, .bool false)] w_6 [Value.bool (b.kind == 3) = Value.bool false] (by kernel_rfl) ⟨congrArg Value.bool (beq_eq_false_iff_ne.2 (c_12)), trivial⟩ ?_
      refine XL_nil ?_
      refine X_ret ?_
      refine RX.ret_ok (P := Tryd.prog) (fn := Tryd.f72) (N := 29) (R := R_) [.bool false] (by kernel_rfl) (hR_ _ _ ?_)
      rw [show fitsP a b = false from by unfold fitsP; simp_all]
      exact ⟨rfl, (bt hb_2 hb_7)⟩
  · refine XL_run 1 [(7, .eq (.bool false))] [(2, .pointer (some ⟨w.heap.size, 0, none⟩)), (3, .pointer (some ⟨w_1.heap.size, 0, none⟩)), (7, .bool false)] w_6 [Value.bool (a.kind == 4) = Value.bool false] (by kernel_rfl) ⟨congrArg Value.bool (beq_eq_false_iff_ne.2 (c_11)), trivial⟩ ?_
    refine XL_nil ?_
    refine X_cond false rfl ?_
    refine X_skip ?_
    refine X_seq ?_
    refine X_region ?_
    refine XL_run 4 [(12, .load (.int .i64 a.kind)), (14, .load (.int .i64 b.kind))] [(2, .pointer (some ⟨w.heap.size, 0, none⟩)), (3, .pointer (some ⟨w_1.heap.size, 0, none⟩)), (12, .int .i64 a.kind), (14, .int .i64 b.kind)] w_6 [LoadsAs Tryd.prog 3 (⟨w.heap.size, 0, none⟩) (.int .i64 a.kind) w_6, LoadsAs Tryd.prog 3 (⟨w_1.heap.size, 0, none⟩) (.int .i64 b.kind) w_6] (by kernel_rfl) ⟨loads1 rfl (Blk.cell (Blk.below hk_3 hb_7) 0 _ rfl), loads1 rfl (Blk.cell hk_8 0 _ rfl), trivial⟩ ?_
    by_cases c_13 : a.kind = b.kind
    · refine XL_run 4 [(15, .eq (.bool false)), (18, .load (.int .i64 a.kind))] [(2, .pointer (some ⟨w.heap.size, 0, none⟩)), (3, .pointer (some ⟨w_1.heap.size, 0, none⟩)), (16, .bool false), (18, .int .i64 a.kind)] w_6 [Value.bool (a.kind != b.kind) = Value.bool false, LoadsAs Tryd.prog 3 (⟨w.heap.size, 0, none⟩) (.int .i64 a.kind) w_6] (by kernel_rfl) ⟨congrArg Value.bool (bneF (c_13)), loads1 rfl (Blk.cell (Blk.below hk_3 hb_7) 0 _ rfl), trivial⟩ ?_
      by_cases c_14 : a.kind = 2
      · refine XL_run 11 [(19, .eq (.bool true))] [(4, .bool true)] w_6 [Value.bool (a.kind == 2) = Value.bool true] (by kernel_rfl) ⟨congrArg Value.bool (beq_iff_eq.2 (c_14)), trivial⟩ ?_
        refine XL_nil ?_
        refine X_ret ?_
        refine RX.ret_ok (P := Tryd.prog) (fn := Tryd.f72) (N := 29) (R := R_) [.bool true] (by kernel_rfl) (hR_ _ _ ?_)
        rw [show fitsP a b = true from by unfold fitsP; simp_all]
        exact ⟨rfl, (bt hb_2 hb_7)⟩
      · refine XL_run 7 [(19, .eq (.bool false)), (23, .load (.slice A a.attrs.length c)), (25, .load (.slice B b.attrs.length d))] [(21, .bool false), (23, .slice A a.attrs.length c), (25, .slice B b.attrs.length d)] w_6 [Value.bool (a.kind == 2) = Value.bool false, LoadsAs Tryd.prog 31 (⟨w.heap.size, 6, none⟩) (.slice A a.attrs.length c) w_6, LoadsAs Tryd.prog 31 (⟨w_1.heap.size, 6, none⟩) (.slice B b.attrs.length d) w_6] (by kernel_rfl) ⟨congrArg Value.bool (beq_eq_false_iff_ne.2 (c_14)), loads1 rfl (Blk.cell (Blk.below hk_3 hb_7) 6 _ rfl), loads1 rfl (Blk.cell hk_8 6 _ rfl), trivial⟩ ?_
        refine XL_call 108 rfl rfl rfl ent108 [.slice A a.attrs.length c, .slice B b.attrs.length d] (by kernel_rfl) (asame_any _ _ _ _ a.attrs b.attrs _ (Kd.C_below hA (bt hb_2 hb_7)) (Kd.C_below hB (bt hb_2 hb_7))) ?_
        rintro e w_15 ⟨rfl, hb_16⟩; refine ⟨_, rfl, ?_⟩
        by_cases c_17 : decide (a.attrs = b.attrs) = true
        · rw [show (decide (a.attrs = b.attrs) : Bool) = true from by simpa using c_17]
          refine XL_run 3 [] [(4, .bool false)] w_15 [] (by kernel_rfl) trivial ?_
          refine XL_nil ?_
          refine X_ret ?_
          refine RX.ret_ok (P := Tryd.prog) (fn := Tryd.f72) (N := 29) (R := R_) [.bool false] (by kernel_rfl) (hR_ _ _ ?_)
          rw [show fitsP a b = false from by unfold fitsP; simp_all]
          exact ⟨rfl, (bt (bt hb_2 hb_7) hb_16)⟩
        · rw [show (decide (a.attrs = b.attrs) : Bool) = false from by simpa using c_17]
          refine XL_run 3 [] [(4, .bool true)] w_15 [] (by kernel_rfl) trivial ?_
          refine XL_nil ?_
          refine X_ret ?_
          refine RX.ret_ok (P := Tryd.prog) (fn := Tryd.f72) (N := 29) (R := R_) [.bool true] (by kernel_rfl) (hR_ _ _ ?_)
          rw [show fitsP a b = true from by unfold fitsP; simp_all]
          exact ⟨rfl, (bt (bt hb_2 hb_7) hb_16)⟩
    · refine XL_run 15 [(15, .eq (.bool true))] [(4, .bool true)] w_6 [Value.bool (a.kind != b.kind) = Value.bool true] (by kernel_rfl) ⟨congrArg Value.bool (bneT (c_13)), trivial⟩ ?_
      refine XL_nil ?_
      refine X_ret ?_
      refine RX.ret_ok (P := Tryd.prog) (fn := Tryd.f72) (N := 29) (R := R_) [.bool true] (by kernel_rfl) (hR_ _ _ ?_)
      rw [show fitsP a b = true from by unfold fitsP; simp_all]
      exact ⟨rfl, (bt hb_2 hb_7)⟩
theorem can_last {xs : List OpA} (h : ¬ (lenP xs).2.2 = 0) : canP xs = false := (canP_false xs).2 fun hc => h hc.1
set_option maxHeartbeats 2000000 in
theorem ocan_any (A : Option Addr) (c : Nat) (xs : List OpA) (w : World) (hx : kOp.C w A xs.length xs) (hn : xs.length ≤ 100000000) (hz : ∀ i, i < xs.length → opSz (xs.getD i op0)) (hT : Tabs w) (es : List Addr) (hE : ErrsO w es) : Calls Tryd.prog 22 #[.slice A xs.length c] w fun e w' => e = .returned (.bool (canP xs)) ∧ Below w.heap.size w w' := by
  have hpl : xs.length ≤ 9223372036854775807 := hx.2.1
  refine RX.enter Tryd.func22 rfl 58 rfl [(0, .slice A xs.length c)] rfl (by kernel_rfl) (fun R_ hR_ => ?_)
  refine X_seq ?_
  refine X_region ?_
  refine XL_run 1 [] [(0, .slice A xs.length c)] w [] (by kernel_rfl) trivial ?_
  refine XL_nil ?_
  refine X_seq ?_
  refine X_seq ?_
  refine X_region ?_
  refine XL_run 1 [] [(0, .slice A xs.length c), (10, .slice A xs.length c)] w [] (by kernel_rfl) trivial ?_
  refine XL_call 20 rfl rfl rfl ent20 [.slice A xs.length c] (by kernel_rfl) (olen_any _ _ xs _ hx hn hz (hT.below (Below.refl _ _)) es (hE.below (Below.refl _ _))) ?_
  rintro e w_1 ⟨rfl, hb_2⟩; refine ⟨_, rfl, ?_⟩
  refine XL_run 7 [] [(0, .slice A xs.length c), (5, errV es ((lenP xs).2.2))] w_1 [] (by kernel_rfl) trivial ?_
  refine XL_nil ?_
  refine X_seq ?_
  refine X_region ?_
  refine XL_run 1 [] [(0, .slice A xs.length c), (15, errV es ((lenP xs).2.2))] w_1 [] (by kernel_rfl) trivial ?_
  by_cases c_3 : (lenP xs).2.2 = 0
  · rw [show errV es ((lenP xs).2.2) = .nilIface from by rw [c_3]; rfl]
    refine XL_run 1 [] [(0, .slice A xs.length c), (16, .bool false)] w_1 [] (by kernel_rfl) trivial ?_
    refine XL_nil ?_
    refine X_cond false rfl ?_
    refine X_skip ?_
    refine X_seq ?_
    refine X_seq ?_
    refine X_region ?_
    refine XL_run 3 [] [(0, .slice A xs.length c), (17, .slice A xs.length c), (18, .int .i64 (xs.length : Int)), (19, .int .i64 0)] w_1 [] (by kernel_rfl) trivial ?_
    refine XL_nil ?_
    refine X_block ?_
    refine X_loop (ι := Nat) (fun i => [(0, .slice A xs.length c), (17, .slice A xs.length c), (18, .int .i64 (xs.length : Int)), (19, .int .i64 (i : Int))]) (fun i wl => i ≤ xs.length ∧ (∀ q, q + 1 < i → fitsP (xs.getD q op0) (xs.getD (q + 1) op0) = true) ∧ Below w.heap.size w wl) (fun i => xs.length - i) 0 ⟨by omega, fun q hq => by omega, hb_2⟩ (by kernel_rfl) ?_
    rintro i wl ⟨hi, hch, HB⟩
    have hzi : ((i : Int) - 1).toNat = i - 1 := by omega
    refine X_seq ?_
    refine X_region ?_
    by_cases c_4 : (i : Int) < (xs.length : Int)
    · refine XL_run 1 [(20, .eq (.bool true))] [(0, .slice A xs.length c), (17, .slice A xs.length c), (18, .int .i64 (xs.length : Int)), (19, .int .i64 (i : Int)), (20, .bool true)] wl [Value.bool (decide ((i : Int) < (xs.length : Int))) = Value.bool true] (by kernel_rfl) ⟨congrArg Value.bool (decide_eq_true (c_4)), trivial⟩ ?_
      refine XL_nil ?_
      refine X_seq ?_
      refine X_cond true rfl ?_
      refine X_skip ?_
      refine X_seq ?_
      refine X_block ?_
      refine X_seq ?_
      refine X_region ?_
      refine XL_run 1 [] [(0, .slice A xs.length c), (17, .slice A xs.length c), (18, .int .i64 (xs.length : Int)), (19, .int .i64 (i : Int)), (21, .int .i64 (i : Int))] wl [] (by kernel_rfl) trivial ?_
      obtain ⟨ad_5, B_8, c_9, ha_6, hc_7, hl_10, hC_11⟩ := Kd.atOp (Kd.C_below hx HB) (i := (i : Int)) (by omega) (by omega)
      replace hc_7 : CellsAt wl (ad_5.add ((i : Int).toNat * 7)) [.int .i64 ((xs.getD i op0).kind), .string ((xs.getD i op0).text), .int .i64 ((xs.getD i op0).vk), .int .i64 ((xs.getD i op0).vn), .string ((xs.getD i op0).vt), .int .i64 ((xs.getD i op0).count), .slice B_8 ((xs.getD i op0).attrs.length) c_9] := hc_7
      replace hl_10 : (xs.getD i op0).attrs.length ≤ c_9 := hl_10
      replace hC_11 : kAttr.C wl B_8 ((xs.getD i op0).attrs.length) (xs.getD i op0).attrs := hC_11
      refine XL_run 3 [(22, .idx ad_5), (23, .load (.agg #[.int .i64 ((xs.getD i op0).kind), .string ((xs.getD i op0).text), .int .i64 ((xs.getD i op0).vk), .int .i64 ((xs.getD i op0).vn), .string ((xs.getD i op0).vt), .int .i64 ((xs.getD i op0).count), .slice B_8 ((xs.getD i op0).attrs.length) c_9]))] [(0, .slice A xs.length c), (7, .pointer (some ⟨wl.heap.size, 0, none⟩)), (17, .slice A xs.length c), (18, .int .i64 (xs.length : Int)), (19, .int .i64 (i : Int)), (21, .int .i64 (i : Int)), (23, .agg #[.int .i64 ((xs.getD i op0).kind), .string ((xs.getD i op0).text), .int .i64 ((xs.getD i op0).vk), .int .i64 ((xs.getD i op0).vn), .string ((xs.getD i op0).vt), .int .i64 ((xs.getD i op0).count), .slice B_8 ((xs.getD i op0).attrs.length) c_9])] (wl.alloc (.cells #[.int .i64 0, .string ByteArray.empty, .int .i64 0, .int .i64 0, .string ByteArray.empty, .int .i64 0, .slice none 0 0] 33)) [A = some ad_5, (0 : Int) ≤ (i : Int), (i : Int) < (xs.length : Int), LoadsAs Tryd.prog 33 (ad_5.add ((i : Int).toNat * 7)) (.agg #[.int .i64 ((xs.getD i op0).kind), .string ((xs.getD i op0).text), .int .i64 ((xs.getD i op0).vk), .int .i64 ((xs.getD i op0).vn), .string ((xs.getD i op0).vt), .int .i64 ((xs.getD i op0).count), .slice B_8 ((xs.getD i op0).attrs.length) c_9]) wl] (by kernel_rfl) ⟨ha_6, (by omega), (by omega), loadsE rfl rfl hc_7 0 ⟨by kernel_rfl, by kernel_rfl⟩, trivial⟩ ?_
      obtain ⟨w_12, hw_16, hb_13, hk_14, hz_15⟩ := new_world wl #[.int .i64 0, .string ByteArray.empty, .int .i64 0, .int .i64 0, .string ByteArray.empty, .int .i64 0, .slice none 0 0] 33
      rw [hw_16]
      refine XL_run 1 [] [(0, .slice A xs.length c), (6, .int .i64 (i : Int)), (7, .pointer (some ⟨wl.heap.size, 0, none⟩)), (17, .slice A xs.length c), (18, .int .i64 (xs.length : Int)), (19, .int .i64 (i : Int)), (23, .agg #[.int .i64 ((xs.getD i op0).kind), .string ((xs.getD i op0).text), .int .i64 ((xs.getD i op0).vk), .int .i64 ((xs.getD i op0).vn), .string ((xs.getD i op0).vt), .int .i64 ((xs.getD i op0).count), .slice B_8 ((xs.getD i op0).attrs.length) c_9])] w_12 [] (by kernel_rfl) trivial ?_
      refine XL_store (v := .agg #[.int .i64 ((xs.getD i op0).kind), .string ((xs.getD i op0).text), .int .i64 ((xs.getD i op0).vk), .int .i64 ((xs.getD i op0).vn), .string ((xs.getD i op0).vt), .int .i64 ((xs.getD i op0).count), .slice B_8 ((xs.getD i op0).attrs.length) c_9]) rfl rfl rfl (by kernel_rfl) hk_14 0 [.int .i64 ((xs.getD i op0).kind), .string ((xs.getD i op0).text), .int .i64 ((xs.getD i op0).vk), .int .i64 ((xs.getD i op0).vn), .string ((xs.getD i op0).vt), .int .i64 ((xs.getD i op0).count), .slice B_8 ((xs.getD i op0).attrs.length) c_9] #[.int .i64 ((xs.getD i op0).kind), .string ((xs.getD i op0).text), .int .i64 ((xs.getD i op0).vk), .int .i64 ((xs.getD i op0).vn), .string ((xs.getD i op0).vt), .int .i64 ((xs.getD i op0).count), .slice B_8 ((xs.getD i op0).attrs.length) c_9] ⟨by kernel_rfl, rfl, by kernel_rfl⟩ ⟨by kernel_rfl, by kernel_rfl⟩ (Nat.le_of_ble_eq_true (by kernel_rfl)) (fun w_17 hg_18 hk_19 hz_20 => ?_)
      refine XL_nil ?_
      refine X_seq ?_
      refine X_any [9] 12 #[false, false, false, false, false, false, false, false, false, false, false, false] (by kernel_rfl) (by kernel_rfl) (by kernel_rfl) (fun wd_21 hb_22 hh_23 => ?_)
      refine XA_run (fuel' := 11) [0] [] [.int .i64 (i : Int)] #[true, false, false, false, false, false, false, false, false, false, false, false] [(0, .slice A xs.length c), (6, .int .i64 (i : Int)), (7, .pointer (some ⟨wl.heap.size, 0, none⟩)), (17, .slice A xs.length c), (18, .int .i64 (xs.length : Int)), (19, .int .i64 (i : Int)), (24, .int .i64 (i : Int))] [] (fun _ _ _ _ h => h) (by kernel_rfl) rfl trivial ?_
      by_cases c_24 : (i : Int) > 0
      · refine XA_run (fuel' := 6) [1, 2, 3, 4, 5] [(25, .eq (.bool true)), (29, .eq (.int .i64 ((i : Int) - 1)))] [.bool true, .bool true, .slice A xs.length c, .int .i64 (i : Int), .int .i64 ((i : Int) - 1)] #[true, true, true, true, true, true, false, false, false, false, false, false] [(0, .slice A xs.length c), (7, .pointer (some ⟨wl.heap.size, 0, none⟩)), (17, .slice A xs.length c), (18, .int .i64 (xs.length : Int)), (19, .int .i64 (i : Int)), (26, .bool true), (27, .slice A xs.length c), (29, .int .i64 ((i : Int) - 1))] [Value.bool (decide ((i : Int) > 0)) = Value.bool true, Value.int .i64 (IntKind.i64.wrap ((i : Int) - 1)) = Value.int .i64 ((i : Int) - 1)] (fun _ _ _ _ h => h) (by kernel_rfl) rfl ⟨congrArg Value.bool (decide_eq_true (c_24)), wr_i64 (by omega) (by omega), trivial⟩ ?_
        have hB_25 : Below w.heap.size w wd_21 := (bt (bg (bt HB hb_13) hg_18 (HB).size) hb_22)
        obtain ⟨ad_26, B_29, c_30, ha_27, hc_28, hl_31, hC_32⟩ := Kd.atOp (Kd.C_below hx hB_25) (i := (i : Int) - 1) (by omega) (by omega)
        replace hc_28 : CellsAt wd_21 (ad_26.add (((i : Int) - 1).toNat * 7)) [.int .i64 ((xs.getD ((i : Int) - 1).toNat op0).kind), .string ((xs.getD ((i : Int) - 1).toNat op0).text), .int .i64 ((xs.getD ((i : Int) - 1).toNat op0).vk), .int .i64 ((xs.getD ((i : Int) - 1).toNat op0).vn), .string ((xs.getD ((i : Int) - 1).toNat op0).vt), .int .i64 ((xs.getD ((i : Int) - 1).toNat op0).count), .slice B_29 ((xs.getD ((i : Int) - 1).toNat op0).attrs.length) c_30] := hc_28
        replace hl_31 : (xs.getD ((i : Int) - 1).toNat op0).attrs.length ≤ c_30 := hl_31
        replace hC_32 : kAttr.C wd_21 B_29 ((xs.getD ((i : Int) - 1).toNat op0).attrs.length) (xs.getD ((i : Int) - 1).toNat op0).attrs := hC_32
        refine XA_run (fuel' := 3) [6, 7, 8] [(30, .idx ad_26), (31, .load (.agg #[.int .i64 ((xs.getD ((i : Int) - 1).toNat op0).kind), .string ((xs.getD ((i : Int) - 1).toNat op0).text), .int .i64 ((xs.getD ((i : Int) - 1).toNat op0).vk), .int .i64 ((xs.getD ((i : Int) - 1).toNat op0).vn), .string ((xs.getD ((i : Int) - 1).toNat op0).vt), .int .i64 ((xs.getD ((i : Int) - 1).toNat op0).count), .slice B_29 ((xs.getD ((i : Int) - 1).toNat op0).attrs.length) c_30])), (32, .load (.agg #[.int .i64 ((xs.getD i op0).kind), .string ((xs.getD i op0).text), .int .i64 ((xs.getD i op0).vk), .int .i64 ((xs.getD i op0).vn), .string ((xs.getD i op0).vt), .int .i64 ((xs.getD i op0).count), .slice B_8 ((xs.getD i op0).attrs.length) c_9]))] [.pointer (some (ad_26.add (((i : Int) - 1).toNat * 7))), .agg #[.int .i64 ((xs.getD ((i : Int) - 1).toNat op0).kind), .string ((xs.getD ((i : Int) - 1).toNat op0).text), .int .i64 ((xs.getD ((i : Int) - 1).toNat op0).vk), .int .i64 ((xs.getD ((i : Int) - 1).toNat op0).vn), .string ((xs.getD ((i : Int) - 1).toNat op0).vt), .int .i64 ((xs.getD ((i : Int) - 1).toNat op0).count), .slice B_29 ((xs.getD ((i : Int) - 1).toNat op0).attrs.length) c_30], .agg #[.int .i64 ((xs.getD i op0).kind), .string ((xs.getD i op0).text), .int .i64 ((xs.getD i op0).vk), .int .i64 ((xs.getD i op0).vn), .string ((xs.getD i op0).vt), .int .i64 ((xs.getD i op0).count), .slice B_8 ((xs.getD i op0).attrs.length) c_9]] #[true, true, true, true, true, true, true, true, true, false, false, false] [(0, .slice A xs.length c), (17, .slice A xs.length c), (18, .int .i64 (xs.length : Int)), (19, .int .i64 (i : Int)), (26, .bool true), (31, .agg #[.int .i64 ((xs.getD ((i : Int) - 1).toNat op0).kind), .string ((xs.getD ((i : Int) - 1).toNat op0).text), .int .i64 ((xs.getD ((i : Int) - 1).toNat op0).vk), .int .i64 ((xs.getD ((i : Int) - 1).toNat op0).vn), .string ((xs.getD ((i : Int) - 1).toNat op0).vt), .int .i64 ((xs.getD ((i : Int) - 1).toNat op0).count), .slice B_29 ((xs.getD ((i : Int) - 1).toNat op0).attrs.length) c_30]), (32, .agg #[.int .i64 ((xs.getD i op0).kind), .string ((xs.getD i op0).text), .int .i64 ((xs.getD i op0).vk), .int .i64 ((xs.getD i op0).vn), .string ((xs.getD i op0).vt), .int .i64 ((xs.getD i op0).count), .slice B_8 ((xs.getD i op0).attrs.length) c_9])] [A = some ad_26, (0 : Int) ≤ (i : Int) - 1, (i : Int) - 1 < (xs.length : Int), LoadsAs Tryd.prog 33 (ad_26.add (((i : Int) - 1).toNat * 7)) (.agg #[.int .i64 ((xs.getD ((i : Int) - 1).toNat op0).kind), .string ((xs.getD ((i : Int) - 1).toNat op0).text), .int .i64 ((xs.getD ((i : Int) - 1).toNat op0).vk), .int .i64 ((xs.getD ((i : Int) - 1).toNat op0).vn), .string ((xs.getD ((i : Int) - 1).toNat op0).vt), .int .i64 ((xs.getD ((i : Int) - 1).toNat op0).count), .slice B_29 ((xs.getD ((i : Int) - 1).toNat op0).attrs.length) c_30]) wd_21, LoadsAs Tryd.prog 33 (⟨wl.heap.size, 0, none⟩) (.agg #[.int .i64 ((xs.getD i op0).kind), .string ((xs.getD i op0).text), .int .i64 ((xs.getD i op0).vk), .int .i64 ((xs.getD i op0).vn), .string ((xs.getD i op0).vt), .int .i64 ((xs.getD i op0).count), .slice B_8 ((xs.getD i op0).attrs.length) c_9]) wd_21] (fun _ _ _ _ h => h) (by kernel_rfl) rfl ⟨ha_27, (by omega), (by omega), loadsE rfl rfl hc_28 0 ⟨by kernel_rfl, by kernel_rfl⟩, loadsB rfl rfl (Blk.below hk_19 hb_22) 0 ⟨by kernel_rfl, by kernel_rfl⟩, trivial⟩ ?_
        refine XA_act (fuel' := 2) 9 #[true, true, true, true, true, true, true, true, true, true, false, false] _ rfl (by kernel_rfl) rfl (by kernel_rfl) rfl ?_
        have hB_33 : Below wl.heap.size wl wd_21 := (bt (bg hb_13 hg_18 (Nat.le_refl _)) hb_22)
        refine XL_call 72 rfl rfl rfl ent72 [.agg #[.int .i64 ((xs.getD ((i : Int) - 1).toNat op0).kind), .string ((xs.getD ((i : Int) - 1).toNat op0).text), .int .i64 ((xs.getD ((i : Int) - 1).toNat op0).vk), .int .i64 ((xs.getD ((i : Int) - 1).toNat op0).vn), .string ((xs.getD ((i : Int) - 1).toNat op0).vt), .int .i64 ((xs.getD ((i : Int) - 1).toNat op0).count), .slice B_29 ((xs.getD ((i : Int) - 1).toNat op0).attrs.length) c_30], .agg #[.int .i64 ((xs.getD i op0).kind), .string ((xs.getD i op0).text), .int .i64 ((xs.getD i op0).vk), .int .i64 ((xs.getD i op0).vn), .string ((xs.getD i op0).vt), .int .i64 ((xs.getD i op0).count), .slice B_8 ((xs.getD i op0).attrs.length) c_9]] (by kernel_rfl) (fits_any (xs.getD ((i : Int) - 1).toNat op0) (xs.getD i op0) _ _ _ _ _ hC_32 (Kd.C_below hC_11 hB_33)) ?_
        rintro e w_34 ⟨rfl, hb_35⟩; refine ⟨_, rfl, ?_⟩
        refine XL_nil ?_
        by_cases c_36 : fitsP (xs.getD ((i : Int) - 1).toNat op0) (xs.getD i op0) = true
        · rw [show (fitsP (xs.getD ((i : Int) - 1).toNat op0) (xs.getD i op0) : Bool) = true from by simpa using c_36]
          refine XA_pure (fuel' := 0) [10, 11] [] [.bool false, .bool false] #[true, true, true, true, true, true, true, true, true, true, true, true] [(0, .slice A xs.length c), (17, .slice A xs.length c), (18, .int .i64 (xs.length : Int)), (19, .int .i64 (i : Int)), (35, .bool false)] (fun w_ => []) (fun _ _ _ _ h => h) (fun w_ => by kernel_rfl) rfl (fun w_ => trivial) ?_
          refine XA_done (by kernel_rfl) ?_
          refine X_cond false rfl ?_
          refine X_skip ?_
          refine X_region ?_
          refine XL_run 2 [(36, .eq (.int .i64 ((i : Int) + 1)))] [(0, .slice A xs.length c), (17, .slice A xs.length c), (18, .int .i64 (xs.length : Int)), (19, .int .i64 ((i : Int) + 1))] w_34 [Value.int .i64 (IntKind.i64.wrap ((i : Int) + 1)) = Value.int .i64 ((i : Int) + 1)] (by kernel_rfl) ⟨wr_i64 (by omega) (by omega), trivial⟩ ?_
          refine XL_nil ?_
          refine ⟨(i + 1), by kernel_rfl, ?_, ?_⟩
          · exact ⟨by omega, fun q hq => by by_cases e_ : q + 1 = i; (· have h_ := c_36; rw [hzi] at h_; rw [show q = i - 1 from by omega, show i - 1 + 1 = i from by omega]; exact h_); (· exact hch q (by omega)), (bt hB_25 hb_35)⟩
          · (try dsimp only); omega
        · rw [show (fitsP (xs.getD ((i : Int) - 1).toNat op0) (xs.getD i op0) : Bool) = false from by simpa using c_36]
          refine XA_pure (fuel' := 0) [10, 11] [] [.bool true, .bool true] #[true, true, true, true, true, true, true, true, true, true, true, true] [(0, .slice A xs.length c), (17, .slice A xs.length c), (18, .int .i64 (xs.length : Int)), (19, .int .i64 (i : Int)), (35, .bool true)] (fun w_ => []) (fun _ _ _ _ h => h) (fun w_ => by kernel_rfl) rfl (fun w_ => trivial) ?_
          refine XA_done (by kernel_rfl) ?_
          refine X_cond true rfl ?_
          refine X_seq ?_
          refine X_region ?_
          refine XL_run 1 [] [(2, .bool false)] w_34 [] (by kernel_rfl) trivial ?_
          refine XL_nil ?_
          refine X_ret ?_
          refine RX.ret_ok (P := Tryd.prog) (fn := Tryd.f22) (N := 58) (R := R_) [.bool false] (by kernel_rfl) (hR_ _ _ ?_)
          rw [(canP_false xs).2 (fun hc_ => c_36 (by have h_ := hc_.2.1 (i - 1) (by omega); rw [show i - 1 + 1 = i from by omega] at h_; rw [hzi]; exact h_))]
          exact ⟨rfl, (bt hB_25 hb_35)⟩
      · refine XA_run (fuel' := 3) [1, 2, 3, 4, 5, 6, 7, 8] [(25, .eq (.bool false))] [.bool false, .bool false, undef, undef, undef, undef, undef, undef] #[true, true, true, true, true, true, true, true, true, false, false, false] [(0, .slice A xs.length c), (17, .slice A xs.length c), (18, .int .i64 (xs.length : Int)), (19, .int .i64 (i : Int)), (26, .bool false), (31, undef), (32, undef)] [Value.bool (decide ((i : Int) > 0)) = Value.bool false] (fun _ _ _ _ h => h) (by kernel_rfl) rfl ⟨congrArg Value.bool (decide_eq_false (c_24)), trivial⟩ ?_
        refine XA_pure (fuel' := 2) [9] [] [undef] #[true, true, true, true, true, true, true, true, true, true, false, false] [(0, .slice A xs.length c), (17, .slice A xs.length c), (18, .int .i64 (xs.length : Int)), (19, .int .i64 (i : Int)), (26, .bool false), (33, undef)] (fun w_ => []) (fun _ _ _ _ h => h) (fun w_ => by kernel_rfl) rfl (fun w_ => trivial) ?_
        refine XA_pure (fuel' := 0) [10, 11] [] [undef, .bool false] #[true, true, true, true, true, true, true, true, true, true, true, true] [(0, .slice A xs.length c), (17, .slice A xs.length c), (18, .int .i64 (xs.length : Int)), (19, .int .i64 (i : Int)), (35, .bool false)] (fun w_ => []) (fun _ _ _ _ h => h) (fun w_ => by kernel_rfl) rfl (fun w_ => trivial) ?_
        refine XA_done (by kernel_rfl) ?_
        refine X_cond false rfl ?_
        refine X_skip ?_
        refine X_region ?_
        refine XL_run 2 [(36, .eq (.int .i64 ((i : Int) + 1)))] [(0, .slice A xs.length c), (17, .slice A xs.length c), (18, .int .i64 (xs.length : Int)), (19, .int .i64 ((i : Int) + 1))] wd_21 [Value.int .i64 (IntKind.i64.wrap ((i : Int) + 1)) = Value.int .i64 ((i : Int) + 1)] (by kernel_rfl) ⟨wr_i64 (by omega) (by omega), trivial⟩ ?_
        refine XL_nil ?_
        have hB_37 : Below w.heap.size w wd_21 := (bt (bg (bt HB hb_13) hg_18 (HB).size) hb_22)
        refine ⟨(i + 1), by kernel_rfl, ?_, ?_⟩
        · exact ⟨by omega, fun q hq => by omega, hB_37⟩
        · (try dsimp only); omega
    · refine XL_run 1 [(20, .eq (.bool false))] [(0, .slice A xs.length c), (17, .slice A xs.length c), (18, .int .i64 (xs.length : Int)), (19, .int .i64 (i : Int)), (20, .bool false)] wl [Value.bool (decide ((i : Int) < (xs.length : Int))) = Value.bool false] (by kernel_rfl) ⟨congrArg Value.bool (decide_eq_false (c_4)), trivial⟩ ?_
      refine XL_nil ?_
      refine X_seq ?_
      refine X_cond false rfl ?_
      refine X_exit ?_
      refine X_seq ?_
      refine X_seq ?_
      refine X_region ?_
      refine XL_run 3 [] [(0, .slice A xs.length c), (8, .int .i64 (xs.length : Int))] wl [] (by kernel_rfl) trivial ?_
      refine XL_nil ?_
      refine X_seq ?_
      refine X_region ?_
      refine XL_run 1 [] [(0, .slice A xs.length c), (8, .int .i64 (xs.length : Int)), (39, .int .i64 (xs.length : Int))] wl [] (by kernel_rfl) trivial ?_
      by_cases c_38 : (xs.length : Int) > 0
      · refine XL_run 1 [(40, .eq (.bool true))] [(0, .slice A xs.length c), (8, .int .i64 (xs.length : Int)), (40, .bool true)] wl [Value.bool (decide ((xs.length : Int) > 0)) = Value.bool true] (by kernel_rfl) ⟨congrArg Value.bool (decide_eq_true (c_38)), trivial⟩ ?_
        refine XL_nil ?_
        refine X_cond true rfl ?_
        refine X_seq ?_
        refine X_region ?_
        refine XL_run 3 [(43, .eq (.int .i64 ((xs.length : Int) - 1)))] [(0, .slice A xs.length c), (8, .int .i64 (xs.length : Int)), (41, .slice A xs.length c), (43, .int .i64 ((xs.length : Int) - 1))] wl [Value.int .i64 (IntKind.i64.wrap ((xs.length : Int) - 1)) = Value.int .i64 ((xs.length : Int) - 1)] (by kernel_rfl) ⟨wr_i64 (by omega) (by omega), trivial⟩ ?_
        obtain ⟨ad_39, B_42, c_43, ha_40, hc_41, hl_44, hC_45⟩ := Kd.atOp (Kd.C_below hx HB) (i := (xs.length : Int) - 1) (by omega) (by omega)
        replace hc_41 : CellsAt wl (ad_39.add (((xs.length : Int) - 1).toNat * 7)) [.int .i64 ((xs.getD ((xs.length : Int) - 1).toNat op0).kind), .string ((xs.getD ((xs.length : Int) - 1).toNat op0).text), .int .i64 ((xs.getD ((xs.length : Int) - 1).toNat op0).vk), .int .i64 ((xs.getD ((xs.length : Int) - 1).toNat op0).vn), .string ((xs.getD ((xs.length : Int) - 1).toNat op0).vt), .int .i64 ((xs.getD ((xs.length : Int) - 1).toNat op0).count), .slice B_42 ((xs.getD ((xs.length : Int) - 1).toNat op0).attrs.length) c_43] := hc_41
        replace hl_44 : (xs.getD ((xs.length : Int) - 1).toNat op0).attrs.length ≤ c_43 := hl_44
        replace hC_45 : kAttr.C wl B_42 ((xs.getD ((xs.length : Int) - 1).toNat op0).attrs.length) (xs.getD ((xs.length : Int) - 1).toNat op0).attrs := hC_45
        refine XL_run 3 [(44, .idx ad_39), (46, .load (.int .i64 ((xs.getD ((xs.length : Int) - 1).toNat op0).kind)))] [(0, .slice A xs.length c), (8, .int .i64 (xs.length : Int)), (46, .int .i64 ((xs.getD ((xs.length : Int) - 1).toNat op0).kind))] wl [A = some ad_39, (0 : Int) ≤ (xs.length : Int) - 1, (xs.length : Int) - 1 < (xs.length : Int), LoadsAs Tryd.prog 3 (ad_39.add (((xs.length : Int) - 1).toNat * 7)) (.int .i64 ((xs.getD ((xs.length : Int) - 1).toNat op0).kind)) wl] (by kernel_rfl) ⟨ha_40, (by omega), (by omega), loads1 rfl (elem_cell hc_41 0 _ rfl), trivial⟩ ?_
        by_cases c_46 : (xs.getD ((xs.length : Int) - 1).toNat op0).kind = 3
        · refine XL_run 5 [(47, .eq (.bool false)), (51, .eq (.int .i64 ((xs.length : Int) - 1)))] [(48, .bool false), (49, .slice A xs.length c), (51, .int .i64 ((xs.length : Int) - 1))] wl [Value.bool ((xs.getD ((xs.length : Int) - 1).toNat op0).kind != 3) = Value.bool false, Value.int .i64 (IntKind.i64.wrap ((xs.length : Int) - 1)) = Value.int .i64 ((xs.length : Int) - 1)] (by kernel_rfl) ⟨congrArg Value.bool (bneF (c_46)), wr_i64 (by omega) (by omega), trivial⟩ ?_
          obtain ⟨ad_47, B_50, c_51, ha_48, hc_49, hl_52, hC_53⟩ := Kd.atOp (Kd.C_below hx HB) (i := (xs.length : Int) - 1) (by omega) (by omega)
          replace hc_49 : CellsAt wl (ad_47.add (((xs.length : Int) - 1).toNat * 7)) [.int .i64 ((xs.getD ((xs.length : Int) - 1).toNat op0).kind), .string ((xs.getD ((xs.length : Int) - 1).toNat op0).text), .int .i64 ((xs.getD ((xs.length : Int) - 1).toNat op0).vk), .int .i64 ((xs.getD ((xs.length : Int) - 1).toNat op0).vn), .string ((xs.getD ((xs.length : Int) - 1).toNat op0).vt), .int .i64 ((xs.getD ((xs.length : Int) - 1).toNat op0).count), .slice B_50 ((xs.getD ((xs.length : Int) - 1).toNat op0).attrs.length) c_51] := hc_49
          replace hl_52 : (xs.getD ((xs.length : Int) - 1).toNat op0).attrs.length ≤ c_51 := hl_52
          replace hC_53 : kAttr.C wl B_50 ((xs.getD ((xs.length : Int) - 1).toNat op0).attrs.length) (xs.getD ((xs.length : Int) - 1).toNat op0).attrs := hC_53
          refine XL_run 4 [(52, .idx ad_47), (54, .load (.slice B_50 ((xs.getD ((xs.length : Int) - 1).toNat op0).attrs.length) c_51))] [(48, .bool false), (55, .int .i64 ((xs.getD ((xs.length : Int) - 1).toNat op0).attrs.length : Int))] wl [A = some ad_47, (0 : Int) ≤ (xs.length : Int) - 1, (xs.length : Int) - 1 < (xs.length : Int), LoadsAs Tryd.prog 31 ((ad_47.add (((xs.length : Int) - 1).toNat * 7)).add 6) (.slice B_50 ((xs.getD ((xs.length : Int) - 1).toNat op0).attrs.length) c_51) wl] (by kernel_rfl) ⟨ha_48, (by omega), (by omega), loads1 rfl (elem_cell hc_49 6 _ rfl), trivial⟩ ?_
          by_cases c_54 : ((xs.getD ((xs.length : Int) - 1).toNat op0).attrs.length : Int) > 0
          · refine XL_run 3 [(56, .eq (.bool true))] [(2, .bool true)] wl [Value.bool (decide (((xs.getD ((xs.length : Int) - 1).toNat op0).attrs.length : Int) > 0)) = Value.bool true] (by kernel_rfl) ⟨congrArg Value.bool (decide_eq_true (c_54)), trivial⟩ ?_
            refine XL_nil ?_
            refine X_ret ?_
            refine RX.ret_ok (P := Tryd.prog) (fn := Tryd.f22) (N := 58) (R := R_) [.bool true] (by kernel_rfl) (hR_ _ _ ?_)
            have hzl : ((xs.length : Int) - 1).toNat = xs.length - 1 := by omega
            rw [hzl] at c_46
            rw [hzl] at c_54
            rw [(canP_iff xs).2 ⟨c_3, fun q hq => hch q (by omega), by unfold plainR; first | exact .inl (by omega) | exact .inr (by intro h_; omega)⟩]
            exact ⟨rfl, HB⟩
          · refine XL_run 3 [(56, .eq (.bool false))] [(2, .bool false)] wl [Value.bool (decide (((xs.getD ((xs.length : Int) - 1).toNat op0).attrs.length : Int) > 0)) = Value.bool false] (by kernel_rfl) ⟨congrArg Value.bool (decide_eq_false (c_54)), trivial⟩ ?_
            refine XL_nil ?_
            refine X_ret ?_
            refine RX.ret_ok (P := Tryd.prog) (fn := Tryd.f22) (N := 58) (R := R_) [.bool false] (by kernel_rfl) (hR_ _ _ ?_)
            have hzl : ((xs.length : Int) - 1).toNat = xs.length - 1 := by omega
            rw [hzl] at c_46
            rw [hzl] at c_54
            rw [(canP_false xs).2 (fun hc_ => by have h_ := hc_.2.2; unfold plainR at h_; rcases h_ with h_ | h_; (· omega); (· exact h_ ⟨by omega, by omega⟩))]
            exact ⟨rfl, HB⟩
        · refine XL_run 12 [(47, .eq (.bool true))] [(2, .bool true)] wl [Value.bool ((xs.getD ((xs.length : Int) - 1).toNat op0).kind != 3) = Value.bool true] (by kernel_rfl) ⟨congrArg Value.bool (bneT (c_46)), trivial⟩ ?_
          refine XL_nil ?_
          refine X_ret ?_
          refine RX.ret_ok (P := Tryd.prog) (fn := Tryd.f22) (N := 58) (R := R_) [.bool true] (by kernel_rfl) (hR_ _ _ ?_)
          have hzl : ((xs.length : Int) - 1).toNat = xs.length - 1 := by omega
          rw [hzl] at c_46
          rw [(canP_iff xs).2 ⟨c_3, fun q hq => hch q (by omega), by unfold plainR; first | exact .inl (by omega) | exact .inr (by intro h_; omega)⟩]
          exact ⟨rfl, HB⟩
      · refine XL_run 1 [(40, .eq (.bool false))] [(0, .slice A xs.length c), (8, .int .i64 (xs.length : Int)), (40, .bool false)] wl [Value.bool (decide ((xs.length : Int) > 0)) = Value.bool false] (by kernel_rfl) ⟨congrArg Value.bool (decide_eq_false (c_38)), trivial⟩ ?_
        refine XL_nil ?_
        refine X_cond false rfl ?_
        refine X_skip ?_
        refine X_seq ?_
        refine X_region ?_
        refine XL_run 1 [] [(2, .bool true)] wl [] (by kernel_rfl) trivial ?_
        refine XL_nil ?_
        refine X_ret ?_
        refine RX.ret_ok (P := Tryd.prog) (fn := Tryd.f22) (N := 58) (R := R_) [.bool true] (by kernel_rfl) (hR_ _ _ ?_)
        have hzl : ((xs.length : Int) - 1).toNat = xs.length - 1 := by omega
        rw [(canP_iff xs).2 ⟨c_3, fun q hq => hch q (by omega), by unfold plainR; first | exact .inl (by omega) | exact .inr (by intro h_; omega)⟩]
        exact ⟨rfl, HB⟩
  · rw [errV_pos es ((lenP xs).2.2) (Nat.pos_of_ne_zero c_3)]
    refine XL_run 1 [] [(0, .slice A xs.length c), (16, .bool true)] w_1 [] (by kernel_rfl) trivial ?_
    refine XL_nil ?_
    refine X_cond true rfl ?_
    refine X_seq ?_
    refine X_region ?_
    refine XL_run 1 [] [(2, .bool false)] w_1 [] (by kernel_rfl) trivial ?_
    refine XL_nil ?_
    refine X_ret ?_
    refine RX.ret_ok (P := Tryd.prog) (fn := Tryd.f22) (N := 58) (R := R_) [.bool false] (by kernel_rfl) (hR_ _ _ ?_)
    rw [can_last c_3]
    exact ⟨rfl, hb_2⟩
def opEqP (a b : OpA) : Bool := decide (a.kind = b.kind) && (decide (a.text = b.text) && (decide (a.count = b.count) && (decide (((a.vk, a.vn, a.vt) : Pl) = (b.vk, b.vn, b.vt)) && decide (a.attrs = b.attrs))))
theorem opEqP_iff (a b : OpA) : opEqP a b = true ↔ a = b := by
  obtain ⟨a1, a2, a3, a4, a5, a6, a7⟩ := a
  obtain ⟨b1, b2, b3, b4, b5, b6, b7⟩ := b
  simp only [opEqP, Bool.and_eq_true, decide_eq_true_eq, Prod.mk.injEq, OpA.mk.injEq]
  exact ⟨fun ⟨h1, h2, h3, ⟨h4, h5, h6⟩, h7⟩ => ⟨h1, h2, h4, h5, h6, h3, h7⟩, fun ⟨h1, h2, h4, h5, h6, h3, h7⟩ => ⟨h1, h2, h3, ⟨h4, h5, h6⟩, h7⟩⟩
noncomputable def opsEqP (xs ys : List OpA) : Bool := @decide (xs = ys) (Classical.propDecidable _)
theorem opsEqP_iff (xs ys : List OpA) : opsEqP xs ys = true ↔ xs = ys := by unfold opsEqP; exact @decide_eq_true_iff _ (Classical.propDecidable _)
theorem opsEqP_false (xs ys : List OpA) : opsEqP xs ys = false ↔ ¬ xs = ys := by rw [← opsEqP_iff]; cases opsEqP xs ys <;> simp
theorem ops_ext {xs ys : List OpA} (hl : xs.length = ys.length) (h : ∀ q, q < xs.length → xs.getD q op0 = ys.getD q op0) : xs = ys :=
  List.ext_getElem hl fun q h1 h2 => by have := h q h1; simpa [List.getD_eq_getElem?_getD, List.getElem?_eq_getElem h1, List.getElem?_eq_getElem h2] using this
theorem same1_any (a b : OpA) (A B : Option Addr) (c d : Nat) (w : World) (hA : kAttr.C w A a.attrs.length a.attrs) (hB : kAttr.C w B b.attrs.length b.attrs) : Calls Tryd.prog 75 #[.agg #[.int .i64 a.kind, .string a.text, .int .i64 a.vk, .int .i64 a.vn, .string a.vt, .int .i64 a.count, .slice A a.attrs.length c], .agg #[.int .i64 b.kind, .string b.text, .int .i64 b.vk, .int .i64 b.vn, .string b.vt, .int .i64 b.count, .slice B b.attrs.length d]] w fun e w' => e = .returned (.bool (opEqP a b)) ∧ Below w.heap.size w w' := by
  refine RX.enter Tryd.func75 rfl 38 rfl [(0, .agg #[.int .i64 a.kind, .string a.text, .int .i64 a.vk, .int .i64 a.vn, .string a.vt, .int .i64 a.count, .slice A a.attrs.length c]), (1, .agg #[.int .i64 b.kind, .string b.text, .int .i64 b.vk, .int .i64 b.vn, .string b.vt, .int .i64 b.count, .slice B b.attrs.length d])] rfl (by kernel_rfl) (fun R_ hR_ => ?_)
  refine X_seq ?_
  refine X_region ?_
  refine XL_run 1 [] [(1, .agg #[.int .i64 b.kind, .string b.text, .int .i64 b.vk, .int .i64 b.vn, .string b.vt, .int .i64 b.count, .slice B b.attrs.length d]), (2, .pointer (some ⟨w.heap.size, 0, none⟩))] (w.alloc (.cells #[.int .i64 a.kind, .string a.text, .int .i64 a.vk, .int .i64 a.vn, .string a.vt, .int .i64 a.count, .slice A a.attrs.length c] 33)) [] (by kernel_rfl) trivial ?_
  obtain ⟨w_1, hw_5, hb_2, hk_3, hz_4⟩ := new_world w #[.int .i64 a.kind, .string a.text, .int .i64 a.vk, .int .i64 a.vn, .string a.vt, .int .i64 a.count, .slice A a.attrs.length c] 33
  rw [hw_5]
  refine XL_run 1 [] [(2, .pointer (some ⟨w.heap.size, 0, none⟩)), (3, .pointer (some ⟨w_1.heap.size, 0, none⟩))] (w_1.alloc (.cells #[.int .i64 b.kind, .string b.text, .int .i64 b.vk, .int .i64 b.vn, .string b.vt, .int .i64 b.count, .slice B b.attrs.length d] 33)) [] (by kernel_rfl) trivial ?_
  obtain ⟨w_6, hw_10, hb_7, hk_8, hz_9⟩ := new_world w_1 #[.int .i64 b.kind, .string b.text, .int .i64 b.vk, .int .i64 b.vn, .string b.vt, .int .i64 b.count, .slice B b.attrs.length d] 33
  rw [hw_10]
  refine XL_run 1 [] [(2, .pointer (some ⟨w.heap.size, 0, none⟩)), (3, .pointer (some ⟨w_1.heap.size, 0, none⟩))] w_6 [] (by kernel_rfl) trivial ?_
  refine XL_nil ?_
  refine X_seq ?_
  refine X_region ?_
  refine XL_run 4 [(6, .load (.int .i64 a.kind)), (8, .load (.int .i64 b.kind))] [(2, .pointer (some ⟨w.heap.size, 0, none⟩)), (3, .pointer (some ⟨w_1.heap.size, 0, none⟩)), (6, .int .i64 a.kind), (8, .int .i64 b.kind)] w_6 [LoadsAs Tryd.prog 3 (⟨w.heap.size, 0, none⟩) (.int .i64 a.kind) w_6, LoadsAs Tryd.prog 3 (⟨w_1.heap.size, 0, none⟩) (.int .i64 b.kind) w_6] (by kernel_rfl) ⟨loads1 rfl (Blk.cell (Blk.below hk_3 hb_7) 0 _ rfl), loads1 rfl (Blk.cell hk_8 0 _ rfl), trivial⟩ ?_
  by_cases c_11 : a.kind = b.kind
  · refine XL_run 6 [(9, .eq (.bool true)), (12, .load (.string a.text)), (14, .load (.string b.text))] [(2, .pointer (some ⟨w.heap.size, 0, none⟩)), (3, .pointer (some ⟨w_1.heap.size, 0, none⟩)), (10, .bool true), (12, .string a.text), (14, .string b.text)] w_6 [Value.bool (a.kind == b.kind) = Value.bool true, LoadsAs Tryd.prog 9 (⟨w.heap.size, 1, none⟩) (.string a.text) w_6, LoadsAs Tryd.prog 9 (⟨w_1.heap.size, 1, none⟩) (.string b.text) w_6] (by kernel_rfl) ⟨congrArg Value.bool (beq_iff_eq.2 (c_11)), loads1 rfl (Blk.cell (Blk.below hk_3 hb_7) 1 _ rfl), loads1 rfl (Blk.cell hk_8 1 _ rfl), trivial⟩ ?_
    by_cases c_12 : a.text = b.text
    · refine XL_run 7 [(15, .eq (.bool true)), (19, .load (.int .i64 a.count)), (21, .load (.int .i64 b.count))] [(2, .pointer (some ⟨w.heap.size, 0, none⟩)), (3, .pointer (some ⟨w_1.heap.size, 0, none⟩)), (17, .bool true), (19, .int .i64 a.count), (21, .int .i64 b.count)] w_6 [Value.bool (a.text.toList == b.text.toList) = Value.bool true, LoadsAs Tryd.prog 3 (⟨w.heap.size, 5, none⟩) (.int .i64 a.count) w_6, LoadsAs Tryd.prog 3 (⟨w_1.heap.size, 5, none⟩) (.int .i64 b.count) w_6] (by kernel_rfl) ⟨congrArg Value.bool (strEqT (c_12)), loads1 rfl (Blk.cell (Blk.below hk_3 hb_7) 5 _ rfl), loads1 rfl (Blk.cell hk_8 5 _ rfl), trivial⟩ ?_
      by_cases c_13 : a.count = b.count
      · refine XL_run 7 [(22, .eq (.bool true)), (26, .load (.agg #[.int .i64 a.vk, .int .i64 a.vn, .string a.vt])), (28, .load (.agg #[.int .i64 b.vk, .int .i64 b.vn, .string b.vt]))] [(2, .pointer (some ⟨w.heap.size, 0, none⟩)), (3, .pointer (some ⟨w_1.heap.size, 0, none⟩)), (24, .bool true), (26, .agg #[.int .i64 a.vk, .int .i64 a.vn, .string a.vt]), (28, .agg #[.int .i64 b.vk, .int .i64 b.vn, .string b.vt])] w_6 [Value.bool (a.count == b.count) = Value.bool true, LoadsAs Tryd.prog 30 (⟨w.heap.size, 2, none⟩) (.agg #[.int .i64 a.vk, .int .i64 a.vn, .string a.vt]) w_6, LoadsAs Tryd.prog 30 (⟨w_1.heap.size, 2, none⟩) (.agg #[.int .i64 b.vk, .int .i64 b.vn, .string b.vt]) w_6] (by kernel_rfl) ⟨congrArg Value.bool (beq_iff_eq.2 (c_13)), loadsB rfl rfl (Blk.below hk_3 hb_7) 2 ⟨by kernel_rfl, by kernel_rfl⟩, loadsB rfl rfl hk_8 2 ⟨by kernel_rfl, by kernel_rfl⟩, trivial⟩ ?_
        refine XL_call 111 rfl rfl rfl ent111 [.agg #[.int .i64 a.vk, .int .i64 a.vn, .string a.vt], .agg #[.int .i64 b.vk, .int .i64 b.vn, .string b.vt]] (by kernel_rfl) (vsame_any (a.vk, a.vn, a.vt) (b.vk, b.vn, b.vt) _) ?_
        rintro e w_14 ⟨rfl, hb_15⟩; refine ⟨_, rfl, ?_⟩
        refine XL_run 2 [] [(2, .pointer (some ⟨w.heap.size, 0, none⟩)), (3, .pointer (some ⟨w_1.heap.size, 0, none⟩)), (31, .bool (decide (((a.vk, a.vn, a.vt) : Pl) = (b.vk, b.vn, b.vt))))] w_14 [] (by kernel_rfl) trivial ?_
        by_cases c_16 : decide (((a.vk, a.vn, a.vt) : Pl) = (b.vk, b.vn, b.vt)) = true
        · rw [show (decide (((a.vk, a.vn, a.vt) : Pl) = (b.vk, b.vn, b.vt)) : Bool) = true from by simpa using c_16]
          refine XL_run 4 [(33, .load (.slice A a.attrs.length c)), (35, .load (.slice B b.attrs.length d))] [(31, .bool true), (33, .slice A a.attrs.length c), (35, .slice B b.attrs.length d)] w_14 [LoadsAs Tryd.prog 31 (⟨w.heap.size, 6, none⟩) (.slice A a.attrs.length c) w_14, LoadsAs Tryd.prog 31 (⟨w_1.heap.size, 6, none⟩) (.slice B b.attrs.length d) w_14] (by kernel_rfl) ⟨loads1 rfl (Blk.cell (Blk.below hk_3 (bt hb_7 hb_15)) 6 _ rfl), loads1 rfl (Blk.cell (Blk.below hk_8 hb_15) 6 _ rfl), trivial⟩ ?_
          refine XL_call 108 rfl rfl rfl ent108 [.slice A a.attrs.length c, .slice B b.attrs.length d] (by kernel_rfl) (asame_any _ _ _ _ a.attrs b.attrs _ (Kd.C_below hA (bt (bt hb_2 hb_7) hb_15)) (Kd.C_below hB (bt (bt hb_2 hb_7) hb_15))) ?_
          rintro e w_17 ⟨rfl, hb_18⟩; refine ⟨_, rfl, ?_⟩
          refine XL_run 2 [] [(4, .bool (decide (a.attrs = b.attrs)))] w_17 [] (by kernel_rfl) trivial ?_
          refine XL_nil ?_
          refine X_ret ?_
          refine RX.ret_ok (P := Tryd.prog) (fn := Tryd.f75) (N := 38) (R := R_) [.bool (decide (a.attrs = b.attrs))] (by kernel_rfl) (hR_ _ _ ?_)
          rw [show opEqP a b = decide (a.attrs = b.attrs) from by unfold opEqP; simp_all]
          exact ⟨rfl, (bt (bt (bt hb_2 hb_7) hb_15) hb_18)⟩
        · rw [show (decide (((a.vk, a.vn, a.vt) : Pl) = (b.vk, b.vn, b.vt)) : Bool) = false from by simpa using c_16]
          refine XL_run 7 [] [(4, .bool false)] w_14 [] (by kernel_rfl) trivial ?_
          refine XL_nil ?_
          refine X_ret ?_
          refine RX.ret_ok (P := Tryd.prog) (fn := Tryd.f75) (N := 38) (R := R_) [.bool false] (by kernel_rfl) (hR_ _ _ ?_)
          rw [show opEqP a b = false from by unfold opEqP; simp_all]
          exact ⟨rfl, (bt (bt hb_2 hb_7) hb_15)⟩
      · refine XL_run 17 [(22, .eq (.bool false))] [(4, .bool false)] w_6 [Value.bool (a.count == b.count) = Value.bool false] (by kernel_rfl) ⟨congrArg Value.bool (beq_eq_false_iff_ne.2 (c_13)), trivial⟩ ?_
        refine XL_nil ?_
        refine X_ret ?_
        refine RX.ret_ok (P := Tryd.prog) (fn := Tryd.f75) (N := 38) (R := R_) [.bool false] (by kernel_rfl) (hR_ _ _ ?_)
        rw [show opEqP a b = false from by unfold opEqP; simp_all]
        exact ⟨rfl, (bt hb_2 hb_7)⟩
    · refine XL_run 24 [(15, .eq (.bool false))] [(4, .bool false)] w_6 [Value.bool (a.text.toList == b.text.toList) = Value.bool false] (by kernel_rfl) ⟨congrArg Value.bool (strEqF (c_12)), trivial⟩ ?_
      refine XL_nil ?_
      refine X_ret ?_
      refine RX.ret_ok (P := Tryd.prog) (fn := Tryd.f75) (N := 38) (R := R_) [.bool false] (by kernel_rfl) (hR_ _ _ ?_)
      rw [show opEqP a b = false from by unfold opEqP; simp_all]
      exact ⟨rfl, (bt hb_2 hb_7)⟩
  · refine XL_run 30 [(9, .eq (.bool false))] [(4, .bool false)] w_6 [Value.bool (a.kind == b.kind) = Value.bool false] (by kernel_rfl) ⟨congrArg Value.bool (beq_eq_false_iff_ne.2 (c_11)), trivial⟩ ?_
    refine XL_nil ?_
    refine X_ret ?_
    refine RX.ret_ok (P := Tryd.prog) (fn := Tryd.f75) (N := 38) (R := R_) [.bool false] (by kernel_rfl) (hR_ _ _ ?_)
    rw [show opEqP a b = false from by unfold opEqP; simp_all]
    exact ⟨rfl, (bt hb_2 hb_7)⟩
theorem equalF_any (A B : Option Addr) (c d : Nat) (xs ys : List OpA) (w : World) (hx : kOp.C w A xs.length xs) (hy : kOp.C w B ys.length ys) : Calls Tryd.prog 74 #[.slice A xs.length c, .slice B ys.length d, .func (.func 75) #[] #[]] w fun e w' => e = .returned (.bool (opsEqP xs ys)) ∧ Below w.heap.size w w' := by
  have hpl : xs.length ≤ 9223372036854775807 := hx.2.1
  refine RX.enter Tryd.func74 rfl 32 rfl [(0, .slice A xs.length c), (1, .slice B ys.length d), (2, .func (.func 75) #[] #[])] rfl (by kernel_rfl) (fun R_ hR_ => ?_)
  refine X_seq ?_
  refine X_region ?_
  refine XL_run 1 [] [(0, .slice A xs.length c), (1, .slice B ys.length d), (2, .func (.func 75) #[] #[])] w [] (by kernel_rfl) trivial ?_
  refine XL_nil ?_
  refine X_seq ?_
  refine X_seq ?_
  refine X_region ?_
  refine XL_run 4 [] [(0, .slice A xs.length c), (1, .slice B ys.length d), (2, .func (.func 75) #[] #[]), (11, .int .i64 (xs.length : Int)), (13, .int .i64 (ys.length : Int))] w [] (by kernel_rfl) trivial ?_
  by_cases c_1 : (xs.length : Int) = (ys.length : Int)
  · refine XL_run 1 [(14, .eq (.bool false))] [(0, .slice A xs.length c), (1, .slice B ys.length d), (2, .func (.func 75) #[] #[]), (14, .bool false)] w [Value.bool ((xs.length : Int) != (ys.length : Int)) = Value.bool false] (by kernel_rfl) ⟨congrArg Value.bool (bneF (c_1)), trivial⟩ ?_
    refine XL_nil ?_
    refine X_cond false rfl ?_
    refine X_skip ?_
    refine X_seq ?_
    refine X_seq ?_
    refine X_region ?_
    refine XL_run 3 [] [(1, .slice B ys.length d), (2, .func (.func 75) #[] #[]), (15, .slice A xs.length c), (16, .int .i64 (xs.length : Int)), (17, .int .i64 0)] w [] (by kernel_rfl) trivial ?_
    refine XL_nil ?_
    refine X_block ?_
    refine X_loop (ι := Nat) (fun i => [(1, .slice B ys.length d), (2, .func (.func 75) #[] #[]), (15, .slice A xs.length c), (16, .int .i64 (xs.length : Int)), (17, .int .i64 (i : Int))]) (fun i wl => i ≤ xs.length ∧ xs.length = ys.length ∧ (∀ q, q < i → xs.getD q op0 = ys.getD q op0) ∧ Below w.heap.size w wl) (fun i => xs.length - i) 0 ⟨by omega, by omega, fun q hq => by omega, (Below.refl _ _)⟩ (by kernel_rfl) ?_
    rintro i wl ⟨hi, hlen, hq0, HB⟩
    refine X_seq ?_
    refine X_region ?_
    by_cases c_2 : (i : Int) < (xs.length : Int)
    · refine XL_run 1 [(18, .eq (.bool true))] [(1, .slice B ys.length d), (2, .func (.func 75) #[] #[]), (15, .slice A xs.length c), (16, .int .i64 (xs.length : Int)), (17, .int .i64 (i : Int)), (18, .bool true)] wl [Value.bool (decide ((i : Int) < (xs.length : Int))) = Value.bool true] (by kernel_rfl) ⟨congrArg Value.bool (decide_eq_true (c_2)), trivial⟩ ?_
      refine XL_nil ?_
      refine X_seq ?_
      refine X_cond true rfl ?_
      refine X_skip ?_
      refine X_seq ?_
      refine X_block ?_
      refine X_seq ?_
      refine X_region ?_
      refine XL_run 1 [] [(1, .slice B ys.length d), (2, .func (.func 75) #[] #[]), (15, .slice A xs.length c), (16, .int .i64 (xs.length : Int)), (17, .int .i64 (i : Int)), (19, .int .i64 (i : Int))] wl [] (by kernel_rfl) trivial ?_
      obtain ⟨ad_3, B_6, c_7, ha_4, hc_5, hl_8, hC_9⟩ := Kd.atOp (Kd.C_below hx HB) (i := (i : Int)) (by omega) (by omega)
      replace hc_5 : CellsAt wl (ad_3.add ((i : Int).toNat * 7)) [.int .i64 ((xs.getD i op0).kind), .string ((xs.getD i op0).text), .int .i64 ((xs.getD i op0).vk), .int .i64 ((xs.getD i op0).vn), .string ((xs.getD i op0).vt), .int .i64 ((xs.getD i op0).count), .slice B_6 ((xs.getD i op0).attrs.length) c_7] := hc_5
      replace hl_8 : (xs.getD i op0).attrs.length ≤ c_7 := hl_8
      replace hC_9 : kAttr.C wl B_6 ((xs.getD i op0).attrs.length) (xs.getD i op0).attrs := hC_9
      refine XL_run 3 [(20, .idx ad_3), (21, .load (.agg #[.int .i64 ((xs.getD i op0).kind), .string ((xs.getD i op0).text), .int .i64 ((xs.getD i op0).vk), .int .i64 ((xs.getD i op0).vn), .string ((xs.getD i op0).vt), .int .i64 ((xs.getD i op0).count), .slice B_6 ((xs.getD i op0).attrs.length) c_7]))] [(1, .slice B ys.length d), (2, .func (.func 75) #[] #[]), (8, .pointer (some ⟨wl.heap.size, 0, none⟩)), (15, .slice A xs.length c), (16, .int .i64 (xs.length : Int)), (17, .int .i64 (i : Int)), (19, .int .i64 (i : Int)), (21, .agg #[.int .i64 ((xs.getD i op0).kind), .string ((xs.getD i op0).text), .int .i64 ((xs.getD i op0).vk), .int .i64 ((xs.getD i op0).vn), .string ((xs.getD i op0).vt), .int .i64 ((xs.getD i op0).count), .slice B_6 ((xs.getD i op0).attrs.length) c_7])] (wl.alloc (.cells #[.int .i64 0, .string ByteArray.empty, .int .i64 0, .int .i64 0, .string ByteArray.empty, .int .i64 0, .slice none 0 0] 33)) [A = some ad_3, (0 : Int) ≤ (i : Int), (i : Int) < (xs.length : Int), LoadsAs Tryd.prog 33 (ad_3.add ((i : Int).toNat * 7)) (.agg #[.int .i64 ((xs.getD i op0).kind), .string ((xs.getD i op0).text), .int .i64 ((xs.getD i op0).vk), .int .i64 ((xs.getD i op0).vn), .string ((xs.getD i op0).vt), .int .i64 ((xs.getD i op0).count), .slice B_6 ((xs.getD i op0).attrs.length) c_7]) wl] (by kernel_rfl) ⟨ha_4, (by omega), (by omega), loadsE rfl rfl hc_5 0 ⟨by kernel_rfl, by kernel_rfl⟩, trivial⟩ ?_
      obtain ⟨w_10, hw_14, hb_11, hk_12, hz_13⟩ := new_world wl #[.int .i64 0, .string ByteArray.empty, .int .i64 0, .int .i64 0, .string ByteArray.empty, .int .i64 0, .slice none 0 0] 33
      rw [hw_14]
      refine XL_run 1 [] [(1, .slice B ys.length d), (2, .func (.func 75) #[] #[]), (7, .int .i64 (i : Int)), (8, .pointer (some ⟨wl.heap.size, 0, none⟩)), (15, .slice A xs.length c), (16, .int .i64 (xs.length : Int)), (17, .int .i64 (i : Int)), (21, .agg #[.int .i64 ((xs.getD i op0).kind), .string ((xs.getD i op0).text), .int .i64 ((xs.getD i op0).vk), .int .i64 ((xs.getD i op0).vn), .string ((xs.getD i op0).vt), .int .i64 ((xs.getD i op0).count), .slice B_6 ((xs.getD i op0).attrs.length) c_7])] w_10 [] (by kernel_rfl) trivial ?_
      refine XL_store (v := .agg #[.int .i64 ((xs.getD i op0).kind), .string ((xs.getD i op0).text), .int .i64 ((xs.getD i op0).vk), .int .i64 ((xs.getD i op0).vn), .string ((xs.getD i op0).vt), .int .i64 ((xs.getD i op0).count), .slice B_6 ((xs.getD i op0).attrs.length) c_7]) rfl rfl rfl (by kernel_rfl) hk_12 0 [.int .i64 ((xs.getD i op0).kind), .string ((xs.getD i op0).text), .int .i64 ((xs.getD i op0).vk), .int .i64 ((xs.getD i op0).vn), .string ((xs.getD i op0).vt), .int .i64 ((xs.getD i op0).count), .slice B_6 ((xs.getD i op0).attrs.length) c_7] #[.int .i64 ((xs.getD i op0).kind), .string ((xs.getD i op0).text), .int .i64 ((xs.getD i op0).vk), .int .i64 ((xs.getD i op0).vn), .string ((xs.getD i op0).vt), .int .i64 ((xs.getD i op0).count), .slice B_6 ((xs.getD i op0).attrs.length) c_7] ⟨by kernel_rfl, rfl, by kernel_rfl⟩ ⟨by kernel_rfl, by kernel_rfl⟩ (Nat.le_of_ble_eq_true (by kernel_rfl)) (fun w_15 hg_16 hk_17 hz_18 => ?_)
      refine XL_nil ?_
      refine X_seq ?_
      refine X_region ?_
      refine XL_run 2 [] [(1, .slice B ys.length d), (2, .func (.func 75) #[] #[]), (8, .pointer (some ⟨wl.heap.size, 0, none⟩)), (15, .slice A xs.length c), (16, .int .i64 (xs.length : Int)), (17, .int .i64 (i : Int)), (22, .slice B ys.length d), (23, .int .i64 (i : Int))] w_15 [] (by kernel_rfl) trivial ?_
      obtain ⟨ad_19, B_22, c_23, ha_20, hc_21, hl_24, hC_25⟩ := Kd.atOp (Kd.C_below hy (bg (bt HB hb_11) hg_16 (HB).size)) (i := (i : Int)) (by omega) (by omega)
      replace hc_21 : CellsAt w_15 (ad_19.add ((i : Int).toNat * 7)) [.int .i64 ((ys.getD i op0).kind), .string ((ys.getD i op0).text), .int .i64 ((ys.getD i op0).vk), .int .i64 ((ys.getD i op0).vn), .string ((ys.getD i op0).vt), .int .i64 ((ys.getD i op0).count), .slice B_22 ((ys.getD i op0).attrs.length) c_23] := hc_21
      replace hl_24 : (ys.getD i op0).attrs.length ≤ c_23 := hl_24
      replace hC_25 : kAttr.C w_15 B_22 ((ys.getD i op0).attrs.length) (ys.getD i op0).attrs := hC_25
      refine XL_run 3 [(24, .idx ad_19), (25, .load (.agg #[.int .i64 ((ys.getD i op0).kind), .string ((ys.getD i op0).text), .int .i64 ((ys.getD i op0).vk), .int .i64 ((ys.getD i op0).vn), .string ((ys.getD i op0).vt), .int .i64 ((ys.getD i op0).count), .slice B_22 ((ys.getD i op0).attrs.length) c_23]))] [(1, .slice B ys.length d), (2, .func (.func 75) #[] #[]), (8, .pointer (some ⟨wl.heap.size, 0, none⟩)), (9, .pointer (some ⟨w_15.heap.size, 0, none⟩)), (15, .slice A xs.length c), (16, .int .i64 (xs.length : Int)), (17, .int .i64 (i : Int)), (25, .agg #[.int .i64 ((ys.getD i op0).kind), .string ((ys.getD i op0).text), .int .i64 ((ys.getD i op0).vk), .int .i64 ((ys.getD i op0).vn), .string ((ys.getD i op0).vt), .int .i64 ((ys.getD i op0).count), .slice B_22 ((ys.getD i op0).attrs.length) c_23])] (w_15.alloc (.cells #[.int .i64 0, .string ByteArray.empty, .int .i64 0, .int .i64 0, .string ByteArray.empty, .int .i64 0, .slice none 0 0] 33)) [B = some ad_19, (0 : Int) ≤ (i : Int), (i : Int) < (ys.length : Int), LoadsAs Tryd.prog 33 (ad_19.add ((i : Int).toNat * 7)) (.agg #[.int .i64 ((ys.getD i op0).kind), .string ((ys.getD i op0).text), .int .i64 ((ys.getD i op0).vk), .int .i64 ((ys.getD i op0).vn), .string ((ys.getD i op0).vt), .int .i64 ((ys.getD i op0).count), .slice B_22 ((ys.getD i op0).attrs.length) c_23]) w_15] (by kernel_rfl) ⟨ha_20, (by omega), (by omega), loadsE rfl rfl hc_21 0 ⟨by kernel_rfl, by kernel_rfl⟩, trivial⟩ ?_
      obtain ⟨w_26, hw_30, hb_27, hk_28, hz_29⟩ := new_world w_15 #[.int .i64 0, .string ByteArray.empty, .int .i64 0, .int .i64 0, .string ByteArray.empty, .int .i64 0, .slice none 0 0] 33
      rw [hw_30]
      refine XL_store (v := .agg #[.int .i64 ((ys.getD i op0).kind), .string ((ys.getD i op0).text), .int .i64 ((ys.getD i op0).vk), .int .i64 ((ys.getD i op0).vn), .string ((ys.getD i op0).vt), .int .i64 ((ys.getD i op0).count), .slice B_22 ((ys.getD i op0).attrs.length) c_23]) rfl rfl rfl (by kernel_rfl) hk_28 0 [.int .i64 ((ys.getD i op0).kind), .string ((ys.getD i op0).text), .int .i64 ((ys.getD i op0).vk), .int .i64 ((ys.getD i op0).vn), .string ((ys.getD i op0).vt), .int .i64 ((ys.getD i op0).count), .slice B_22 ((ys.getD i op0).attrs.length) c_23] #[.int .i64 ((ys.getD i op0).kind), .string ((ys.getD i op0).text), .int .i64 ((ys.getD i op0).vk), .int .i64 ((ys.getD i op0).vn), .string ((ys.getD i op0).vt), .int .i64 ((ys.getD i op0).count), .slice B_22 ((ys.getD i op0).attrs.length) c_23] ⟨by kernel_rfl, rfl, by kernel_rfl⟩ ⟨by kernel_rfl, by kernel_rfl⟩ (Nat.le_of_ble_eq_true (by kernel_rfl)) (fun w_31 hg_32 hk_33 hz_34 => ?_)
      refine XL_nil ?_
      refine X_seq ?_
      refine X_region ?_
      refine XL_run 3 [(27, .load (.agg #[.int .i64 ((xs.getD i op0).kind), .string ((xs.getD i op0).text), .int .i64 ((xs.getD i op0).vk), .int .i64 ((xs.getD i op0).vn), .string ((xs.getD i op0).vt), .int .i64 ((xs.getD i op0).count), .slice B_6 ((xs.getD i op0).attrs.length) c_7])), (28, .load (.agg #[.int .i64 ((ys.getD i op0).kind), .string ((ys.getD i op0).text), .int .i64 ((ys.getD i op0).vk), .int .i64 ((ys.getD i op0).vn), .string ((ys.getD i op0).vt), .int .i64 ((ys.getD i op0).count), .slice B_22 ((ys.getD i op0).attrs.length) c_23]))] [(1, .slice B ys.length d), (2, .func (.func 75) #[] #[]), (15, .slice A xs.length c), (16, .int .i64 (xs.length : Int)), (17, .int .i64 (i : Int)), (26, .func (.func 75) #[] #[]), (27, .agg #[.int .i64 ((xs.getD i op0).kind), .string ((xs.getD i op0).text), .int .i64 ((xs.getD i op0).vk), .int .i64 ((xs.getD i op0).vn), .string ((xs.getD i op0).vt), .int .i64 ((xs.getD i op0).count), .slice B_6 ((xs.getD i op0).attrs.length) c_7]), (28, .agg #[.int .i64 ((ys.getD i op0).kind), .string ((ys.getD i op0).text), .int .i64 ((ys.getD i op0).vk), .int .i64 ((ys.getD i op0).vn), .string ((ys.getD i op0).vt), .int .i64 ((ys.getD i op0).count), .slice B_22 ((ys.getD i op0).attrs.length) c_23])] w_31 [LoadsAs Tryd.prog 33 (⟨wl.heap.size, 0, none⟩) (.agg #[.int .i64 ((xs.getD i op0).kind), .string ((xs.getD i op0).text), .int .i64 ((xs.getD i op0).vk), .int .i64 ((xs.getD i op0).vn), .string ((xs.getD i op0).vt), .int .i64 ((xs.getD i op0).count), .slice B_6 ((xs.getD i op0).attrs.length) c_7]) w_31, LoadsAs Tryd.prog 33 (⟨w_15.heap.size, 0, none⟩) (.agg #[.int .i64 ((ys.getD i op0).kind), .string ((ys.getD i op0).text), .int .i64 ((ys.getD i op0).vk), .int .i64 ((ys.getD i op0).vn), .string ((ys.getD i op0).vt), .int .i64 ((ys.getD i op0).count), .slice B_22 ((ys.getD i op0).attrs.length) c_23]) w_31] (by kernel_rfl) ⟨loadsB rfl rfl (Blk.below hk_17 (bg hb_27 hg_32 (Nat.le_refl _))) 0 ⟨by kernel_rfl, by kernel_rfl⟩, loadsB rfl rfl hk_33 0 ⟨by kernel_rfl, by kernel_rfl⟩, trivial⟩ ?_
      have hB_37 : Below wl.heap.size wl w_31 := (bg (bt (bg hb_11 hg_16 (Nat.le_refl _)) hb_27) hg_32 ((bg hb_11 hg_16 (Nat.le_refl _))).size)
      refine XL_callv 75 rfl rfl rfl ent75 #[] rfl [.agg #[.int .i64 ((xs.getD i op0).kind), .string ((xs.getD i op0).text), .int .i64 ((xs.getD i op0).vk), .int .i64 ((xs.getD i op0).vn), .string ((xs.getD i op0).vt), .int .i64 ((xs.getD i op0).count), .slice B_6 ((xs.getD i op0).attrs.length) c_7], .agg #[.int .i64 ((ys.getD i op0).kind), .string ((ys.getD i op0).text), .int .i64 ((ys.getD i op0).vk), .int .i64 ((ys.getD i op0).vn), .string ((ys.getD i op0).vt), .int .i64 ((ys.getD i op0).count), .slice B_22 ((ys.getD i op0).attrs.length) c_23]] (by kernel_rfl) (same1_any (xs.getD i op0) (ys.getD i op0) _ _ _ _ _ (Kd.C_below hC_9 hB_37) (Kd.C_below hC_25 (bg hb_27 hg_32 (Nat.le_refl _)))) ?_
      rintro e w_35 ⟨rfl, hb_36⟩; refine ⟨_, rfl, ?_⟩
      by_cases c_38 : opEqP (xs.getD i op0) (ys.getD i op0) = true
      · rw [show (opEqP (xs.getD i op0) (ys.getD i op0) : Bool) = true from by simpa using c_38]
        refine XL_run 1 [] [(1, .slice B ys.length d), (2, .func (.func 75) #[] #[]), (15, .slice A xs.length c), (16, .int .i64 (xs.length : Int)), (17, .int .i64 (i : Int)), (30, .bool false)] w_35 [] (by kernel_rfl) trivial ?_
        refine XL_nil ?_
        refine X_cond false rfl ?_
        refine X_skip ?_
        refine X_region ?_
        refine XL_run 2 [(31, .eq (.int .i64 ((i : Int) + 1)))] [(1, .slice B ys.length d), (2, .func (.func 75) #[] #[]), (15, .slice A xs.length c), (16, .int .i64 (xs.length : Int)), (17, .int .i64 ((i : Int) + 1))] w_35 [Value.int .i64 (IntKind.i64.wrap ((i : Int) + 1)) = Value.int .i64 ((i : Int) + 1)] (by kernel_rfl) ⟨wr_i64 (by omega) (by omega), trivial⟩ ?_
        refine XL_nil ?_
        have hB_39 : Below w.heap.size w w_35 := (bt (bg (bt (bg (bt HB hb_11) hg_16 (HB).size) hb_27) hg_32 ((bg (bt HB hb_11) hg_16 (HB).size)).size) hb_36)
        refine ⟨(i + 1), by kernel_rfl, ?_, ?_⟩
        · exact ⟨by omega, by omega, fun q hq => by by_cases e_ : q = i; (· subst e_; exact (opEqP_iff _ _).1 c_38); (· exact hq0 q (by omega)), hB_39⟩
        · (try dsimp only); omega
      · rw [show (opEqP (xs.getD i op0) (ys.getD i op0) : Bool) = false from by simpa using c_38]
        refine XL_run 1 [] [(1, .slice B ys.length d), (2, .func (.func 75) #[] #[]), (15, .slice A xs.length c), (16, .int .i64 (xs.length : Int)), (17, .int .i64 (i : Int)), (30, .bool true)] w_35 [] (by kernel_rfl) trivial ?_
        refine XL_nil ?_
        refine X_cond true rfl ?_
        refine X_seq ?_
        refine X_region ?_
        refine XL_run 1 [] [(6, .bool false)] w_35 [] (by kernel_rfl) trivial ?_
        refine XL_nil ?_
        refine X_ret ?_
        refine RX.ret_ok (P := Tryd.prog) (fn := Tryd.f74) (N := 32) (R := R_) [.bool false] (by kernel_rfl) (hR_ _ _ ?_)
        have hB_40 : Below w.heap.size w w_35 := (bt (bg (bt (bg (bt HB hb_11) hg_16 (HB).size) hb_27) hg_32 ((bg (bt HB hb_11) hg_16 (HB).size)).size) hb_36)
        rw [(opsEqP_false xs ys).2 (fun e_ => c_38 ((opEqP_iff _ _).2 (by rw [e_])))]
        exact ⟨rfl, hB_40⟩
    · refine XL_run 1 [(18, .eq (.bool false))] [(1, .slice B ys.length d), (2, .func (.func 75) #[] #[]), (15, .slice A xs.length c), (16, .int .i64 (xs.length : Int)), (17, .int .i64 (i : Int)), (18, .bool false)] wl [Value.bool (decide ((i : Int) < (xs.length : Int))) = Value.bool false] (by kernel_rfl) ⟨congrArg Value.bool (decide_eq_false (c_2)), trivial⟩ ?_
      refine XL_nil ?_
      refine X_seq ?_
      refine X_cond false rfl ?_
      refine X_exit ?_
      refine X_seq ?_
      refine X_region ?_
      refine XL_run 1 [] [(6, .bool true)] wl [] (by kernel_rfl) trivial ?_
      refine XL_nil ?_
      refine X_ret ?_
      refine RX.ret_ok (P := Tryd.prog) (fn := Tryd.f74) (N := 32) (R := R_) [.bool true] (by kernel_rfl) (hR_ _ _ ?_)
      rw [(opsEqP_iff xs ys).2 (ops_ext hlen (fun q hq => hq0 q (by omega)))]
      exact ⟨rfl, HB⟩
  · refine XL_run 1 [(14, .eq (.bool true))] [(0, .slice A xs.length c), (1, .slice B ys.length d), (2, .func (.func 75) #[] #[]), (14, .bool true)] w [Value.bool ((xs.length : Int) != (ys.length : Int)) = Value.bool true] (by kernel_rfl) ⟨congrArg Value.bool (bneT (c_1)), trivial⟩ ?_
    refine XL_nil ?_
    refine X_cond true rfl ?_
    refine X_seq ?_
    refine X_region ?_
    refine XL_run 1 [] [(6, .bool false)] w [] (by kernel_rfl) trivial ?_
    refine XL_nil ?_
    refine X_ret ?_
    refine RX.ret_ok (P := Tryd.prog) (fn := Tryd.f74) (N := 32) (R := R_) [.bool false] (by kernel_rfl) (hR_ _ _ ?_)
    rw [(opsEqP_false xs ys).2 (fun e_ => by subst e_; omega)]
    exact ⟨rfl, (Below.refl _ _)⟩
theorem osame_any (A B : Option Addr) (c d : Nat) (xs ys : List OpA) (w : World) (hx : kOp.C w A xs.length xs) (hy : kOp.C w B ys.length ys) : Calls Tryd.prog 24 #[.slice A xs.length c, .slice B ys.length d] w fun e w' => e = .returned (.bool (opsEqP xs ys)) ∧ Below w.heap.size w w' := by
  refine RX.enter Tryd.func24 rfl 8 rfl [(0, .slice A xs.length c), (1, .slice B ys.length d)] rfl (by kernel_rfl) (fun R_ hR_ => ?_)
  refine X_seq ?_
  refine X_region ?_
  refine XL_run 1 [] [(0, .slice A xs.length c), (1, .slice B ys.length d)] w [] (by kernel_rfl) trivial ?_
  refine XL_nil ?_
  refine X_seq ?_
  refine X_region ?_
  refine XL_run 2 [] [(5, .slice A xs.length c), (6, .slice B ys.length d)] w [] (by kernel_rfl) trivial ?_
  refine XL_call 74 rfl rfl rfl ent74 [.slice A xs.length c, .slice B ys.length d, .func (.func 75) #[] #[]] (by kernel_rfl) (equalF_any _ _ _ _ xs ys _ hx hy) ?_
  rintro e w_1 ⟨rfl, hb_2⟩; refine ⟨_, rfl, ?_⟩
  refine XL_run 1 [] [(4, .bool (opsEqP xs ys))] w_1 [] (by kernel_rfl) trivial ?_
  refine XL_nil ?_
  refine X_ret ?_
  refine RX.ret_ok (P := Tryd.prog) (fn := Tryd.f24) (N := 8) (R := R_) [.bool (opsEqP xs ys)] (by kernel_rfl) (hR_ _ _ ?_)
  exact ⟨rfl, hb_2⟩
end Go.Proofs.YtekfdfafhfhfbaaDoor
