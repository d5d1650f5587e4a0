/- What the methods Op of pieces and Kind of values answer. Conditions: sizes. -/
import Derived.Test.YtekfdfafhfhfbaaDoorCut
import Derived.Test.YtekfdfafhfhfbaaDoorAn4
set_option linter.unusedVariables false
set_option linter.unusedSimpArgs false
set_option maxRecDepth 100000
namespace Go.Proofs.YtekfdfafhfhfbaaDoor
open Go Go.RowKit Go.Proofs.YtekfdfafhfhfbaaDoorW.PrintWords RX
theorem ent173 : Ent Tryd.prog 173 := ent_of Tryd.func173 (by kernel_rfl) rfl
theorem ent175 : Ent Tryd.prog 175 := ent_of Tryd.func175 (by kernel_rfl) rfl
theorem ent177 : Ent Tryd.prog 177 := ent_of Tryd.func177 (by kernel_rfl) rfl
theorem ent179 : Ent Tryd.prog 179 := ent_of Tryd.func179 (by kernel_rfl) rfl
theorem ent166 : Ent Tryd.prog 166 := ent_of Tryd.func166 (by kernel_rfl) rfl
theorem ent168 : Ent Tryd.prog 168 := ent_of Tryd.func168 (by kernel_rfl) rfl
theorem kPiece_insM {w : World} {base : Nat} {ok : Nat → Prop} {a : List At} {t : ByteArray} {n : Int} {cs : List Value} (h : kPiece.M w base ok (.ins a t n) cs) : ∃ A c, cs = [.iface 51 (.agg #[.slice A a.length c, .string t, .int .i64 n])] ∧ a.length ≤ c ∧ kAttr.R 79 w base ok (.slice A a.length c) a := by
  obtain ⟨_, ⟨_, _, rfl, ⟨v, rfl, hR⟩, _, _, rfl, rfl, rfl⟩, rfl⟩ := h
  obtain ⟨A, c, rfl, hl, _⟩ := Kd.R_reads hR
  exact ⟨A, c, rfl, hl, hR⟩
theorem kPiece_embM {w : World} {base : Nat} {ok : Nat → Prop} {a : List At} {k : ByteArray} {v : Int × Int × ByteArray} {cs : List Value} (h : kPiece.M w base ok (.emb a k v) cs) : ∃ A c, cs = [.iface 56 (.agg #[.slice A a.length c, .string k, valV v])] ∧ a.length ≤ c ∧ kAttr.R 79 w base ok (.slice A a.length c) a := by
  obtain ⟨_, ⟨_, _, rfl, ⟨v, rfl, hR⟩, _, _, rfl, rfl, rfl⟩, rfl⟩ := h
  obtain ⟨A, c, rfl, hl, _⟩ := Kd.R_reads hR
  exact ⟨A, c, rfl, hl, hR⟩
theorem refuse_count {o : OpA} (h : refuseP o = 0) : o.count = 0 := by
  unfold refuseP at h
  repeat (split at h <;> first | omega | skip)
theorem refuse_emb {o : OpA} (h : refuseP o = 0) (hk : o.kind = 2) : o = ⟨2, o.text, o.vk, o.vn, o.vt, 0, o.attrs⟩ := by
  have h2 := refuse_count h
  obtain ⟨a, b, c, d, e, f, g⟩ := o
  simp only at hk h2
  subst hk; subst h2
  rfl
theorem flagKind_any (b : Bool) (w : World) : Calls Tryd.prog 173 #[.bool b] w fun e w' => e = .returned (.int .i64 1) ∧ Below w.heap.size w w' := by
  refine RX.enter Tryd.func173 rfl 3 rfl [(0, .bool b)] rfl (by kernel_rfl) (fun R_ hR_ => ?_)
  refine X_seq ?_
  refine X_region ?_
  refine XL_run 1 [] [] w [] (by kernel_rfl) trivial ?_
  refine XL_nil ?_
  refine X_seq ?_
  refine X_region ?_
  refine XL_run 1 [] [(2, .int .i64 1)] w [] (by kernel_rfl) trivial ?_
  refine XL_nil ?_
  refine X_ret ?_
  refine RX.ret_ok (P := Tryd.prog) (fn := Tryd.f173) (N := 3) (R := R_) [.int .i64 1] (by kernel_rfl) (hR_ _ _ ?_)
  exact ⟨rfl, (Below.refl _ _)⟩
theorem numberKind_any (n : Int) (w : World) : Calls Tryd.prog 175 #[.int .i64 n] w fun e w' => e = .returned (.int .i64 2) ∧ Below w.heap.size w w' := by
  refine RX.enter Tryd.func175 rfl 3 rfl [(0, .int .i64 n)] rfl (by kernel_rfl) (fun R_ hR_ => ?_)
  refine X_seq ?_
  refine X_region ?_
  refine XL_run 1 [] [] w [] (by kernel_rfl) trivial ?_
  refine XL_nil ?_
  refine X_seq ?_
  refine X_region ?_
  refine XL_run 1 [] [(2, .int .i64 2)] w [] (by kernel_rfl) trivial ?_
  refine XL_nil ?_
  refine X_ret ?_
  refine RX.ret_ok (P := Tryd.prog) (fn := Tryd.f175) (N := 3) (R := R_) [.int .i64 2] (by kernel_rfl) (hR_ _ _ ?_)
  exact ⟨rfl, (Below.refl _ _)⟩
theorem textKind_any (t : ByteArray) (w : World) : Calls Tryd.prog 177 #[.string t] w fun e w' => e = .returned (.int .i64 3) ∧ Below w.heap.size w w' := by
  refine RX.enter Tryd.func177 rfl 3 rfl [(0, .string t)] rfl (by kernel_rfl) (fun R_ hR_ => ?_)
  refine X_seq ?_
  refine X_region ?_
  refine XL_run 1 [] [] w [] (by kernel_rfl) trivial ?_
  refine XL_nil ?_
  refine X_seq ?_
  refine X_region ?_
  refine XL_run 1 [] [(2, .int .i64 3)] w [] (by kernel_rfl) trivial ?_
  refine XL_nil ?_
  refine X_ret ?_
  refine RX.ret_ok (P := Tryd.prog) (fn := Tryd.f177) (N := 3) (R := R_) [.int .i64 3] (by kernel_rfl) (hR_ _ _ ?_)
  exact ⟨rfl, (Below.refl _ _)⟩
theorem nullKind_any  (w : World) : Calls Tryd.prog 179 #[.agg #[]] w fun e w' => e = .returned (.int .i64 0) ∧ Below w.heap.size w w' := by
  refine RX.enter Tryd.func179 rfl 3 rfl [(0, .agg #[])] rfl (by kernel_rfl) (fun R_ hR_ => ?_)
  refine X_seq ?_
  refine X_region ?_
  refine XL_run 1 [] [] (w.alloc (.cells #[] 137)) [] (by kernel_rfl) trivial ?_
  obtain ⟨w_1, hw_5, hb_2, hk_3, hz_4⟩ := new_world w #[] 137
  rw [hw_5]
  refine XL_run 1 [] [] w_1 [] (by kernel_rfl) trivial ?_
  refine XL_nil ?_
  refine X_seq ?_
  refine X_region ?_
  refine XL_run 1 [] [(2, .int .i64 0)] w_1 [] (by kernel_rfl) trivial ?_
  refine XL_nil ?_
  refine X_ret ?_
  refine RX.ret_ok (P := Tryd.prog) (fn := Tryd.f179) (N := 3) (R := R_) [.int .i64 0] (by kernel_rfl) (hR_ _ _ ?_)
  exact ⟨rfl, hb_2⟩
theorem insertOp_any (A : Option Addr) (c : Nat) (xs : List At) (t : ByteArray) (n : Int) (w : World) (hx : kAttr.C w A xs.length xs) (hn : xs.length ≤ 100000000) : Calls Tryd.prog 166 #[.agg #[.slice A xs.length c, .string t, .int .i64 n]] w fun e w' => ∃ A' c', e = .returned (.agg (opV (mkT t xs) A' c').toArray) ∧ (mkT t xs).attrs.length ≤ c' ∧ kAttr.R 79 w' w.heap.size (OkFrom w.heap.size) (.slice A' (mkT t xs).attrs.length c') (mkT t xs).attrs ∧ Below w.heap.size w w' := by
  have hpl : xs.length ≤ 9223372036854775807 := hx.2.1
  refine RX.enter Tryd.func166 rfl 9 rfl [(0, .agg #[.slice A xs.length c, .string t, .int .i64 n])] rfl (by kernel_rfl) (fun R_ hR_ => ?_)
  refine X_seq ?_
  refine X_region ?_
  refine XL_run 1 [] [(1, .pointer (some ⟨w.heap.size, 0, none⟩))] (w.alloc (.cells #[.slice A xs.length c, .string t, .int .i64 n] 51)) [] (by kernel_rfl) trivial ?_
  obtain ⟨w_1, hw_5, hb_2, hk_3, hz_4⟩ := new_world w #[.slice A xs.length c, .string t, .int .i64 n] 51
  rw [hw_5]
  refine XL_run 1 [] [(1, .pointer (some ⟨w.heap.size, 0, none⟩)), (2, .pointer (some ⟨w_1.heap.size, 0, none⟩))] (w_1.alloc (.cells #[.int .i64 0, .string ByteArray.empty, .int .i64 0, .int .i64 0, .string ByteArray.empty, .int .i64 0, .slice none 0 0] 33)) [] (by kernel_rfl) trivial ?_
  obtain ⟨w_6, hw_10, hb_7, hk_8, hz_9⟩ := new_world w_1 #[.int .i64 0, .string ByteArray.empty, .int .i64 0, .int .i64 0, .string ByteArray.empty, .int .i64 0, .slice none 0 0] 33
  rw [hw_10]
  refine XL_nil ?_
  refine X_seq ?_
  refine X_gen (S := fun w_ => RX.Blk w_ w.heap.size 51 #[.slice A xs.length c, .string t, .int .i64 n]) [] 7 #[false, false, false, false, false, false, false] (by kernel_rfl) (by kernel_rfl) (by kernel_rfl) (fun wd_11 hb_12 hh_13 => ?_)
  refine XG_run (fuel' := 3) (Blk.below hk_3 (bt hb_7 hb_12)) [0, 1, 2, 3] [(4, .load (.string t)), (6, .load (.agg #[.slice A xs.length c]))] [.pointer (some ⟨w.heap.size, 1, none⟩), .string t, .pointer (some ⟨w.heap.size, 0, none⟩), .agg #[.slice A xs.length c]] #[true, true, true, true, false, false, false] [(2, .pointer (some ⟨w_1.heap.size, 0, none⟩)), (4, .string t), (6, .agg #[.slice A xs.length c])] (fun w_ => [LoadsAs Tryd.prog 9 (⟨w.heap.size, 1, none⟩) (.string t) w_, LoadsAs Tryd.prog 49 (⟨w.heap.size, 0, none⟩) (.agg #[.slice A xs.length c]) w_]) (fun _ _ _ _ h => h) (fun w_ => by kernel_rfl) rfl (fun w_ hC_ => ⟨loads1 rfl (Blk.cell hC_ 1 _ rfl), loadsB rfl rfl hC_ 0 ⟨by kernel_rfl, by kernel_rfl⟩, trivial⟩) ?_
  refine XG_mid (fuel' := 2) 4 #[true, true, true, true, true, false, false] _ rfl (by kernel_rfl) (by kernel_rfl) rfl ?_
  refine XL_call 97 rfl rfl rfl ent97 [.agg #[.slice A xs.length c]] (by kernel_rfl) (attributes_any _ _ xs _ (Kd.C_below hx (bt (bt hb_2 hb_7) hb_12)) (by omega)) ?_
  rintro e w_16 ⟨A_14, c_15, rfl, hl_18, hr_19, hb_17⟩; refine ⟨_, rfl, ?_⟩
  refine XL_nil ?_
  refine ⟨(Blk.below hk_3 (bt (bt hb_7 hb_12) hb_17)), ?_⟩
  refine XG_run (fuel' := 1) (Blk.below hk_3 (bt (bt hb_7 hb_12) hb_17)) [5] [] [.agg #[.int .i64 1, .string t, .int .i64 0, .int .i64 0, .string ByteArray.empty, .int .i64 0, .slice A_14 xs.length c_15]] #[true, true, true, true, true, true, false] [(2, .pointer (some ⟨w_1.heap.size, 0, none⟩)), (8, .agg #[.int .i64 1, .string t, .int .i64 0, .int .i64 0, .string ByteArray.empty, .int .i64 0, .slice A_14 xs.length c_15])] (fun w_ => []) (fun _ _ _ _ h => h) (fun w_ => by kernel_rfl) rfl (fun w_ hC_ => trivial) ?_
  refine XG_mid (fuel' := 0) 6 #[true, true, true, true, true, true, true] _ rfl (by kernel_rfl) (by kernel_rfl) rfl ?_
  refine XL_store (v := .agg #[.int .i64 1, .string t, .int .i64 0, .int .i64 0, .string ByteArray.empty, .int .i64 0, .slice A_14 xs.length c_15]) rfl rfl rfl (by kernel_rfl) (Blk.below hk_8 (bt hb_12 hb_17)) 0 [.int .i64 1, .string t, .int .i64 0, .int .i64 0, .string ByteArray.empty, .int .i64 0, .slice A_14 xs.length c_15] #[.int .i64 1, .string t, .int .i64 0, .int .i64 0, .string ByteArray.empty, .int .i64 0, .slice A_14 xs.length c_15] ⟨by kernel_rfl, rfl, by kernel_rfl⟩ ⟨by kernel_rfl, by kernel_rfl⟩ (Nat.le_of_ble_eq_true (by kernel_rfl)) (fun w_20 hg_21 hk_22 hz_23 => ?_)
  have hr_24 := RX.Kd.R_past hr_19 hg_21 (Nat.lt_of_lt_of_le (Blk.lt hk_8) (hb_12).size)
  refine XL_nil ?_
  have hB_25 : Below w_1.heap.size w_1 w_20 := (bg (bt (bt hb_7 hb_12) hb_17) hg_21 (Nat.le_refl _))
  refine ⟨(Blk.below hk_3 hB_25), ?_⟩
  refine XG_done (by kernel_rfl) ?_
  refine X_ret ?_
  refine RX.ret_cell (P := Tryd.prog) (fn := Tryd.f166) (N := 9) (R := R_) (c := 2) (t := 33) (p := ⟨w_1.heap.size, 0, none⟩) (v := .agg #[.int .i64 1, .string t, .int .i64 0, .int .i64 0, .string ByteArray.empty, .int .i64 0, .slice A_14 xs.length c_15]) rfl rfl (loadsB rfl rfl hk_22 0 ⟨by kernel_rfl, by kernel_rfl⟩) (hR_ _ _ ?_)
  have hB_26 : Below w.heap.size w w_20 := (bg (bt (bt (bt hb_2 hb_7) hb_12) hb_17) hg_21 (hb_2).size)
  exact ⟨_, _, rfl, hl_18, Kd.R_low hr_24 ((bt (bt hb_2 hb_7) hb_12)).size, hB_26⟩
theorem embedOp_any (o : OpA) (A : Option Addr) (c : Nat) (w : World) (hx : kAttr.C w A o.attrs.length o.attrs) (hn : o.attrs.length ≤ 100000000) (hv : plainOk o.vk o.vn o.vt = true) : Calls Tryd.prog 168 #[.agg #[.slice A o.attrs.length c, .string o.text, valV (o.vk, o.vn, o.vt)]] w fun e w' => ∃ A' c', e = .returned (.agg (opV (⟨2, o.text, o.vk, o.vn, o.vt, 0, o.attrs⟩ : OpA) A' c').toArray) ∧ (⟨2, o.text, o.vk, o.vn, o.vt, 0, o.attrs⟩ : OpA).attrs.length ≤ c' ∧ kAttr.R 79 w' w.heap.size (OkFrom w.heap.size) (.slice A' (⟨2, o.text, o.vk, o.vn, o.vt, 0, o.attrs⟩ : OpA).attrs.length c') (⟨2, o.text, o.vk, o.vn, o.vt, 0, o.attrs⟩ : OpA).attrs ∧ Below w.heap.size w w' := by
  have hpl : o.attrs.length ≤ 9223372036854775807 := hx.2.1
  refine RX.enter Tryd.func168 rfl 12 rfl [(0, .agg #[.slice A o.attrs.length c, .string o.text, valV (o.vk, o.vn, o.vt)])] rfl (by kernel_rfl) (fun R_ hR_ => ?_)
  refine X_seq ?_
  refine X_region ?_
  by_cases c_1 : o.vk = 1
  · rw [valV_1 (v := (o.vk, o.vn, o.vt)) c_1]
    refine XL_run 1 [] [(1, .pointer (some ⟨w.heap.size, 0, none⟩))] (w.alloc (.cells #[.slice A o.attrs.length c, .string o.text, .iface 133 (.bool (decide (o.vn = 1)))] 56)) [] (by kernel_rfl) trivial ?_
    obtain ⟨w_2, hw_6, hb_3, hk_4, hz_5⟩ := new_world w #[.slice A o.attrs.length c, .string o.text, .iface 133 (.bool (decide (o.vn = 1)))] 56
    rw [hw_6]
    refine XL_run 1 [] [(1, .pointer (some ⟨w.heap.size, 0, none⟩)), (2, .pointer (some ⟨w_2.heap.size, 0, none⟩))] (w_2.alloc (.cells #[.int .i64 0, .string ByteArray.empty, .int .i64 0, .int .i64 0, .string ByteArray.empty, .int .i64 0, .slice none 0 0] 33)) [] (by kernel_rfl) trivial ?_
    obtain ⟨w_7, hw_11, hb_8, hk_9, hz_10⟩ := new_world w_2 #[.int .i64 0, .string ByteArray.empty, .int .i64 0, .int .i64 0, .string ByteArray.empty, .int .i64 0, .slice none 0 0] 33
    rw [hw_11]
    refine XL_nil ?_
    refine X_seq ?_
    refine X_gen (S := fun w_ => RX.Blk w_ w.heap.size 56 #[.slice A o.attrs.length c, .string o.text, .iface 133 (.bool (decide (o.vn = 1)))]) [] 10 #[false, false, false, false, false, false, false, false, false, false] (by kernel_rfl) (by kernel_rfl) (by kernel_rfl) (fun wd_12 hb_13 hh_14 => ?_)
    refine XG_run (fuel' := 4) (Blk.below hk_4 (bt hb_8 hb_13)) [0, 1, 2, 3, 5, 6] [(4, .load (.string o.text)), (6, .load (.iface 133 (.bool (decide (o.vn = 1))))), (9, .load (.agg #[.slice A o.attrs.length c]))] [.pointer (some ⟨w.heap.size, 1, none⟩), .string o.text, .pointer (some ⟨w.heap.size, 2, none⟩), .iface 133 (.bool (decide (o.vn = 1))), .pointer (some ⟨w.heap.size, 0, none⟩), .agg #[.slice A o.attrs.length c]] #[true, true, true, true, false, true, true, false, false, false] [(2, .pointer (some ⟨w_2.heap.size, 0, none⟩)), (4, .string o.text), (6, .iface 133 (.bool (decide (o.vn = 1)))), (9, .agg #[.slice A o.attrs.length c])] (fun w_ => [LoadsAs Tryd.prog 9 (⟨w.heap.size, 1, none⟩) (.string o.text) w_, LoadsAs Tryd.prog 54 (⟨w.heap.size, 2, none⟩) (.iface 133 (.bool (decide (o.vn = 1)))) w_, LoadsAs Tryd.prog 49 (⟨w.heap.size, 0, none⟩) (.agg #[.slice A o.attrs.length c]) w_]) (fun _ _ _ _ h => h) (fun w_ => by kernel_rfl) rfl (fun w_ hC_ => ⟨loads1 rfl (Blk.cell hC_ 1 _ rfl), loads1 rfl (Blk.cell hC_ 2 _ rfl), loadsB rfl rfl hC_ 0 ⟨by kernel_rfl, by kernel_rfl⟩, trivial⟩) ?_
    refine XG_mid (fuel' := 3) 4 #[true, true, true, true, true, true, true, false, false, false] _ rfl (by kernel_rfl) (by kernel_rfl) rfl ?_
    refine XL_inv 174 #[.bool (decide (o.vn = 1))] rfl rfl (by kernel_rfl) (by kernel_rfl) (flagPlain_any o.vk o.vn o.vt _ hv c_1) ?_
    rintro e w_15 ⟨rfl, hb_16⟩; refine ⟨_, rfl, ?_⟩
    refine XL_nil ?_
    refine ⟨(Blk.below hk_4 (bt (bt hb_8 hb_13) hb_16)), ?_⟩
    refine XG_mid (fuel' := 2) 7 #[true, true, true, true, true, true, true, true, false, false] _ rfl (by kernel_rfl) (by kernel_rfl) rfl ?_
    refine XL_call 97 rfl rfl rfl ent97 [.agg #[.slice A o.attrs.length c]] (by kernel_rfl) (attributes_any _ _ o.attrs _ (Kd.C_below hx (bt (bt (bt hb_3 hb_8) hb_13) hb_16)) (by omega)) ?_
    rintro e w_19 ⟨A_17, c_18, rfl, hl_21, hr_22, hb_20⟩; refine ⟨_, rfl, ?_⟩
    refine XL_nil ?_
    refine ⟨(Blk.below hk_4 (bt (bt (bt hb_8 hb_13) hb_16) hb_20)), ?_⟩
    refine XG_run (fuel' := 1) (Blk.below hk_4 (bt (bt (bt hb_8 hb_13) hb_16) hb_20)) [8] [] [.agg #[.int .i64 2, .string o.text, .int .i64 o.vk, .int .i64 o.vn, .string o.vt, .int .i64 0, .slice A_17 o.attrs.length c_18]] #[true, true, true, true, true, true, true, true, true, false] [(2, .pointer (some ⟨w_2.heap.size, 0, none⟩)), (11, .agg #[.int .i64 2, .string o.text, .int .i64 o.vk, .int .i64 o.vn, .string o.vt, .int .i64 0, .slice A_17 o.attrs.length c_18])] (fun w_ => []) (fun _ _ _ _ h => h) (fun w_ => by kernel_rfl) rfl (fun w_ hC_ => trivial) ?_
    refine XG_mid (fuel' := 0) 9 #[true, true, true, true, true, true, true, true, true, true] _ rfl (by kernel_rfl) (by kernel_rfl) rfl ?_
    refine XL_store (v := .agg #[.int .i64 2, .string o.text, .int .i64 o.vk, .int .i64 o.vn, .string o.vt, .int .i64 0, .slice A_17 o.attrs.length c_18]) rfl rfl rfl (by kernel_rfl) (Blk.below hk_9 (bt (bt hb_13 hb_16) hb_20)) 0 [.int .i64 2, .string o.text, .int .i64 o.vk, .int .i64 o.vn, .string o.vt, .int .i64 0, .slice A_17 o.attrs.length c_18] #[.int .i64 2, .string o.text, .int .i64 o.vk, .int .i64 o.vn, .string o.vt, .int .i64 0, .slice A_17 o.attrs.length c_18] ⟨by kernel_rfl, rfl, by kernel_rfl⟩ ⟨by kernel_rfl, by kernel_rfl⟩ (Nat.le_of_ble_eq_true (by kernel_rfl)) (fun w_23 hg_24 hk_25 hz_26 => ?_)
    have hr_27 := RX.Kd.R_past hr_22 hg_24 (Nat.lt_of_lt_of_le (Blk.lt hk_9) ((bt hb_13 hb_16)).size)
    refine XL_nil ?_
    have hB_28 : Below w_2.heap.size w_2 w_23 := (bg (bt (bt (bt hb_8 hb_13) hb_16) hb_20) hg_24 (Nat.le_refl _))
    refine ⟨(Blk.below hk_4 hB_28), ?_⟩
    refine XG_done (by kernel_rfl) ?_
    refine X_ret ?_
    refine RX.ret_cell (P := Tryd.prog) (fn := Tryd.f168) (N := 12) (R := R_) (c := 2) (t := 33) (p := ⟨w_2.heap.size, 0, none⟩) (v := .agg #[.int .i64 2, .string o.text, .int .i64 o.vk, .int .i64 o.vn, .string o.vt, .int .i64 0, .slice A_17 o.attrs.length c_18]) rfl rfl (loadsB rfl rfl hk_25 0 ⟨by kernel_rfl, by kernel_rfl⟩) (hR_ _ _ ?_)
    have hB_29 : Below w.heap.size w w_23 := (bg (bt (bt (bt (bt hb_3 hb_8) hb_13) hb_16) hb_20) hg_24 (hb_3).size)
    exact ⟨_, _, rfl, hl_21, Kd.R_low hr_27 ((bt (bt (bt hb_3 hb_8) hb_13) hb_16)).size, hB_29⟩
  · by_cases c_30 : o.vk = 2
    · rw [valV_2 (v := (o.vk, o.vn, o.vt)) c_1 c_30]
      refine XL_run 1 [] [(1, .pointer (some ⟨w.heap.size, 0, none⟩))] (w.alloc (.cells #[.slice A o.attrs.length c, .string o.text, .iface 134 (.int .i64 o.vn)] 56)) [] (by kernel_rfl) trivial ?_
      obtain ⟨w_31, hw_35, hb_32, hk_33, hz_34⟩ := new_world w #[.slice A o.attrs.length c, .string o.text, .iface 134 (.int .i64 o.vn)] 56
      rw [hw_35]
      refine XL_run 1 [] [(1, .pointer (some ⟨w.heap.size, 0, none⟩)), (2, .pointer (some ⟨w_31.heap.size, 0, none⟩))] (w_31.alloc (.cells #[.int .i64 0, .string ByteArray.empty, .int .i64 0, .int .i64 0, .string ByteArray.empty, .int .i64 0, .slice none 0 0] 33)) [] (by kernel_rfl) trivial ?_
      obtain ⟨w_36, hw_40, hb_37, hk_38, hz_39⟩ := new_world w_31 #[.int .i64 0, .string ByteArray.empty, .int .i64 0, .int .i64 0, .string ByteArray.empty, .int .i64 0, .slice none 0 0] 33
      rw [hw_40]
      refine XL_nil ?_
      refine X_seq ?_
      refine X_gen (S := fun w_ => RX.Blk w_ w.heap.size 56 #[.slice A o.attrs.length c, .string o.text, .iface 134 (.int .i64 o.vn)]) [] 10 #[false, false, false, false, false, false, false, false, false, false] (by kernel_rfl) (by kernel_rfl) (by kernel_rfl) (fun wd_41 hb_42 hh_43 => ?_)
      refine XG_run (fuel' := 4) (Blk.below hk_33 (bt hb_37 hb_42)) [0, 1, 2, 3, 5, 6] [(4, .load (.string o.text)), (6, .load (.iface 134 (.int .i64 o.vn))), (9, .load (.agg #[.slice A o.attrs.length c]))] [.pointer (some ⟨w.heap.size, 1, none⟩), .string o.text, .pointer (some ⟨w.heap.size, 2, none⟩), .iface 134 (.int .i64 o.vn), .pointer (some ⟨w.heap.size, 0, none⟩), .agg #[.slice A o.attrs.length c]] #[true, true, true, true, false, true, true, false, false, false] [(2, .pointer (some ⟨w_31.heap.size, 0, none⟩)), (4, .string o.text), (6, .iface 134 (.int .i64 o.vn)), (9, .agg #[.slice A o.attrs.length c])] (fun w_ => [LoadsAs Tryd.prog 9 (⟨w.heap.size, 1, none⟩) (.string o.text) w_, LoadsAs Tryd.prog 54 (⟨w.heap.size, 2, none⟩) (.iface 134 (.int .i64 o.vn)) w_, LoadsAs Tryd.prog 49 (⟨w.heap.size, 0, none⟩) (.agg #[.slice A o.attrs.length c]) w_]) (fun _ _ _ _ h => h) (fun w_ => by kernel_rfl) rfl (fun w_ hC_ => ⟨loads1 rfl (Blk.cell hC_ 1 _ rfl), loads1 rfl (Blk.cell hC_ 2 _ rfl), loadsB rfl rfl hC_ 0 ⟨by kernel_rfl, by kernel_rfl⟩, trivial⟩) ?_
      refine XG_mid (fuel' := 3) 4 #[true, true, true, true, true, true, true, false, false, false] _ rfl (by kernel_rfl) (by kernel_rfl) rfl ?_
      refine XL_inv 176 #[.int .i64 o.vn] rfl rfl (by kernel_rfl) (by kernel_rfl) (numberPlain_any o.vk o.vn o.vt _ hv c_30) ?_
      rintro e w_44 ⟨rfl, hb_45⟩; refine ⟨_, rfl, ?_⟩
      refine XL_nil ?_
      refine ⟨(Blk.below hk_33 (bt (bt hb_37 hb_42) hb_45)), ?_⟩
      refine XG_mid (fuel' := 2) 7 #[true, true, true, true, true, true, true, true, false, false] _ rfl (by kernel_rfl) (by kernel_rfl) rfl ?_
      refine XL_call 97 rfl rfl rfl ent97 [.agg #[.slice A o.attrs.length c]] (by kernel_rfl) (attributes_any _ _ o.attrs _ (Kd.C_below hx (bt (bt (bt hb_32 hb_37) hb_42) hb_45)) (by omega)) ?_
      rintro e w_48 ⟨A_46, c_47, rfl, hl_50, hr_51, hb_49⟩; refine ⟨_, rfl, ?_⟩
      refine XL_nil ?_
      refine ⟨(Blk.below hk_33 (bt (bt (bt hb_37 hb_42) hb_45) hb_49)), ?_⟩
      refine XG_run (fuel' := 1) (Blk.below hk_33 (bt (bt (bt hb_37 hb_42) hb_45) hb_49)) [8] [] [.agg #[.int .i64 2, .string o.text, .int .i64 o.vk, .int .i64 o.vn, .string o.vt, .int .i64 0, .slice A_46 o.attrs.length c_47]] #[true, true, true, true, true, true, true, true, true, false] [(2, .pointer (some ⟨w_31.heap.size, 0, none⟩)), (11, .agg #[.int .i64 2, .string o.text, .int .i64 o.vk, .int .i64 o.vn, .string o.vt, .int .i64 0, .slice A_46 o.attrs.length c_47])] (fun w_ => []) (fun _ _ _ _ h => h) (fun w_ => by kernel_rfl) rfl (fun w_ hC_ => trivial) ?_
      refine XG_mid (fuel' := 0) 9 #[true, true, true, true, true, true, true, true, true, true] _ rfl (by kernel_rfl) (by kernel_rfl) rfl ?_
      refine XL_store (v := .agg #[.int .i64 2, .string o.text, .int .i64 o.vk, .int .i64 o.vn, .string o.vt, .int .i64 0, .slice A_46 o.attrs.length c_47]) rfl rfl rfl (by kernel_rfl) (Blk.below hk_38 (bt (bt hb_42 hb_45) hb_49)) 0 [.int .i64 2, .string o.text, .int .i64 o.vk, .int .i64 o.vn, .string o.vt, .int .i64 0, .slice A_46 o.attrs.length c_47] #[.int .i64 2, .string o.text, .int .i64 o.vk, .int .i64 o.vn, .string o.vt, .int .i64 0, .slice A_46 o.attrs.length c_47] ⟨by kernel_rfl, rfl, by kernel_rfl⟩ ⟨by kernel_rfl, by kernel_rfl⟩ (Nat.le_of_ble_eq_true (by kernel_rfl)) (fun w_52 hg_53 hk_54 hz_55 => ?_)
      have hr_56 := RX.Kd.R_past hr_51 hg_53 (Nat.lt_of_lt_of_le (Blk.lt hk_38) ((bt hb_42 hb_45)).size)
      refine XL_nil ?_
      have hB_57 : Below w_31.heap.size w_31 w_52 := (bg (bt (bt (bt hb_37 hb_42) hb_45) hb_49) hg_53 (Nat.le_refl _))
      refine ⟨(Blk.below hk_33 hB_57), ?_⟩
      refine XG_done (by kernel_rfl) ?_
      refine X_ret ?_
      refine RX.ret_cell (P := Tryd.prog) (fn := Tryd.f168) (N := 12) (R := R_) (c := 2) (t := 33) (p := ⟨w_31.heap.size, 0, none⟩) (v := .agg #[.int .i64 2, .string o.text, .int .i64 o.vk, .int .i64 o.vn, .string o.vt, .int .i64 0, .slice A_46 o.attrs.length c_47]) rfl rfl (loadsB rfl rfl hk_54 0 ⟨by kernel_rfl, by kernel_rfl⟩) (hR_ _ _ ?_)
      have hB_58 : Below w.heap.size w w_52 := (bg (bt (bt (bt (bt hb_32 hb_37) hb_42) hb_45) hb_49) hg_53 (hb_32).size)
      exact ⟨_, _, rfl, hl_50, Kd.R_low hr_56 ((bt (bt (bt hb_32 hb_37) hb_42) hb_45)).size, hB_58⟩
    · by_cases c_59 : o.vk = 3
      · rw [valV_3 (v := (o.vk, o.vn, o.vt)) c_1 c_30 c_59]
        refine XL_run 1 [] [(1, .pointer (some ⟨w.heap.size, 0, none⟩))] (w.alloc (.cells #[.slice A o.attrs.length c, .string o.text, .iface 135 (.string o.vt)] 56)) [] (by kernel_rfl) trivial ?_
        obtain ⟨w_60, hw_64, hb_61, hk_62, hz_63⟩ := new_world w #[.slice A o.attrs.length c, .string o.text, .iface 135 (.string o.vt)] 56
        rw [hw_64]
        refine XL_run 1 [] [(1, .pointer (some ⟨w.heap.size, 0, none⟩)), (2, .pointer (some ⟨w_60.heap.size, 0, none⟩))] (w_60.alloc (.cells #[.int .i64 0, .string ByteArray.empty, .int .i64 0, .int .i64 0, .string ByteArray.empty, .int .i64 0, .slice none 0 0] 33)) [] (by kernel_rfl) trivial ?_
        obtain ⟨w_65, hw_69, hb_66, hk_67, hz_68⟩ := new_world w_60 #[.int .i64 0, .string ByteArray.empty, .int .i64 0, .int .i64 0, .string ByteArray.empty, .int .i64 0, .slice none 0 0] 33
        rw [hw_69]
        refine XL_nil ?_
        refine X_seq ?_
        refine X_gen (S := fun w_ => RX.Blk w_ w.heap.size 56 #[.slice A o.attrs.length c, .string o.text, .iface 135 (.string o.vt)]) [] 10 #[false, false, false, false, false, false, false, false, false, false] (by kernel_rfl) (by kernel_rfl) (by kernel_rfl) (fun wd_70 hb_71 hh_72 => ?_)
        refine XG_run (fuel' := 4) (Blk.below hk_62 (bt hb_66 hb_71)) [0, 1, 2, 3, 5, 6] [(4, .load (.string o.text)), (6, .load (.iface 135 (.string o.vt))), (9, .load (.agg #[.slice A o.attrs.length c]))] [.pointer (some ⟨w.heap.size, 1, none⟩), .string o.text, .pointer (some ⟨w.heap.size, 2, none⟩), .iface 135 (.string o.vt), .pointer (some ⟨w.heap.size, 0, none⟩), .agg #[.slice A o.attrs.length c]] #[true, true, true, true, false, true, true, false, false, false] [(2, .pointer (some ⟨w_60.heap.size, 0, none⟩)), (4, .string o.text), (6, .iface 135 (.string o.vt)), (9, .agg #[.slice A o.attrs.length c])] (fun w_ => [LoadsAs Tryd.prog 9 (⟨w.heap.size, 1, none⟩) (.string o.text) w_, LoadsAs Tryd.prog 54 (⟨w.heap.size, 2, none⟩) (.iface 135 (.string o.vt)) w_, LoadsAs Tryd.prog 49 (⟨w.heap.size, 0, none⟩) (.agg #[.slice A o.attrs.length c]) w_]) (fun _ _ _ _ h => h) (fun w_ => by kernel_rfl) rfl (fun w_ hC_ => ⟨loads1 rfl (Blk.cell hC_ 1 _ rfl), loads1 rfl (Blk.cell hC_ 2 _ rfl), loadsB rfl rfl hC_ 0 ⟨by kernel_rfl, by kernel_rfl⟩, trivial⟩) ?_
        refine XG_mid (fuel' := 3) 4 #[true, true, true, true, true, true, true, false, false, false] _ rfl (by kernel_rfl) (by kernel_rfl) rfl ?_
        refine XL_inv 178 #[.string o.vt] rfl rfl (by kernel_rfl) (by kernel_rfl) (textPlain_any o.vk o.vn o.vt _ hv c_59) ?_
        rintro e w_73 ⟨rfl, hb_74⟩; refine ⟨_, rfl, ?_⟩
        refine XL_nil ?_
        refine ⟨(Blk.below hk_62 (bt (bt hb_66 hb_71) hb_74)), ?_⟩
        refine XG_mid (fuel' := 2) 7 #[true, true, true, true, true, true, true, true, false, false] _ rfl (by kernel_rfl) (by kernel_rfl) rfl ?_
        refine XL_call 97 rfl rfl rfl ent97 [.agg #[.slice A o.attrs.length c]] (by kernel_rfl) (attributes_any _ _ o.attrs _ (Kd.C_below hx (bt (bt (bt hb_61 hb_66) hb_71) hb_74)) (by omega)) ?_
        rintro e w_77 ⟨A_75, c_76, rfl, hl_79, hr_80, hb_78⟩; refine ⟨_, rfl, ?_⟩
        refine XL_nil ?_
        refine ⟨(Blk.below hk_62 (bt (bt (bt hb_66 hb_71) hb_74) hb_78)), ?_⟩
        refine XG_run (fuel' := 1) (Blk.below hk_62 (bt (bt (bt hb_66 hb_71) hb_74) hb_78)) [8] [] [.agg #[.int .i64 2, .string o.text, .int .i64 o.vk, .int .i64 o.vn, .string o.vt, .int .i64 0, .slice A_75 o.attrs.length c_76]] #[true, true, true, true, true, true, true, true, true, false] [(2, .pointer (some ⟨w_60.heap.size, 0, none⟩)), (11, .agg #[.int .i64 2, .string o.text, .int .i64 o.vk, .int .i64 o.vn, .string o.vt, .int .i64 0, .slice A_75 o.attrs.length c_76])] (fun w_ => []) (fun _ _ _ _ h => h) (fun w_ => by kernel_rfl) rfl (fun w_ hC_ => trivial) ?_
        refine XG_mid (fuel' := 0) 9 #[true, true, true, true, true, true, true, true, true, true] _ rfl (by kernel_rfl) (by kernel_rfl) rfl ?_
        refine XL_store (v := .agg #[.int .i64 2, .string o.text, .int .i64 o.vk, .int .i64 o.vn, .string o.vt, .int .i64 0, .slice A_75 o.attrs.length c_76]) rfl rfl rfl (by kernel_rfl) (Blk.below hk_67 (bt (bt hb_71 hb_74) hb_78)) 0 [.int .i64 2, .string o.text, .int .i64 o.vk, .int .i64 o.vn, .string o.vt, .int .i64 0, .slice A_75 o.attrs.length c_76] #[.int .i64 2, .string o.text, .int .i64 o.vk, .int .i64 o.vn, .string o.vt, .int .i64 0, .slice A_75 o.attrs.length c_76] ⟨by kernel_rfl, rfl, by kernel_rfl⟩ ⟨by kernel_rfl, by kernel_rfl⟩ (Nat.le_of_ble_eq_true (by kernel_rfl)) (fun w_81 hg_82 hk_83 hz_84 => ?_)
        have hr_85 := RX.Kd.R_past hr_80 hg_82 (Nat.lt_of_lt_of_le (Blk.lt hk_67) ((bt hb_71 hb_74)).size)
        refine XL_nil ?_
        have hB_86 : Below w_60.heap.size w_60 w_81 := (bg (bt (bt (bt hb_66 hb_71) hb_74) hb_78) hg_82 (Nat.le_refl _))
        refine ⟨(Blk.below hk_62 hB_86), ?_⟩
        refine XG_done (by kernel_rfl) ?_
        refine X_ret ?_
        refine RX.ret_cell (P := Tryd.prog) (fn := Tryd.f168) (N := 12) (R := R_) (c := 2) (t := 33) (p := ⟨w_60.heap.size, 0, none⟩) (v := .agg #[.int .i64 2, .string o.text, .int .i64 o.vk, .int .i64 o.vn, .string o.vt, .int .i64 0, .slice A_75 o.attrs.length c_76]) rfl rfl (loadsB rfl rfl hk_83 0 ⟨by kernel_rfl, by kernel_rfl⟩) (hR_ _ _ ?_)
        have hB_87 : Below w.heap.size w w_81 := (bg (bt (bt (bt (bt hb_61 hb_66) hb_71) hb_74) hb_78) hg_82 (hb_61).size)
        exact ⟨_, _, rfl, hl_79, Kd.R_low hr_85 ((bt (bt (bt hb_61 hb_66) hb_71) hb_74)).size, hB_87⟩
      · rw [valV_0 (v := (o.vk, o.vn, o.vt)) c_1 c_30 c_59]
        refine XL_run 1 [] [(1, .pointer (some ⟨w.heap.size, 0, none⟩))] (w.alloc (.cells #[.slice A o.attrs.length c, .string o.text, .iface 137 (.agg #[])] 56)) [] (by kernel_rfl) trivial ?_
        obtain ⟨w_88, hw_92, hb_89, hk_90, hz_91⟩ := new_world w #[.slice A o.attrs.length c, .string o.text, .iface 137 (.agg #[])] 56
        rw [hw_92]
        refine XL_run 1 [] [(1, .pointer (some ⟨w.heap.size, 0, none⟩)), (2, .pointer (some ⟨w_88.heap.size, 0, none⟩))] (w_88.alloc (.cells #[.int .i64 0, .string ByteArray.empty, .int .i64 0, .int .i64 0, .string ByteArray.empty, .int .i64 0, .slice none 0 0] 33)) [] (by kernel_rfl) trivial ?_
        obtain ⟨w_93, hw_97, hb_94, hk_95, hz_96⟩ := new_world w_88 #[.int .i64 0, .string ByteArray.empty, .int .i64 0, .int .i64 0, .string ByteArray.empty, .int .i64 0, .slice none 0 0] 33
        rw [hw_97]
        refine XL_nil ?_
        refine X_seq ?_
        refine X_gen (S := fun w_ => RX.Blk w_ w.heap.size 56 #[.slice A o.attrs.length c, .string o.text, .iface 137 (.agg #[])]) [] 10 #[false, false, false, false, false, false, false, false, false, false] (by kernel_rfl) (by kernel_rfl) (by kernel_rfl) (fun wd_98 hb_99 hh_100 => ?_)
        refine XG_run (fuel' := 4) (Blk.below hk_90 (bt hb_94 hb_99)) [0, 1, 2, 3, 5, 6] [(4, .load (.string o.text)), (6, .load (.iface 137 (.agg #[]))), (9, .load (.agg #[.slice A o.attrs.length c]))] [.pointer (some ⟨w.heap.size, 1, none⟩), .string o.text, .pointer (some ⟨w.heap.size, 2, none⟩), .iface 137 (.agg #[]), .pointer (some ⟨w.heap.size, 0, none⟩), .agg #[.slice A o.attrs.length c]] #[true, true, true, true, false, true, true, false, false, false] [(2, .pointer (some ⟨w_88.heap.size, 0, none⟩)), (4, .string o.text), (6, .iface 137 (.agg #[])), (9, .agg #[.slice A o.attrs.length c])] (fun w_ => [LoadsAs Tryd.prog 9 (⟨w.heap.size, 1, none⟩) (.string o.text) w_, LoadsAs Tryd.prog 54 (⟨w.heap.size, 2, none⟩) (.iface 137 (.agg #[])) w_, LoadsAs Tryd.prog 49 (⟨w.heap.size, 0, none⟩) (.agg #[.slice A o.attrs.length c]) w_]) (fun _ _ _ _ h => h) (fun w_ => by kernel_rfl) rfl (fun w_ hC_ => ⟨loads1 rfl (Blk.cell hC_ 1 _ rfl), loads1 rfl (Blk.cell hC_ 2 _ rfl), loadsB rfl rfl hC_ 0 ⟨by kernel_rfl, by kernel_rfl⟩, trivial⟩) ?_
        refine XG_mid (fuel' := 3) 4 #[true, true, true, true, true, true, true, false, false, false] _ rfl (by kernel_rfl) (by kernel_rfl) rfl ?_
        refine XL_inv 180 #[.agg #[]] rfl rfl (by kernel_rfl) (by kernel_rfl) (nullPlain_any o.vk o.vn o.vt _ hv (by have h_ := plainOk_kind hv; omega)) ?_
        rintro e w_101 ⟨rfl, hb_102⟩; refine ⟨_, rfl, ?_⟩
        refine XL_nil ?_
        refine ⟨(Blk.below hk_90 (bt (bt hb_94 hb_99) hb_102)), ?_⟩
        refine XG_mid (fuel' := 2) 7 #[true, true, true, true, true, true, true, true, false, false] _ rfl (by kernel_rfl) (by kernel_rfl) rfl ?_
        refine XL_call 97 rfl rfl rfl ent97 [.agg #[.slice A o.attrs.length c]] (by kernel_rfl) (attributes_any _ _ o.attrs _ (Kd.C_below hx (bt (bt (bt hb_89 hb_94) hb_99) hb_102)) (by omega)) ?_
        rintro e w_105 ⟨A_103, c_104, rfl, hl_107, hr_108, hb_106⟩; refine ⟨_, rfl, ?_⟩
        refine XL_nil ?_
        refine ⟨(Blk.below hk_90 (bt (bt (bt hb_94 hb_99) hb_102) hb_106)), ?_⟩
        refine XG_run (fuel' := 1) (Blk.below hk_90 (bt (bt (bt hb_94 hb_99) hb_102) hb_106)) [8] [] [.agg #[.int .i64 2, .string o.text, .int .i64 o.vk, .int .i64 o.vn, .string o.vt, .int .i64 0, .slice A_103 o.attrs.length c_104]] #[true, true, true, true, true, true, true, true, true, false] [(2, .pointer (some ⟨w_88.heap.size, 0, none⟩)), (11, .agg #[.int .i64 2, .string o.text, .int .i64 o.vk, .int .i64 o.vn, .string o.vt, .int .i64 0, .slice A_103 o.attrs.length c_104])] (fun w_ => []) (fun _ _ _ _ h => h) (fun w_ => by kernel_rfl) rfl (fun w_ hC_ => trivial) ?_
        refine XG_mid (fuel' := 0) 9 #[true, true, true, true, true, true, true, true, true, true] _ rfl (by kernel_rfl) (by kernel_rfl) rfl ?_
        refine XL_store (v := .agg #[.int .i64 2, .string o.text, .int .i64 o.vk, .int .i64 o.vn, .string o.vt, .int .i64 0, .slice A_103 o.attrs.length c_104]) rfl rfl rfl (by kernel_rfl) (Blk.below hk_95 (bt (bt hb_99 hb_102) hb_106)) 0 [.int .i64 2, .string o.text, .int .i64 o.vk, .int .i64 o.vn, .string o.vt, .int .i64 0, .slice A_103 o.attrs.length c_104] #[.int .i64 2, .string o.text, .int .i64 o.vk, .int .i64 o.vn, .string o.vt, .int .i64 0, .slice A_103 o.attrs.length c_104] ⟨by kernel_rfl, rfl, by kernel_rfl⟩ ⟨by kernel_rfl, by kernel_rfl⟩ (Nat.le_of_ble_eq_true (by kernel_rfl)) (fun w_109 hg_110 hk_111 hz_112 => ?_)
        have hr_113 := RX.Kd.R_past hr_108 hg_110 (Nat.lt_of_lt_of_le (Blk.lt hk_95) ((bt hb_99 hb_102)).size)
        refine XL_nil ?_
        have hB_114 : Below w_88.heap.size w_88 w_109 := (bg (bt (bt (bt hb_94 hb_99) hb_102) hb_106) hg_110 (Nat.le_refl _))
        refine ⟨(Blk.below hk_90 hB_114), ?_⟩
        refine XG_done (by kernel_rfl) ?_
        refine X_ret ?_
        refine RX.ret_cell (P := Tryd.prog) (fn := Tryd.f168) (N := 12) (R := R_) (c := 2) (t := 33) (p := ⟨w_88.heap.size, 0, none⟩) (v := .agg #[.int .i64 2, .string o.text, .int .i64 o.vk, .int .i64 o.vn, .string o.vt, .int .i64 0, .slice A_103 o.attrs.length c_104]) rfl rfl (loadsB rfl rfl hk_111 0 ⟨by kernel_rfl, by kernel_rfl⟩) (hR_ _ _ ?_)
        have hB_115 : Below w.heap.size w w_109 := (bg (bt (bt (bt (bt hb_89 hb_94) hb_99) hb_102) hb_106) hg_110 (hb_89).size)
        exact ⟨_, _, rfl, hl_107, Kd.R_low hr_113 ((bt (bt (bt hb_89 hb_94) hb_99) hb_102)).size, hB_115⟩
end Go.Proofs.YtekfdfafhfhfbaaDoor
