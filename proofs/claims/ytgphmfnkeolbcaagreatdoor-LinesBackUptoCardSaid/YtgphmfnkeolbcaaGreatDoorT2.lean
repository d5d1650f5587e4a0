import Derived.Test.YtgphmfnkeolbcaaGreatDoorMk
import Derived.Test.YtgphmfnkeolbcaaGreatDoorO3
import Derived.Test.YtgphmfnkeolbcaaGreatDoorBld
import Derived.Test.YtgphmfnkeolbcaaGreatDoorUtf4
/- What pieces and values answer; pieces as operations. Conditions: sizes. -/
set_option linter.unusedVariables false
set_option linter.unusedSimpArgs false
set_option maxRecDepth 100000
namespace Go.Proofs.YtgphmfnkeolbcaaGreatDoor
open Go Go.RowKit Go.Proofs.YtgphmfnkeolbcaaGreatDoorW.PrintWords RX
theorem ent219 : Ent Tryz.prog 219 := ent_of Tryz.func219 (by kernel_rfl) rfl
theorem ent116 : Ent Tryz.prog 116 := ent_of Tryz.func116 (by kernel_rfl) rfl
theorem plainOk_kind {k n : Int} {t : ByteArray} (h : plainOk k n t = true) : (k = 0 ∧ n = 0 ∧ t = ⟨#[]⟩) ∨ (k = 1 ∧ (n = 0 ∨ n = 1) ∧ t = ⟨#[]⟩) ∨ (k = 2 ∧ t = ⟨#[]⟩) ∨ (k = 3 ∧ n = 0) := of_decide_eq_true h
theorem refuse_of {o : OpA} (h : pErr o = 0) (hk : o.kind = 1 ∨ o.kind = 2) : refuseP o = 0 := by
 have h1 := B.has_ok h
 unfold pErr at h
 rwa [h1, if_neg (by simp), if_pos hk] at h
theorem ok_emb {o : OpA} (h : pErr o = 0) (hk : o.kind = 2) : plainOk o.vk o.vn o.vt = true ∧ o = ⟨2, o.text, o.vk, o.vn, o.vt, 0, o.attrs⟩ := by
 have h0 := refuse_of h (.inr hk)
 have h2 := (refuse_utf h0).2.1 hk
 refine ⟨?_, ?_⟩
 ·unfold plainErr at h2
  cases h3 : plainOk o.vk o.vn o.vt with
  | true => rfl
  | false => rw [if_pos h3] at h2; cases h2
 have hc : o.count = 0 := by unfold refuseP at h0; repeat (split at h0 <;> first | omega | skip)
 cases o
 simp only at *
 subst hk hc
 rfl
theorem ok_txt {o : OpA} (h : pErr o = 0) (hk : o.kind = 1) : o = ⟨1, o.text, 0, 0, ⟨#[]⟩, 0, o.attrs⟩ := by
 obtain ⟨a, b, c, d, _⟩ := B.ok_ins h hk
 cases o
 simp only at *
 subst hk a b c d
 rfl
theorem flagPlain_any (k n : Int) (t : ByteArray) (w : World) (h : plainOk k n t = true) (hk : k = 1) : Calls Tryz.prog 256 #[.bool (decide (n = 1))] w fun e w' => e = .returned (.agg #[i6 k, i6 n, sT t]) ∧ Below w.heap.size w w' := by
 have h' := plainOk_kind h
 have ht :  t = ⟨#[]⟩ := by rcases h' with h' | h' | h' | h' <;> simp_all <;> omega
 have hn : (n = 1) ∨ n = 0 := by rcases h' with h' | h' | h' | h' <;> simp_all <;> omega
 subst hk
 refine en Tryz.func256 rfl 6 [(0, .bool (decide (n = 1)))] (fun R_ hR_ => ?_)
 refine sg (xwe 1 [] [(0, .bool (decide (n = 1))), (2, pw w.heap.size 0)] (w.alloc (.cells #[i6 0, i6 0, s0] 48)) [] trivial ?_)
 obtain ⟨w_1, hw_5, hb_2, hk_3, hz_4⟩ := new_world w #[i6 0, i6 0, s0] 48
 rw [hw_5]
 refine nl (sq (sg (xr0 1 [(3, .bool (decide (n = 1)))] [0] ?_)))
 refine nl ?_
 by_cases c_6 : decide (n = 1) = true
 ·rw [show (decide (n = 1) : Bool) = true from by simpa using c_6]
  refine ct (sg (xr0 1 [(4, .agg #[i6 1, i6 1, s0])] [3] ?_))
  refine xst (.agg #[i6 1, i6 1, s0]) hk_3 0 #[i6 1, i6 1, s0] (fun w_7 hg_8 hk_9 hz_10 => ?_)
  refine nl (X_ret (RX.ret_cell (P := Tryz.prog) (fn := Tryz.f256) (N := 6) (R := R_) (c := 2) (t := 48) (p := ⟨w.heap.size, 0, none⟩) (v := .agg #[i6 1, i6 1, s0]) rfl rfl (lB hk_9 0) (hR_ _ _ ?_)))
  subst ht
  obtain rfl : n = 1 := by have h1_ := c_6; have h2_ := hn; simp at h1_; omega
  exact ⟨rfl, (bg hb_2 hg_8 (Nat.le_refl _))⟩
 rw [show (decide (n = 1) : Bool) = false from by simpa using c_6]
 refine cf (sk (sg (xr0 1 [(5, .agg #[i6 1, i6 0, s0])] [3] ?_)))
 refine xst (.agg #[i6 1, i6 0, s0]) hk_3 0 #[i6 1, i6 0, s0] (fun w_11 hg_12 hk_13 hz_14 => ?_)
 refine nl (X_ret (RX.ret_cell (P := Tryz.prog) (fn := Tryz.f256) (N := 6) (R := R_) (c := 2) (t := 48) (p := ⟨w.heap.size, 0, none⟩) (v := .agg #[i6 1, i6 0, s0]) rfl rfl (lB hk_13 0) (hR_ _ _ ?_)))
 subst ht
 obtain rfl : n = 0 := by have h1_ := c_6; have h2_ := hn; simp at h1_; omega
 exact ⟨rfl, (bg hb_2 hg_12 (Nat.le_refl _))⟩
theorem numberPlain_any (k n : Int) (t : ByteArray) (w : World) (h : plainOk k n t = true) (hk : k = 2) : Calls Tryz.prog 258 #[i6 n] w fun e w' => e = .returned (.agg #[i6 k, i6 n, sT t]) ∧ Below w.heap.size w w' := by
 have h' := plainOk_kind h
 have ht :  t = ⟨#[]⟩ := by rcases h' with h' | h' | h' | h' <;> simp_all <;> omega
 have hn : k = 2 ∨ n = 0 := by rcases h' with h' | h' | h' | h' <;> simp_all <;> omega
 subst hk
 refine en Tryz.func258 rfl 5 [(0, i6 n)] (fun R_ hR_ => ?_)
 refine sg (xwe 1 [] [(0, i6 n), (2, pw w.heap.size 0)] (w.alloc (.cells #[i6 0, i6 0, s0] 48)) [] trivial ?_)
 obtain ⟨w_1, hw_5, hb_2, hk_3, hz_4⟩ := new_world w #[i6 0, i6 0, s0] 48
 rw [hw_5]
 refine nl (sg (xr0 2 [(4, .agg #[i6 2, i6 n, s0])] [0] ?_))
 refine xst (.agg #[i6 2, i6 n, s0]) hk_3 0 #[i6 2, i6 n, s0] (fun w_6 hg_7 hk_8 hz_9 => ?_)
 refine nl (X_ret (RX.ret_cell (P := Tryz.prog) (fn := Tryz.f258) (N := 5) (R := R_) (c := 2) (t := 48) (p := ⟨w.heap.size, 0, none⟩) (v := .agg #[i6 2, i6 n, s0]) rfl rfl (lB hk_8 0) (hR_ _ _ ?_)))
 subst ht
 exact ⟨rfl, (bg hb_2 hg_7 (Nat.le_refl _))⟩
theorem textPlain_any (k n : Int) (t : ByteArray) (w : World) (h : plainOk k n t = true) (hk : k = 3) : Calls Tryz.prog 260 #[sT t] w fun e w' => e = .returned (.agg #[i6 k, i6 n, sT t]) ∧ Below w.heap.size w w' := by
 have h' := plainOk_kind h
 have ht : k = 3 ∨ t = ⟨#[]⟩ := by rcases h' with h' | h' | h' | h' <;> simp_all <;> omega
 have hn :  n = 0 := by rcases h' with h' | h' | h' | h' <;> simp_all <;> omega
 subst hk
 refine en Tryz.func260 rfl 5 [(0, sT t)] (fun R_ hR_ => ?_)
 refine sg (xwe 1 [] [(0, sT t), (2, pw w.heap.size 0)] (w.alloc (.cells #[i6 0, i6 0, s0] 48)) [] trivial ?_)
 obtain ⟨w_1, hw_5, hb_2, hk_3, hz_4⟩ := new_world w #[i6 0, i6 0, s0] 48
 rw [hw_5]
 refine nl (sg (xr0 2 [(4, .agg #[i6 3, i6 0, sT t])] [0] ?_))
 refine xst (.agg #[i6 3, i6 0, sT t]) hk_3 0 #[i6 3, i6 0, sT t] (fun w_6 hg_7 hk_8 hz_9 => ?_)
 refine nl (X_ret (RX.ret_cell (P := Tryz.prog) (fn := Tryz.f260) (N := 5) (R := R_) (c := 2) (t := 48) (p := ⟨w.heap.size, 0, none⟩) (v := .agg #[i6 3, i6 0, sT t]) rfl rfl (lB hk_8 0) (hR_ _ _ ?_)))
 subst hn
 exact ⟨rfl, (bg hb_2 hg_7 (Nat.le_refl _))⟩
theorem nullPlain_any (k n : Int) (t : ByteArray) (w : World) (h : plainOk k n t = true) (hk : k = 0) : Calls Tryz.prog 262 #[.agg #[]] w fun e w' => e = .returned (.agg #[i6 k, i6 n, sT t]) ∧ Below w.heap.size w w' := by
 have h' := plainOk_kind h
 have ht :  t = ⟨#[]⟩ := by rcases h' with h' | h' | h' | h' <;> simp_all <;> omega
 have hn :  n = 0 := by rcases h' with h' | h' | h' | h' <;> simp_all <;> omega
 subst hk
 refine en Tryz.func262 rfl 4 [(0, .agg #[])] (fun R_ hR_ => ?_)
 refine sg (xwe 1 [] [] (w.alloc (.cells #[] 300)) [] trivial ?_)
 obtain ⟨w_1, hw_5, hb_2, hk_3, hz_4⟩ := new_world w #[] 300
 rw [hw_5]
 refine xwe 1 [] [(2, pw w_1.heap.size 0)] (w_1.alloc (.cells #[i6 0, i6 0, s0] 48)) [] trivial ?_
 obtain ⟨w_6, hw_10, hb_7, hk_8, hz_9⟩ := new_world w_1 #[i6 0, i6 0, s0] 48
 rw [hw_10]
 refine nl (sg (xr0 1 [(3, .agg #[i6 0, i6 0, s0])] [] ?_))
 refine xst (.agg #[i6 0, i6 0, s0]) hk_8 0 #[i6 0, i6 0, s0] (fun w_11 hg_12 hk_13 hz_14 => ?_)
 refine nl (X_ret (RX.ret_cell (P := Tryz.prog) (fn := Tryz.f262) (N := 4) (R := R_) (c := 2) (t := 48) (p := ⟨w_1.heap.size, 0, none⟩) (v := .agg #[i6 0, i6 0, s0]) rfl rfl (lB hk_13 0) (hR_ _ _ ?_)))
 subst ht
 subst hn
 exact ⟨rfl, (bg (bt hb_2 hb_7) hg_12 (hb_2).size)⟩
theorem retainLen_any (A : Option Addr) (n c : Nat) (k : Int) (w : World) : Calls Tryz.prog 247 #[.agg #[.slice A n c, i6 k]] w fun e w' => e = .returned (i6 k) ∧ Below w.heap.size w w' := by
 refine en Tryz.func247 rfl 5 [(0, .agg #[.slice A n c, i6 k])] (fun R_ hR_ => ?_)
 refine sg (xwe 1 [] [(1, pw w.heap.size 0)] (w.alloc (.cells #[.slice A n c, i6 k] 128)) [] trivial ?_)
 obtain ⟨w_1, hw_5, hb_2, hk_3, hz_4⟩ := new_world w #[.slice A n c, i6 k] 128
 rw [hw_5]
 refine xr0 1 [] [] ?_
 refine nl (sg (xe1 3 [(4, .load (i6 k))] [(2, i6 k)] (lc 3 hk_3 1) ?_))
 refine nl (X_ret (rj [i6 k] hR_ ?_))
 exact ⟨rfl, hb_2⟩
theorem deleteLen_any (k : Int) (w : World) : Calls Tryz.prog 249 #[.agg #[i6 k]] w fun e w' => e = .returned (i6 k) ∧ Below w.heap.size w w' := by
 refine en Tryz.func249 rfl 5 [(0, .agg #[i6 k])] (fun R_ hR_ => ?_)
 refine sg (xwe 1 [] [(1, pw w.heap.size 0)] (w.alloc (.cells #[i6 k] 133)) [] trivial ?_)
 obtain ⟨w_1, hw_5, hb_2, hk_3, hz_4⟩ := new_world w #[i6 k] 133
 rw [hw_5]
 refine xr0 1 [] [] ?_
 refine nl (sg (xe1 3 [(4, .load (i6 k))] [(2, i6 k)] (lc 3 hk_3 0) ?_))
 refine nl (X_ret (rj [i6 k] hR_ ?_))
 exact ⟨rfl, hb_2⟩
theorem attributes_any (A : Option Addr) (c : Nat) (xs : List At) (w : World) (hx : kAttr.C w A xs.length xs) (hn : xs.length ≤ 100000000) : Calls Tryz.prog 219 #[.agg #[.slice A xs.length c]] w fun e w' => ∃ A' c', e = .returned (.slice A' xs.length c') ∧ xs.length ≤ c' ∧ kAttr.R 57 w' w.heap.size (OkFrom w.heap.size) (.slice A' xs.length c') xs ∧ Below w.heap.size w w' := by
 have hpl : xs.length ≤ 9223372036854775807 := hx.2.1
 refine en Tryz.func219 rfl 6 [(0, .agg #[aL A xs c])] (fun R_ hR_ => ?_)
 refine sg (xwe 1 [] [(1, pw w.heap.size 0)] (w.alloc (.cells #[aL A xs c] 126)) [] trivial ?_)
 obtain ⟨w_1, hw_5, hb_2, hk_3, hz_4⟩ := new_world w #[aL A xs c] 126
 rw [hw_5]
 refine xr0 1 [] [] ?_
 refine nl (sg (xe1 2 [(4, .load (aL A xs c))] [(4, aL A xs c)] (lc 49 hk_3 0) ?_))
 refine XL_appendAll (c' := c) kAttr rfl rfl rfl w.heap.size 57 (.agg #[s0, i6 0, i6 0, s0]) 48 Tryz.underlying49 info57 rfl (by decide) (by omega) ([]) xs (by kernel_rfl) (Kd.R_nil kAttr 57 _ w.heap.size (OkFrom w.heap.size)) (Kd.C_below hx hb_2) kAttr_KM (hb_2).size (by first | omega | (simp; omega)) ?_
 intro A_6 c_7 w_8 hr_9 hc_10 hg_11 hl_12 ha_13
 have he_14 : ([] ++ xs) = xs := List.nil_append _
 rw [he_14] at hr_9 ⊢
 refine xe0 1 [(2, aL A_6 xs c_7)] ?_
 refine nl (X_ret (rj [aL A_6 xs c_7] hR_ ?_))
 exact ⟨_, _, rfl, (RX.Kd.R_len hr_9).2, Kd.R_low hr_9 (Nat.le_refl _), (bgo hb_2 hg_11 hl_12 (Nat.le_refl _))⟩
theorem insertOp_any (A : Option Addr) (c : Nat) (xs : List At) (t : ByteArray) (n : Int) (w : World) (hx : kAttr.C w A xs.length xs) (hn : xs.length ≤ 100000000) : Calls Tryz.prog 252 #[.agg #[.slice A xs.length c, sT t, i6 n]] w fun e w' => ∃ A' c', e = .returned (.agg #[i6 1, sT t, i6 0, i6 0, s0, i6 0, .slice A' xs.length c']) ∧ xs.length ≤ c' ∧ kAttr.R 57 w' w.heap.size (OkFrom w.heap.size) (.slice A' xs.length c') xs ∧ Below w.heap.size w w' := by
 have hpl : xs.length ≤ 9223372036854775807 := hx.2.1
 refine en Tryz.func252 rfl 9 [(0, .agg #[.slice A xs.length c, sT t, i6 n])] (fun R_ hR_ => ?_)
 refine sg (xwe 1 [] [(1, pw w.heap.size 0)] (w.alloc (.cells #[.slice A xs.length c, sT t, i6 n] 249)) [] trivial ?_)
 obtain ⟨w_1, hw_5, hb_2, hk_3, hz_4⟩ := new_world w #[.slice A xs.length c, sT t, i6 n] 249
 rw [hw_5]
 refine xw 1 [] [(2, pw w_1.heap.size 0)] [] (w_1.alloc (.cells #[i6 0, s0, i6 0, i6 0, s0, i6 0, .slice none 0 0] 102)) [] trivial ?_
 obtain ⟨w_6, hw_10, hb_7, hk_8, hz_9⟩ := new_world w_1 #[i6 0, s0, i6 0, i6 0, s0, i6 0, .slice none 0 0] 102
 rw [hw_10]
 refine nl (sq (X_gen (S := fun w_ => RX.Blk w_ w.heap.size 249 #[.slice A xs.length c, sT t, i6 n]) [] 7 (tf 0 7) (by kernel_rfl) (by kernel_rfl) (by kernel_rfl) (fun wd_11 hb_12 hh_13 => ?_)))
 refine XG_run (fuel' := 3) (Blk.below hk_3 (bt hb_7 hb_12)) [0, 1, 2, 3] [(4, .load (sT t)), (6, .load (.agg #[aL A xs c]))] [pw w.heap.size 1, sT t, pw w.heap.size 0, .agg #[aL A xs c]] (tf 4 3) [(2, pw w_1.heap.size 0), (4, sT t), (6, .agg #[aL A xs c])] (fun w_ => [la 9 (⟨w.heap.size, 1, none⟩) (sT t) w_, la 126 (⟨w.heap.size, 0, none⟩) (.agg #[aL A xs c]) w_]) (fun w_ hC_ => ⟨loads1 rfl (Blk.cell hC_ 1 _ rfl), loadsB rfl rfl hC_ 0 ⟨by kernel_rfl, by kernel_rfl⟩, trivial⟩) ?_
 refine XG_mid (fuel' := 2) 4 (tf 5 2) _ rfl (by kernel_rfl) (by kernel_rfl) rfl ?_
 refine xc 219 ent219 [.agg #[aL A xs c]] (attributes_any _ _ xs _ (Kd.C_below hx (bt (bt hb_2 hb_7) hb_12)) (by omega)) ?_
 rintro e w_16 ⟨A_14, c_15, rfl, hl_18, hr_19, hb_17⟩; refine ⟨_, rfl, ?_⟩
 refine nl ?_
 refine ⟨(Blk.below hk_3 (bt (bt hb_7 hb_12) hb_17)), ?_⟩
 refine XG_run (fuel' := 1) (Blk.below hk_3 (bt (bt hb_7 hb_12) hb_17)) [5] [] [.agg #[i6 1, sT t, i6 0, i6 0, s0, i6 0, aL A_14 xs c_15]] (tf 6 1) [(2, pw w_1.heap.size 0), (8, .agg #[i6 1, sT t, i6 0, i6 0, s0, i6 0, aL A_14 xs c_15])] (fun w_ => []) (fun w_ hC_ => trivial) ?_
 refine XG_mid (fuel' := 0) 6 (tf 7 0) _ rfl (by kernel_rfl) (by kernel_rfl) rfl ?_
 refine xst (.agg #[i6 1, sT t, i6 0, i6 0, s0, i6 0, aL A_14 xs c_15]) (Blk.below hk_8 (bt hb_12 hb_17)) 0 #[i6 1, sT t, i6 0, i6 0, s0, i6 0, aL A_14 xs c_15] (fun w_20 hg_21 hk_22 hz_23 => ?_)
 have hr_24 := RX.Kd.R_past hr_19 hg_21 (Nat.lt_of_lt_of_le (Blk.lt hk_8) (hb_12).size)
 refine nl ?_
 have hB_25 : Below w_1.heap.size w_1 w_20 := (bg (bt (bt hb_7 hb_12) hb_17) hg_21 (Nat.le_refl _))
 refine ⟨(Blk.below hk_3 hB_25), ?_⟩
 refine XG_done (by kernel_rfl) ?_
 refine X_ret (RX.ret_cell (P := Tryz.prog) (fn := Tryz.f252) (N := 9) (R := R_) (c := 2) (t := 102) (p := ⟨w_1.heap.size, 0, none⟩) (v := .agg #[i6 1, sT t, i6 0, i6 0, s0, i6 0, aL A_14 xs c_15]) rfl rfl (lB hk_22 0) (hR_ _ _ ?_))
 have hB_26 : Below w.heap.size w w_20 := (bg (bt (bt (bt hb_2 hb_7) hb_12) hb_17) hg_21 (hb_2).size)
 exact ⟨_, _, rfl, hl_18, Kd.R_low hr_24 ((bt (bt hb_2 hb_7) hb_12)).size, hB_26⟩
theorem embedOp_any (o : OpA) (A : Option Addr) (c : Nat) (w : World) (hx : kAttr.C w A o.attrs.length o.attrs) (hn : o.attrs.length ≤ 100000000) (hv : plainOk o.vk o.vn o.vt = true) : Calls Tryz.prog 254 #[.agg #[.slice A o.attrs.length c, sT o.text, valV (o.vk, o.vn, o.vt)]] w fun e w' => ∃ A' c', e = .returned (.agg #[i6 2, sT o.text, i6 o.vk, i6 o.vn, sT o.vt, i6 0, .slice A' o.attrs.length c']) ∧ o.attrs.length ≤ c' ∧ kAttr.R 57 w' w.heap.size (OkFrom w.heap.size) (.slice A' o.attrs.length c') o.attrs ∧ Below w.heap.size w w' := by
 have hpl : o.attrs.length ≤ 9223372036854775807 := hx.2.1
 refine en Tryz.func254 rfl 12 [(0, .agg #[.slice A o.attrs.length c, sT o.text, valV (o.vk, o.vn, o.vt)])] (fun R_ hR_ => ?_)
 refine sq (X_region ?_)
 by_cases c_1 : o.vk = 1
 ·rw [valV_1 (v := (o.vk, o.vn, o.vt)) c_1]
  refine xwe 1 [] [(1, pw w.heap.size 0)] (w.alloc (.cells #[.slice A o.attrs.length c, sT o.text, .iface 296 (.bool (decide (o.vn = 1)))] 253)) [] trivial ?_
  obtain ⟨w_2, hw_6, hb_3, hk_4, hz_5⟩ := new_world w #[.slice A o.attrs.length c, sT o.text, .iface 296 (.bool (decide (o.vn = 1)))] 253
  rw [hw_6]
  refine xw 1 [] [(2, pw w_2.heap.size 0)] [] (w_2.alloc (.cells #[i6 0, s0, i6 0, i6 0, s0, i6 0, .slice none 0 0] 102)) [] trivial ?_
  obtain ⟨w_7, hw_11, hb_8, hk_9, hz_10⟩ := new_world w_2 #[i6 0, s0, i6 0, i6 0, s0, i6 0, .slice none 0 0] 102
  rw [hw_11]
  refine nl (sq (X_gen (S := fun w_ => RX.Blk w_ w.heap.size 253 #[.slice A o.attrs.length c, sT o.text, .iface 296 (.bool (decide (o.vn = 1)))]) [] 10 (tf 0 10) (by kernel_rfl) (by kernel_rfl) (by kernel_rfl) (fun wd_12 hb_13 hh_14 => ?_)))
  refine XG_run (fuel' := 4) (Blk.below hk_4 (bt hb_8 hb_13)) [0, 1, 2, 3, 5, 6] [(4, .load (sT o.text)), (6, .load (.iface 296 (.bool (decide (o.vn = 1))))), (9, .load (.agg #[aL A o.attrs c]))] [pw w.heap.size 1, sT o.text, pw w.heap.size 2, .iface 296 (.bool (decide (o.vn = 1))), pw w.heap.size 0, .agg #[aL A o.attrs c]] #[true, true, true, true, false, true, true, false, false, false] [(2, pw w_2.heap.size 0), (4, sT o.text), (6, .iface 296 (.bool (decide (o.vn = 1)))), (9, .agg #[aL A o.attrs c])] (fun w_ => [la 9 (⟨w.heap.size, 1, none⟩) (sT o.text) w_, la 251 (⟨w.heap.size, 2, none⟩) (.iface 296 (.bool (decide (o.vn = 1)))) w_, la 126 (⟨w.heap.size, 0, none⟩) (.agg #[aL A o.attrs c]) w_]) (fun w_ hC_ => ⟨loads1 rfl (Blk.cell hC_ 1 _ rfl), loads1 rfl (Blk.cell hC_ 2 _ rfl), loadsB rfl rfl hC_ 0 ⟨by kernel_rfl, by kernel_rfl⟩, trivial⟩) ?_
  refine XG_mid (fuel' := 3) 4 (tf 7 3) _ rfl (by kernel_rfl) (by kernel_rfl) rfl ?_
  refine XL_inv 256 #[.bool (decide (o.vn = 1))] rfl rfl (by kernel_rfl) (by kernel_rfl) (flagPlain_any o.vk o.vn o.vt _ hv c_1) ?_
  rintro e w_15 ⟨rfl, hb_16⟩; refine ⟨_, rfl, ?_⟩
  refine nl ?_
  refine ⟨(Blk.below hk_4 (bt (bt hb_8 hb_13) hb_16)), ?_⟩
  refine XG_mid (fuel' := 2) 7 (tf 8 2) _ rfl (by kernel_rfl) (by kernel_rfl) rfl ?_
  refine xc 219 ent219 [.agg #[aL A o.attrs c]] (attributes_any _ _ o.attrs _ (Kd.C_below hx (bt (bt (bt hb_3 hb_8) hb_13) hb_16)) (by omega)) ?_
  rintro e w_19 ⟨A_17, c_18, rfl, hl_21, hr_22, hb_20⟩; refine ⟨_, rfl, ?_⟩
  refine nl ?_
  refine ⟨(Blk.below hk_4 (bt (bt (bt hb_8 hb_13) hb_16) hb_20)), ?_⟩
  refine XG_run (fuel' := 1) (Blk.below hk_4 (bt (bt (bt hb_8 hb_13) hb_16) hb_20)) [8] [] [.agg #[i6 2, sT o.text, i6 o.vk, i6 o.vn, sT o.vt, i6 0, aL A_17 o.attrs c_18]] (tf 9 1) [(2, pw w_2.heap.size 0), (11, .agg #[i6 2, sT o.text, i6 o.vk, i6 o.vn, sT o.vt, i6 0, aL A_17 o.attrs c_18])] (fun w_ => []) (fun w_ hC_ => trivial) ?_
  refine XG_mid (fuel' := 0) 9 (tf 10 0) _ rfl (by kernel_rfl) (by kernel_rfl) rfl ?_
  refine xst (.agg #[i6 2, sT o.text, i6 o.vk, i6 o.vn, sT o.vt, i6 0, aL A_17 o.attrs c_18]) (Blk.below hk_9 (bt (bt hb_13 hb_16) hb_20)) 0 #[i6 2, sT o.text, i6 o.vk, i6 o.vn, sT o.vt, i6 0, aL A_17 o.attrs c_18] (fun w_23 hg_24 hk_25 hz_26 => ?_)
  have hr_27 := RX.Kd.R_past hr_22 hg_24 (Nat.lt_of_lt_of_le (Blk.lt hk_9) ((bt hb_13 hb_16)).size)
  refine nl ?_
  have hB_28 : Below w_2.heap.size w_2 w_23 := (bg (bt (bt (bt hb_8 hb_13) hb_16) hb_20) hg_24 (Nat.le_refl _))
  refine ⟨(Blk.below hk_4 hB_28), ?_⟩
  refine XG_done (by kernel_rfl) ?_
  refine X_ret (RX.ret_cell (P := Tryz.prog) (fn := Tryz.f254) (N := 12) (R := R_) (c := 2) (t := 102) (p := ⟨w_2.heap.size, 0, none⟩) (v := .agg #[i6 2, sT o.text, i6 o.vk, i6 o.vn, sT o.vt, i6 0, aL A_17 o.attrs c_18]) rfl rfl (lB hk_25 0) (hR_ _ _ ?_))
  have hB_29 : Below w.heap.size w w_23 := (bg (bt (bt (bt (bt hb_3 hb_8) hb_13) hb_16) hb_20) hg_24 (hb_3).size)
  exact ⟨_, _, rfl, hl_21, Kd.R_low hr_27 ((bt (bt (bt hb_3 hb_8) hb_13) hb_16)).size, hB_29⟩
 by_cases c_30 : o.vk = 2
 ·rw [valV_2 (v := (o.vk, o.vn, o.vt)) c_1 c_30]
  refine xwe 1 [] [(1, pw w.heap.size 0)] (w.alloc (.cells #[.slice A o.attrs.length c, sT o.text, .iface 297 (i6 o.vn)] 253)) [] trivial ?_
  obtain ⟨w_31, hw_35, hb_32, hk_33, hz_34⟩ := new_world w #[.slice A o.attrs.length c, sT o.text, .iface 297 (i6 o.vn)] 253
  rw [hw_35]
  refine xw 1 [] [(2, pw w_31.heap.size 0)] [] (w_31.alloc (.cells #[i6 0, s0, i6 0, i6 0, s0, i6 0, .slice none 0 0] 102)) [] trivial ?_
  obtain ⟨w_36, hw_40, hb_37, hk_38, hz_39⟩ := new_world w_31 #[i6 0, s0, i6 0, i6 0, s0, i6 0, .slice none 0 0] 102
  rw [hw_40]
  refine nl (sq (X_gen (S := fun w_ => RX.Blk w_ w.heap.size 253 #[.slice A o.attrs.length c, sT o.text, .iface 297 (i6 o.vn)]) [] 10 (tf 0 10) (by kernel_rfl) (by kernel_rfl) (by kernel_rfl) (fun wd_41 hb_42 hh_43 => ?_)))
  refine XG_run (fuel' := 4) (Blk.below hk_33 (bt hb_37 hb_42)) [0, 1, 2, 3, 5, 6] [(4, .load (sT o.text)), (6, .load (.iface 297 (i6 o.vn))), (9, .load (.agg #[aL A o.attrs c]))] [pw w.heap.size 1, sT o.text, pw w.heap.size 2, .iface 297 (i6 o.vn), pw w.heap.size 0, .agg #[aL A o.attrs c]] #[true, true, true, true, false, true, true, false, false, false] [(2, pw w_31.heap.size 0), (4, sT o.text), (6, .iface 297 (i6 o.vn)), (9, .agg #[aL A o.attrs c])] (fun w_ => [la 9 (⟨w.heap.size, 1, none⟩) (sT o.text) w_, la 251 (⟨w.heap.size, 2, none⟩) (.iface 297 (i6 o.vn)) w_, la 126 (⟨w.heap.size, 0, none⟩) (.agg #[aL A o.attrs c]) w_]) (fun w_ hC_ => ⟨loads1 rfl (Blk.cell hC_ 1 _ rfl), loads1 rfl (Blk.cell hC_ 2 _ rfl), loadsB rfl rfl hC_ 0 ⟨by kernel_rfl, by kernel_rfl⟩, trivial⟩) ?_
  refine XG_mid (fuel' := 3) 4 (tf 7 3) _ rfl (by kernel_rfl) (by kernel_rfl) rfl ?_
  refine XL_inv 258 #[i6 o.vn] rfl rfl (by kernel_rfl) (by kernel_rfl) (numberPlain_any o.vk o.vn o.vt _ hv c_30) ?_
  rintro e w_44 ⟨rfl, hb_45⟩; refine ⟨_, rfl, ?_⟩
  refine nl ?_
  refine ⟨(Blk.below hk_33 (bt (bt hb_37 hb_42) hb_45)), ?_⟩
  refine XG_mid (fuel' := 2) 7 (tf 8 2) _ rfl (by kernel_rfl) (by kernel_rfl) rfl ?_
  refine xc 219 ent219 [.agg #[aL A o.attrs c]] (attributes_any _ _ o.attrs _ (Kd.C_below hx (bt (bt (bt hb_32 hb_37) hb_42) hb_45)) (by omega)) ?_
  rintro e w_48 ⟨A_46, c_47, rfl, hl_50, hr_51, hb_49⟩; refine ⟨_, rfl, ?_⟩
  refine nl ?_
  refine ⟨(Blk.below hk_33 (bt (bt (bt hb_37 hb_42) hb_45) hb_49)), ?_⟩
  refine XG_run (fuel' := 1) (Blk.below hk_33 (bt (bt (bt hb_37 hb_42) hb_45) hb_49)) [8] [] [.agg #[i6 2, sT o.text, i6 o.vk, i6 o.vn, sT o.vt, i6 0, aL A_46 o.attrs c_47]] (tf 9 1) [(2, pw w_31.heap.size 0), (11, .agg #[i6 2, sT o.text, i6 o.vk, i6 o.vn, sT o.vt, i6 0, aL A_46 o.attrs c_47])] (fun w_ => []) (fun w_ hC_ => trivial) ?_
  refine XG_mid (fuel' := 0) 9 (tf 10 0) _ rfl (by kernel_rfl) (by kernel_rfl) rfl ?_
  refine xst (.agg #[i6 2, sT o.text, i6 o.vk, i6 o.vn, sT o.vt, i6 0, aL A_46 o.attrs c_47]) (Blk.below hk_38 (bt (bt hb_42 hb_45) hb_49)) 0 #[i6 2, sT o.text, i6 o.vk, i6 o.vn, sT o.vt, i6 0, aL A_46 o.attrs c_47] (fun w_52 hg_53 hk_54 hz_55 => ?_)
  have hr_56 := RX.Kd.R_past hr_51 hg_53 (Nat.lt_of_lt_of_le (Blk.lt hk_38) ((bt hb_42 hb_45)).size)
  refine nl ?_
  have hB_57 : Below w_31.heap.size w_31 w_52 := (bg (bt (bt (bt hb_37 hb_42) hb_45) hb_49) hg_53 (Nat.le_refl _))
  refine ⟨(Blk.below hk_33 hB_57), ?_⟩
  refine XG_done (by kernel_rfl) ?_
  refine X_ret (RX.ret_cell (P := Tryz.prog) (fn := Tryz.f254) (N := 12) (R := R_) (c := 2) (t := 102) (p := ⟨w_31.heap.size, 0, none⟩) (v := .agg #[i6 2, sT o.text, i6 o.vk, i6 o.vn, sT o.vt, i6 0, aL A_46 o.attrs c_47]) rfl rfl (lB hk_54 0) (hR_ _ _ ?_))
  have hB_58 : Below w.heap.size w w_52 := (bg (bt (bt (bt (bt hb_32 hb_37) hb_42) hb_45) hb_49) hg_53 (hb_32).size)
  exact ⟨_, _, rfl, hl_50, Kd.R_low hr_56 ((bt (bt (bt hb_32 hb_37) hb_42) hb_45)).size, hB_58⟩
 by_cases c_59 : o.vk = 3
 ·rw [valV_3 (v := (o.vk, o.vn, o.vt)) c_1 c_30 c_59]
  refine xwe 1 [] [(1, pw w.heap.size 0)] (w.alloc (.cells #[.slice A o.attrs.length c, sT o.text, .iface 298 (sT o.vt)] 253)) [] trivial ?_
  obtain ⟨w_60, hw_64, hb_61, hk_62, hz_63⟩ := new_world w #[.slice A o.attrs.length c, sT o.text, .iface 298 (sT o.vt)] 253
  rw [hw_64]
  refine xw 1 [] [(2, pw w_60.heap.size 0)] [] (w_60.alloc (.cells #[i6 0, s0, i6 0, i6 0, s0, i6 0, .slice none 0 0] 102)) [] trivial ?_
  obtain ⟨w_65, hw_69, hb_66, hk_67, hz_68⟩ := new_world w_60 #[i6 0, s0, i6 0, i6 0, s0, i6 0, .slice none 0 0] 102
  rw [hw_69]
  refine nl (sq (X_gen (S := fun w_ => RX.Blk w_ w.heap.size 253 #[.slice A o.attrs.length c, sT o.text, .iface 298 (sT o.vt)]) [] 10 (tf 0 10) (by kernel_rfl) (by kernel_rfl) (by kernel_rfl) (fun wd_70 hb_71 hh_72 => ?_)))
  refine XG_run (fuel' := 4) (Blk.below hk_62 (bt hb_66 hb_71)) [0, 1, 2, 3, 5, 6] [(4, .load (sT o.text)), (6, .load (.iface 298 (sT o.vt))), (9, .load (.agg #[aL A o.attrs c]))] [pw w.heap.size 1, sT o.text, pw w.heap.size 2, .iface 298 (sT o.vt), pw w.heap.size 0, .agg #[aL A o.attrs c]] #[true, true, true, true, false, true, true, false, false, false] [(2, pw w_60.heap.size 0), (4, sT o.text), (6, .iface 298 (sT o.vt)), (9, .agg #[aL A o.attrs c])] (fun w_ => [la 9 (⟨w.heap.size, 1, none⟩) (sT o.text) w_, la 251 (⟨w.heap.size, 2, none⟩) (.iface 298 (sT o.vt)) w_, la 126 (⟨w.heap.size, 0, none⟩) (.agg #[aL A o.attrs c]) w_]) (fun w_ hC_ => ⟨loads1 rfl (Blk.cell hC_ 1 _ rfl), loads1 rfl (Blk.cell hC_ 2 _ rfl), loadsB rfl rfl hC_ 0 ⟨by kernel_rfl, by kernel_rfl⟩, trivial⟩) ?_
  refine XG_mid (fuel' := 3) 4 (tf 7 3) _ rfl (by kernel_rfl) (by kernel_rfl) rfl ?_
  refine XL_inv 260 #[sT o.vt] rfl rfl (by kernel_rfl) (by kernel_rfl) (textPlain_any o.vk o.vn o.vt _ hv c_59) ?_
  rintro e w_73 ⟨rfl, hb_74⟩; refine ⟨_, rfl, ?_⟩
  refine nl ?_
  refine ⟨(Blk.below hk_62 (bt (bt hb_66 hb_71) hb_74)), ?_⟩
  refine XG_mid (fuel' := 2) 7 (tf 8 2) _ rfl (by kernel_rfl) (by kernel_rfl) rfl ?_
  refine xc 219 ent219 [.agg #[aL A o.attrs c]] (attributes_any _ _ o.attrs _ (Kd.C_below hx (bt (bt (bt hb_61 hb_66) hb_71) hb_74)) (by omega)) ?_
  rintro e w_77 ⟨A_75, c_76, rfl, hl_79, hr_80, hb_78⟩; refine ⟨_, rfl, ?_⟩
  refine nl ?_
  refine ⟨(Blk.below hk_62 (bt (bt (bt hb_66 hb_71) hb_74) hb_78)), ?_⟩
  refine XG_run (fuel' := 1) (Blk.below hk_62 (bt (bt (bt hb_66 hb_71) hb_74) hb_78)) [8] [] [.agg #[i6 2, sT o.text, i6 o.vk, i6 o.vn, sT o.vt, i6 0, aL A_75 o.attrs c_76]] (tf 9 1) [(2, pw w_60.heap.size 0), (11, .agg #[i6 2, sT o.text, i6 o.vk, i6 o.vn, sT o.vt, i6 0, aL A_75 o.attrs c_76])] (fun w_ => []) (fun w_ hC_ => trivial) ?_
  refine XG_mid (fuel' := 0) 9 (tf 10 0) _ rfl (by kernel_rfl) (by kernel_rfl) rfl ?_
  refine xst (.agg #[i6 2, sT o.text, i6 o.vk, i6 o.vn, sT o.vt, i6 0, aL A_75 o.attrs c_76]) (Blk.below hk_67 (bt (bt hb_71 hb_74) hb_78)) 0 #[i6 2, sT o.text, i6 o.vk, i6 o.vn, sT o.vt, i6 0, aL A_75 o.attrs c_76] (fun w_81 hg_82 hk_83 hz_84 => ?_)
  have hr_85 := RX.Kd.R_past hr_80 hg_82 (Nat.lt_of_lt_of_le (Blk.lt hk_67) ((bt hb_71 hb_74)).size)
  refine nl ?_
  have hB_86 : Below w_60.heap.size w_60 w_81 := (bg (bt (bt (bt hb_66 hb_71) hb_74) hb_78) hg_82 (Nat.le_refl _))
  refine ⟨(Blk.below hk_62 hB_86), ?_⟩
  refine XG_done (by kernel_rfl) ?_
  refine X_ret (RX.ret_cell (P := Tryz.prog) (fn := Tryz.f254) (N := 12) (R := R_) (c := 2) (t := 102) (p := ⟨w_60.heap.size, 0, none⟩) (v := .agg #[i6 2, sT o.text, i6 o.vk, i6 o.vn, sT o.vt, i6 0, aL A_75 o.attrs c_76]) rfl rfl (lB hk_83 0) (hR_ _ _ ?_))
  have hB_87 : Below w.heap.size w w_81 := (bg (bt (bt (bt (bt hb_61 hb_66) hb_71) hb_74) hb_78) hg_82 (hb_61).size)
  exact ⟨_, _, rfl, hl_79, Kd.R_low hr_85 ((bt (bt (bt hb_61 hb_66) hb_71) hb_74)).size, hB_87⟩
 rw [valV_0 (v := (o.vk, o.vn, o.vt)) c_1 c_30 c_59]
 refine xwe 1 [] [(1, pw w.heap.size 0)] (w.alloc (.cells #[.slice A o.attrs.length c, sT o.text, .iface 300 (.agg #[])] 253)) [] trivial ?_
 obtain ⟨w_88, hw_92, hb_89, hk_90, hz_91⟩ := new_world w #[.slice A o.attrs.length c, sT o.text, .iface 300 (.agg #[])] 253
 rw [hw_92]
 refine xw 1 [] [(2, pw w_88.heap.size 0)] [] (w_88.alloc (.cells #[i6 0, s0, i6 0, i6 0, s0, i6 0, .slice none 0 0] 102)) [] trivial ?_
 obtain ⟨w_93, hw_97, hb_94, hk_95, hz_96⟩ := new_world w_88 #[i6 0, s0, i6 0, i6 0, s0, i6 0, .slice none 0 0] 102
 rw [hw_97]
 refine nl (sq (X_gen (S := fun w_ => RX.Blk w_ w.heap.size 253 #[.slice A o.attrs.length c, sT o.text, .iface 300 (.agg #[])]) [] 10 (tf 0 10) (by kernel_rfl) (by kernel_rfl) (by kernel_rfl) (fun wd_98 hb_99 hh_100 => ?_)))
 refine XG_run (fuel' := 4) (Blk.below hk_90 (bt hb_94 hb_99)) [0, 1, 2, 3, 5, 6] [(4, .load (sT o.text)), (6, .load (.iface 300 (.agg #[]))), (9, .load (.agg #[aL A o.attrs c]))] [pw w.heap.size 1, sT o.text, pw w.heap.size 2, .iface 300 (.agg #[]), pw w.heap.size 0, .agg #[aL A o.attrs c]] #[true, true, true, true, false, true, true, false, false, false] [(2, pw w_88.heap.size 0), (4, sT o.text), (6, .iface 300 (.agg #[])), (9, .agg #[aL A o.attrs c])] (fun w_ => [la 9 (⟨w.heap.size, 1, none⟩) (sT o.text) w_, la 251 (⟨w.heap.size, 2, none⟩) (.iface 300 (.agg #[])) w_, la 126 (⟨w.heap.size, 0, none⟩) (.agg #[aL A o.attrs c]) w_]) (fun w_ hC_ => ⟨loads1 rfl (Blk.cell hC_ 1 _ rfl), loads1 rfl (Blk.cell hC_ 2 _ rfl), loadsB rfl rfl hC_ 0 ⟨by kernel_rfl, by kernel_rfl⟩, trivial⟩) ?_
 refine XG_mid (fuel' := 3) 4 (tf 7 3) _ rfl (by kernel_rfl) (by kernel_rfl) rfl ?_
 refine XL_inv 262 #[.agg #[]] rfl rfl (by kernel_rfl) (by kernel_rfl) (nullPlain_any o.vk o.vn o.vt _ hv (by have h_ := plainOk_kind hv; omega)) ?_
 rintro e w_101 ⟨rfl, hb_102⟩; refine ⟨_, rfl, ?_⟩
 refine nl ?_
 refine ⟨(Blk.below hk_90 (bt (bt hb_94 hb_99) hb_102)), ?_⟩
 refine XG_mid (fuel' := 2) 7 (tf 8 2) _ rfl (by kernel_rfl) (by kernel_rfl) rfl ?_
 refine xc 219 ent219 [.agg #[aL A o.attrs c]] (attributes_any _ _ o.attrs _ (Kd.C_below hx (bt (bt (bt hb_89 hb_94) hb_99) hb_102)) (by omega)) ?_
 rintro e w_105 ⟨A_103, c_104, rfl, hl_107, hr_108, hb_106⟩; refine ⟨_, rfl, ?_⟩
 refine nl ?_
 refine ⟨(Blk.below hk_90 (bt (bt (bt hb_94 hb_99) hb_102) hb_106)), ?_⟩
 refine XG_run (fuel' := 1) (Blk.below hk_90 (bt (bt (bt hb_94 hb_99) hb_102) hb_106)) [8] [] [.agg #[i6 2, sT o.text, i6 o.vk, i6 o.vn, sT o.vt, i6 0, aL A_103 o.attrs c_104]] (tf 9 1) [(2, pw w_88.heap.size 0), (11, .agg #[i6 2, sT o.text, i6 o.vk, i6 o.vn, sT o.vt, i6 0, aL A_103 o.attrs c_104])] (fun w_ => []) (fun w_ hC_ => trivial) ?_
 refine XG_mid (fuel' := 0) 9 (tf 10 0) _ rfl (by kernel_rfl) (by kernel_rfl) rfl ?_
 refine xst (.agg #[i6 2, sT o.text, i6 o.vk, i6 o.vn, sT o.vt, i6 0, aL A_103 o.attrs c_104]) (Blk.below hk_95 (bt (bt hb_99 hb_102) hb_106)) 0 #[i6 2, sT o.text, i6 o.vk, i6 o.vn, sT o.vt, i6 0, aL A_103 o.attrs c_104] (fun w_109 hg_110 hk_111 hz_112 => ?_)
 have hr_113 := RX.Kd.R_past hr_108 hg_110 (Nat.lt_of_lt_of_le (Blk.lt hk_95) ((bt hb_99 hb_102)).size)
 refine nl ?_
 have hB_114 : Below w_88.heap.size w_88 w_109 := (bg (bt (bt (bt hb_94 hb_99) hb_102) hb_106) hg_110 (Nat.le_refl _))
 refine ⟨(Blk.below hk_90 hB_114), ?_⟩
 refine XG_done (by kernel_rfl) ?_
 refine X_ret (RX.ret_cell (P := Tryz.prog) (fn := Tryz.f254) (N := 12) (R := R_) (c := 2) (t := 102) (p := ⟨w_88.heap.size, 0, none⟩) (v := .agg #[i6 2, sT o.text, i6 o.vk, i6 o.vn, sT o.vt, i6 0, aL A_103 o.attrs c_104]) rfl rfl (lB hk_111 0) (hR_ _ _ ?_))
 have hB_115 : Below w.heap.size w w_109 := (bg (bt (bt (bt (bt hb_89 hb_94) hb_99) hb_102) hb_106) hg_110 (hb_89).size)
 exact ⟨_, _, rfl, hl_107, Kd.R_low hr_113 ((bt (bt (bt hb_89 hb_94) hb_99) hb_102)).size, hB_115⟩
theorem retOp_any (A : Option Addr) (c : Nat) (xs : List At) (n : Int) (w : World) (hx : kAttr.C w A xs.length xs) (hn : xs.length ≤ 100000000) : Calls Tryz.prog 248 #[.agg #[.slice A xs.length c, i6 n]] w fun e w' => ∃ A' c', e = .returned (.agg #[i6 3, s0, i6 0, i6 0, s0, i6 n, .slice A' xs.length c']) ∧ xs.length ≤ c' ∧ kAttr.R 57 w' w.heap.size (OkFrom w.heap.size) (.slice A' xs.length c') xs ∧ Below w.heap.size w w' := by
 have hpl : xs.length ≤ 9223372036854775807 := hx.2.1
 refine en Tryz.func248 rfl 9 [(0, .agg #[.slice A xs.length c, i6 n])] (fun R_ hR_ => ?_)
 refine sg (xwe 1 [] [(1, pw w.heap.size 0)] (w.alloc (.cells #[.slice A xs.length c, i6 n] 128)) [] trivial ?_)
 obtain ⟨w_1, hw_5, hb_2, hk_3, hz_4⟩ := new_world w #[.slice A xs.length c, i6 n] 128
 rw [hw_5]
 refine xw 1 [] [(2, pw w_1.heap.size 0)] [] (w_1.alloc (.cells #[i6 0, s0, i6 0, i6 0, s0, i6 0, .slice none 0 0] 102)) [] trivial ?_
 obtain ⟨w_6, hw_10, hb_7, hk_8, hz_9⟩ := new_world w_1 #[i6 0, s0, i6 0, i6 0, s0, i6 0, .slice none 0 0] 102
 rw [hw_10]
 refine nl (sq (X_gen (S := fun w_ => RX.Blk w_ w.heap.size 128 #[.slice A xs.length c, i6 n]) [] 7 (tf 0 7) (by kernel_rfl) (by kernel_rfl) (by kernel_rfl) (fun wd_11 hb_12 hh_13 => ?_)))
 refine XG_run (fuel' := 3) (Blk.below hk_3 (bt hb_7 hb_12)) [0, 1, 2, 3] [(4, .load (i6 n)), (6, .load (.agg #[aL A xs c]))] [pw w.heap.size 1, i6 n, pw w.heap.size 0, .agg #[aL A xs c]] (tf 4 3) [(2, pw w_1.heap.size 0), (4, i6 n), (6, .agg #[aL A xs c])] (fun w_ => [la 3 (⟨w.heap.size, 1, none⟩) (i6 n) w_, la 126 (⟨w.heap.size, 0, none⟩) (.agg #[aL A xs c]) w_]) (fun w_ hC_ => ⟨loads1 rfl (Blk.cell hC_ 1 _ rfl), loadsB rfl rfl hC_ 0 ⟨by kernel_rfl, by kernel_rfl⟩, trivial⟩) ?_
 refine XG_mid (fuel' := 2) 4 (tf 5 2) _ rfl (by kernel_rfl) (by kernel_rfl) rfl ?_
 refine xc 219 ent219 [.agg #[aL A xs c]] (attributes_any _ _ xs _ (Kd.C_below hx (bt (bt hb_2 hb_7) hb_12)) (by omega)) ?_
 rintro e w_16 ⟨A_14, c_15, rfl, hl_18, hr_19, hb_17⟩; refine ⟨_, rfl, ?_⟩
 refine nl ?_
 refine ⟨(Blk.below hk_3 (bt (bt hb_7 hb_12) hb_17)), ?_⟩
 refine XG_run (fuel' := 1) (Blk.below hk_3 (bt (bt hb_7 hb_12) hb_17)) [5] [] [.agg #[i6 3, s0, i6 0, i6 0, s0, i6 n, aL A_14 xs c_15]] (tf 6 1) [(2, pw w_1.heap.size 0), (8, .agg #[i6 3, s0, i6 0, i6 0, s0, i6 n, aL A_14 xs c_15])] (fun w_ => []) (fun w_ hC_ => trivial) ?_
 refine XG_mid (fuel' := 0) 6 (tf 7 0) _ rfl (by kernel_rfl) (by kernel_rfl) rfl ?_
 refine xst (.agg #[i6 3, s0, i6 0, i6 0, s0, i6 n, aL A_14 xs c_15]) (Blk.below hk_8 (bt hb_12 hb_17)) 0 #[i6 3, s0, i6 0, i6 0, s0, i6 n, aL A_14 xs c_15] (fun w_20 hg_21 hk_22 hz_23 => ?_)
 have hr_24 := RX.Kd.R_past hr_19 hg_21 (Nat.lt_of_lt_of_le (Blk.lt hk_8) (hb_12).size)
 refine nl ?_
 have hB_25 : Below w_1.heap.size w_1 w_20 := (bg (bt (bt hb_7 hb_12) hb_17) hg_21 (Nat.le_refl _))
 refine ⟨(Blk.below hk_3 hB_25), ?_⟩
 refine XG_done (by kernel_rfl) ?_
 refine X_ret (RX.ret_cell (P := Tryz.prog) (fn := Tryz.f248) (N := 9) (R := R_) (c := 2) (t := 102) (p := ⟨w_1.heap.size, 0, none⟩) (v := .agg #[i6 3, s0, i6 0, i6 0, s0, i6 n, aL A_14 xs c_15]) rfl rfl (lB hk_22 0) (hR_ _ _ ?_))
 have hB_26 : Below w.heap.size w w_20 := (bg (bt (bt (bt hb_2 hb_7) hb_12) hb_17) hg_21 (hb_2).size)
 exact ⟨_, _, rfl, hl_18, Kd.R_low hr_24 ((bt (bt hb_2 hb_7) hb_12)).size, hB_26⟩
theorem delOp_any (n : Int) (w : World) : Calls Tryz.prog 250 #[.agg #[i6 n]] w fun e w' => e = .returned (.agg #[i6 4, s0, i6 0, i6 0, s0, i6 n, .slice none 0 0]) ∧ Below w.heap.size w w' := by
 refine en Tryz.func250 rfl 6 [(0, .agg #[i6 n])] (fun R_ hR_ => ?_)
 refine sg (xwe 1 [] [(1, pw w.heap.size 0)] (w.alloc (.cells #[i6 n] 133)) [] trivial ?_)
 obtain ⟨w_1, hw_5, hb_2, hk_3, hz_4⟩ := new_world w #[i6 n] 133
 rw [hw_5]
 refine xw 1 [] [(2, pw w_1.heap.size 0)] [] (w_1.alloc (.cells #[i6 0, s0, i6 0, i6 0, s0, i6 0, .slice none 0 0] 102)) [] trivial ?_
 obtain ⟨w_6, hw_10, hb_7, hk_8, hz_9⟩ := new_world w_1 #[i6 0, s0, i6 0, i6 0, s0, i6 0, .slice none 0 0] 102
 rw [hw_10]
 refine nl (sg (xr1 3 [(4, .load (i6 n))] [(5, .agg #[i6 4, s0, i6 0, i6 0, s0, i6 n, .slice none 0 0])] [1] (lc 3 (Blk.below hk_3 hb_7) 0) ?_))
 refine xst (.agg #[i6 4, s0, i6 0, i6 0, s0, i6 n, .slice none 0 0]) hk_8 0 #[i6 4, s0, i6 0, i6 0, s0, i6 n, .slice none 0 0] (fun w_11 hg_12 hk_13 hz_14 => ?_)
 refine nl (X_ret (RX.ret_cell (P := Tryz.prog) (fn := Tryz.f250) (N := 6) (R := R_) (c := 2) (t := 102) (p := ⟨w_1.heap.size, 0, none⟩) (v := .agg #[i6 4, s0, i6 0, i6 0, s0, i6 n, .slice none 0 0]) rfl rfl (lB hk_13 0) (hR_ _ _ ?_)))
 exact ⟨rfl, (bg (bt hb_2 hb_7) hg_12 (hb_2).size)⟩
set_option maxHeartbeats 2000000 in
theorem bplain_any (A : Option Addr) (c : Nat) (xs : List OpA) (w : World) (hb : badE xs = 0) (hx : kPiece.C w A (xs.map pOf).length (xs.map pOf)) (hn : xs.length ≤ 1100000) (hz : ∀ i, i < xs.length → opSz (xs.getD i op0)) :
  Calls Tryz.prog 116 #[aL A (xs.map pOf) c] w fun e w' => ∃ A' c', e = .returned (aL A' xs c') ∧ xs.length ≤ c' ∧ kOp.R 102 w' w.heap.size (OkFrom w.heap.size) (aL A' xs c') xs ∧ Below w.heap.size w w' := by
 have hlen : (xs.map pOf).length = xs.length := List.length_map ..
 have hpl : (xs.map pOf).length ≤ 9223372036854775807 := hx.2.1
 refine en Tryz.func116 rfl 22 [(0, aL A (xs.map pOf) c)] (fun R_ hR_ => ?_)
 refine sg (xe0 1 [(0, aL A (xs.map pOf) c)] ?_)
 refine nl (sg (xr0 2 [(7, i6 ((xs.map pOf).length : Int))] [] ?_))
 refine XL_makeCap kOp rfl rfl rfl 102 (.agg #[i6 0, s0, i6 0, i6 0, s0, i6 0, .slice none 0 0]) 88 ((xs.map pOf).length : Int) (by kernel_rfl) Tryz.underlying22 info102 rfl (by decide) (by omega) op0 (kOp_M0 op0 rfl) (by omega) (by omega) ?_
 intro A_1 c_2 w_3 hr_4 hc_5 hb_6
 refine xr0 1 [(3, .slice A_1 0 c_2)] [7, 8] ?_
 refine nl (sq (sg (xr0 3 [(9, aL A (xs.map pOf) c), (10, i6 ((xs.map pOf).length : Int)), (11, i6 0)] [0] ?_)))
 refine nl (bk (X_loop (ι := Nat × Option Addr × Nat × List OpA) (fun ⟨i, A3, c3, zs3⟩ => [(3, aL A3 zs3 c3), (9, aL A (xs.map pOf) c), (10, i6 ((xs.map pOf).length : Int)), (11, i6 (i : Int))]) (fun ⟨i, A3, c3, zs3⟩ wl => i ≤ xs.length ∧ zs3 = xs.take i ∧ kOp.R 102 wl w.heap.size (OkFrom w.heap.size) (aL A3 zs3 c3) zs3 ∧ w.heap.size ≤ wl.heap.size ∧ Below w.heap.size w wl) (fun ⟨i, A3, c3, zs3⟩ => xs.length - i) (0, A_1, c_2, []) ⟨by omega, rfl, hr_4, (hb_6).size, hb_6⟩ (by kernel_rfl) ?_))
 rintro ⟨i, A3, c3, zs3⟩ wl ⟨hi, he3, hr3, hle3, HB⟩
 have hzl : zs3.length = min i xs.length := by rw [he3, List.length_take]
 refine sq (X_region ?_)
 by_cases c_7 : (i : Int) < ((xs.map pOf).length : Int)
 ·refine xr1 1 [(12, .eq bT)] [(12, bT)] [] (dT c_7) ?_
  refine nl (sq (ct (sk (sq (bk (sq (X_region ?_)))))))
  obtain ⟨ad_8, v_11, ha_9, hc_10, hK_12⟩ := Kd.atPiece (Kd.C_below hx HB) (i := (i : Int)) (by omega) (by omega)
  replace hK_12 : kPiece.K wl ((xs.map pOf).getD i piece0) [v_11] := hK_12
  refine xr 1 [(13, .idx ad_8)] [(13, .pointer (some (ad_8.add ((i : Int).toNat * 1))))] [12] [A = some ad_8, (0 : Int) ≤ (i : Int), (i : Int) < ((xs.map pOf).length : Int)] ⟨ha_9, (by omega), (by omega), trivial⟩ ?_
  rw [map_getD pOf op0 piece0 (show i < xs.length by omega)] at hK_12
  have hpe_13 := badE_getD hb (show i < xs.length by omega)
  have hszi := hz i (by omega)
  rcases kind_of_ok hpe_13 with hk | hk | hk | hk
  ·rw [pOf_ins hk] at hK_12
   obtain ⟨A_14, c_15, e_16, hl_17, hC_18⟩ := kPiece_ins hK_12
   obtain rfl := (List.cons.inj e_16).1
   refine xr 2 [(14, .load (.iface 249 (.agg #[.slice A_14 ((xs.getD i op0).attrs.length) c_15, sT ((xs.getD i op0).text), i6 ((U.sc (xs.getD i op0).text).length : Int)])))] [(5, .iface 249 (.agg #[.slice A_14 ((xs.getD i op0).attrs.length) c_15, sT ((xs.getD i op0).text), i6 ((U.sc (xs.getD i op0).text).length : Int)]))] [13] [la 124 (ad_8.add ((i : Int).toNat * 1)) (.iface 249 (.agg #[.slice A_14 ((xs.getD i op0).attrs.length) c_15, sT ((xs.getD i op0).text), i6 ((U.sc (xs.getD i op0).text).length : Int)])) wl] ⟨loads1 rfl (elem_cell hc_10 0 _ rfl), trivial⟩ ?_
   refine nl (rg (xr0 2 [(15, aL A3 zs3 c3), (16, .iface 249 (.agg #[.slice A_14 ((xs.getD i op0).attrs.length) c_15, sT ((xs.getD i op0).text), i6 ((U.sc (xs.getD i op0).text).length : Int)]))] [3, 5] ?_))
   have hatl := hszi.2.2.1
   refine XL_inv 252 #[.agg #[.slice A_14 ((xs.getD i op0).attrs.length) c_15, sT ((xs.getD i op0).text), i6 ((U.sc (xs.getD i op0).text).length : Int)]] rfl rfl (by kernel_rfl) (by kernel_rfl) (insertOp_any _ _ (xs.getD i op0).attrs (xs.getD i op0).text _ _ hC_18 (by omega)) ?_
   rintro e w_21 ⟨A_19, c_20, rfl, hl_23, hr_24, hb_22⟩; refine ⟨_, rfl, ?_⟩
   refine xw 1 [] [(18, .slice (some ⟨w_21.heap.size, 0, none⟩) 1 1)] [16, 17] (w_21.alloc (.cells #[i6 1, sT ((xs.getD i op0).text), i6 0, i6 0, s0, i6 0, aL A_19 (xs.getD i op0).attrs c_20] 102)) [] trivial ?_
   obtain ⟨w_25, hw_29, hb_26, hk_27, hz_28⟩ := new_world w_21 #[i6 1, sT ((xs.getD i op0).text), i6 0, i6 0, s0, i6 0, aL A_19 (xs.getD i op0).attrs c_20] 102
   rw [hw_29]
   obtain ⟨okp_30, hM_31, hok_32⟩ := Kd.M_rowApart hr_24 hle3 (Kd.R_below hr3 hb_22) (by decide)
   rw [← hw_29]
   refine XL_append kOp rfl rfl rfl w.heap.size 102 (.agg #[i6 0, s0, i6 0, i6 0, s0, i6 0, .slice none 0 0]) 88 Tryz.underlying22 info102 rfl (by decide) (by omega) zs3 (⟨1, (xs.getD i op0).text, 0, 0, ByteArray.empty, 0, (xs.getD i op0).attrs⟩ : OpA) [i6 1, sT ((xs.getD i op0).text), i6 0, i6 0, s0, i6 0, aL A_19 (xs.getD i op0).attrs c_20] okp_30 (by kernel_rfl) (kOp_M (x := (⟨1, (xs.getD i op0).text, 0, 0, ByteArray.empty, 0, (xs.getD i op0).attrs⟩ : OpA)) hM_31) hok_32 (Kd.R_below hr3 hb_22) ((bt HB hb_22)).size (by first | omega | (simp; omega)) ?_
   intro A_33 c_34 w_35 hr_36 hc_37 hg_38 hl_39 ha_40
   have he_42 : (zs3 ++ [(⟨1, (xs.getD i op0).text, 0, 0, ByteArray.empty, 0, (xs.getD i op0).attrs⟩ : OpA)]) = (xs.take (i + 1)) := by rw [he3, show (⟨1, (xs.getD i op0).text, 0, 0, ByteArray.empty, 0, (xs.getD i op0).attrs⟩ : OpA) = (xs.getD i op0) from (ok_txt hpe_13 hk).symm]; exact (take_snocD op0 xs i (by omega)).symm
   rw [he_42] at hr_36 ⊢
   refine xe0 1 [(3, aL A_33 (xs.take (i + 1)) c_34), (9, aL A (xs.map pOf) c), (10, i6 ((xs.map pOf).length : Int)), (11, nv i)] ?_
   refine nl (rg (xr1 2 [(20, .eq (i6 ((i : Int) + 1)))] [(11, i6 ((i : Int) + 1))] [] (w6 ((i : Int) + 1)) ?_))
   refine nl ?_
   have hB_43 : Below w.heap.size w w_35 := (bgo (bt HB hb_22) hg_38 hl_39 (Nat.le_refl _))
   refine ⟨(i + 1, A_33, c_34, (xs.take (i + 1))), by kernel_rfl, ?_, ?_⟩
   ·exact ⟨by omega, rfl, hr_36, (hB_43).size, hB_43⟩
   (try dsimp only); omega
  ·rw [pOf_emb hk] at hK_12
   obtain ⟨A_44, c_45, e_46, hl_47, hC_48⟩ := kPiece_emb hK_12
   obtain rfl := (List.cons.inj e_46).1
   have hval : (xs.getD i op0).val = ((xs.getD i op0).vk, (xs.getD i op0).vn, (xs.getD i op0).vt) := rfl
   rw [hval] at hc_10
   refine xr 2 [(14, .load (.iface 253 (.agg #[.slice A_44 ((xs.getD i op0).attrs.length) c_45, sT ((xs.getD i op0).text), valV ((xs.getD i op0).vk, (xs.getD i op0).vn, (xs.getD i op0).vt)])))] [(5, .iface 253 (.agg #[.slice A_44 ((xs.getD i op0).attrs.length) c_45, sT ((xs.getD i op0).text), valV ((xs.getD i op0).vk, (xs.getD i op0).vn, (xs.getD i op0).vt)]))] [13] [la 124 (ad_8.add ((i : Int).toNat * 1)) (.iface 253 (.agg #[.slice A_44 ((xs.getD i op0).attrs.length) c_45, sT ((xs.getD i op0).text), valV ((xs.getD i op0).vk, (xs.getD i op0).vn, (xs.getD i op0).vt)])) wl] ⟨loads1 rfl (elem_cell hc_10 0 _ rfl), trivial⟩ ?_
   refine nl (rg (xr0 2 [(15, aL A3 zs3 c3), (16, .iface 253 (.agg #[.slice A_44 ((xs.getD i op0).attrs.length) c_45, sT ((xs.getD i op0).text), valV ((xs.getD i op0).vk, (xs.getD i op0).vn, (xs.getD i op0).vt)]))] [3, 5] ?_))
   have hatl := hszi.2.2.1
   refine XL_inv 254 #[.agg #[.slice A_44 ((xs.getD i op0).attrs.length) c_45, sT ((xs.getD i op0).text), valV ((xs.getD i op0).vk, (xs.getD i op0).vn, (xs.getD i op0).vt)]] rfl rfl (by kernel_rfl) (by kernel_rfl) (embedOp_any (xs.getD i op0) _ _ _ hC_48 (by omega) (ok_emb hpe_13 hk).1) ?_
   rintro e w_51 ⟨A_49, c_50, rfl, hl_53, hr_54, hb_52⟩; refine ⟨_, rfl, ?_⟩
   refine xw 1 [] [(18, .slice (some ⟨w_51.heap.size, 0, none⟩) 1 1)] [16, 17] (w_51.alloc (.cells #[i6 2, sT ((xs.getD i op0).text), i6 ((xs.getD i op0).vk), i6 ((xs.getD i op0).vn), sT ((xs.getD i op0).vt), i6 0, aL A_49 (xs.getD i op0).attrs c_50] 102)) [] trivial ?_
   obtain ⟨w_55, hw_59, hb_56, hk_57, hz_58⟩ := new_world w_51 #[i6 2, sT ((xs.getD i op0).text), i6 ((xs.getD i op0).vk), i6 ((xs.getD i op0).vn), sT ((xs.getD i op0).vt), i6 0, aL A_49 (xs.getD i op0).attrs c_50] 102
   rw [hw_59]
   obtain ⟨okp_60, hM_61, hok_62⟩ := Kd.M_rowApart hr_54 hle3 (Kd.R_below hr3 hb_52) (by decide)
   rw [← hw_59]
   refine XL_append kOp rfl rfl rfl w.heap.size 102 (.agg #[i6 0, s0, i6 0, i6 0, s0, i6 0, .slice none 0 0]) 88 Tryz.underlying22 info102 rfl (by decide) (by omega) zs3 (⟨2, (xs.getD i op0).text, (xs.getD i op0).vk, (xs.getD i op0).vn, (xs.getD i op0).vt, 0, (xs.getD i op0).attrs⟩ : OpA) [i6 2, sT ((xs.getD i op0).text), i6 ((xs.getD i op0).vk), i6 ((xs.getD i op0).vn), sT ((xs.getD i op0).vt), i6 0, aL A_49 (xs.getD i op0).attrs c_50] okp_60 (by kernel_rfl) (kOp_M (x := (⟨2, (xs.getD i op0).text, (xs.getD i op0).vk, (xs.getD i op0).vn, (xs.getD i op0).vt, 0, (xs.getD i op0).attrs⟩ : OpA)) hM_61) hok_62 (Kd.R_below hr3 hb_52) ((bt HB hb_52)).size (by first | omega | (simp; omega)) ?_
   intro A_63 c_64 w_65 hr_66 hc_67 hg_68 hl_69 ha_70
   have he_72 : (zs3 ++ [(⟨2, (xs.getD i op0).text, (xs.getD i op0).vk, (xs.getD i op0).vn, (xs.getD i op0).vt, 0, (xs.getD i op0).attrs⟩ : OpA)]) = (xs.take (i + 1)) := by rw [he3, show (⟨2, (xs.getD i op0).text, (xs.getD i op0).vk, (xs.getD i op0).vn, (xs.getD i op0).vt, 0, (xs.getD i op0).attrs⟩ : OpA) = (xs.getD i op0) from (ok_emb hpe_13 hk).2.symm]; exact (take_snocD op0 xs i (by omega)).symm
   rw [he_72] at hr_66 ⊢
   refine xe0 1 [(3, aL A_63 (xs.take (i + 1)) c_64), (9, aL A (xs.map pOf) c), (10, i6 ((xs.map pOf).length : Int)), (11, nv i)] ?_
   refine nl (rg (xr1 2 [(20, .eq (i6 ((i : Int) + 1)))] [(11, i6 ((i : Int) + 1))] [] (w6 ((i : Int) + 1)) ?_))
   refine nl ?_
   have hB_73 : Below w.heap.size w w_65 := (bgo (bt HB hb_52) hg_68 hl_69 (Nat.le_refl _))
   refine ⟨(i + 1, A_63, c_64, (xs.take (i + 1))), by kernel_rfl, ?_, ?_⟩
   ·exact ⟨by omega, rfl, hr_66, (hB_73).size, hB_73⟩
   (try dsimp only); omega
  ·rw [pOf_ret hk] at hK_12
   obtain ⟨A_74, c_75, e_76, hl_77, hC_78⟩ := kPiece_ret hK_12
   obtain rfl := (List.cons.inj e_76).1
   refine xr 2 [(14, .load (.iface 128 (.agg #[.slice A_74 ((xs.getD i op0).attrs.length) c_75, i6 ((xs.getD i op0).count)])))] [(5, .iface 128 (.agg #[.slice A_74 ((xs.getD i op0).attrs.length) c_75, i6 ((xs.getD i op0).count)]))] [13] [la 124 (ad_8.add ((i : Int).toNat * 1)) (.iface 128 (.agg #[.slice A_74 ((xs.getD i op0).attrs.length) c_75, i6 ((xs.getD i op0).count)])) wl] ⟨loads1 rfl (elem_cell hc_10 0 _ rfl), trivial⟩ ?_
   refine nl (rg (xr0 2 [(15, aL A3 zs3 c3), (16, .iface 128 (.agg #[.slice A_74 ((xs.getD i op0).attrs.length) c_75, i6 ((xs.getD i op0).count)]))] [3, 5] ?_))
   have hatl := hszi.2.2.1
   refine XL_inv 248 #[.agg #[.slice A_74 ((xs.getD i op0).attrs.length) c_75, i6 ((xs.getD i op0).count)]] rfl rfl (by kernel_rfl) (by kernel_rfl) (retOp_any _ _ (xs.getD i op0).attrs _ _ hC_78 (by omega)) ?_
   rintro e w_81 ⟨A_79, c_80, rfl, hl_83, hr_84, hb_82⟩; refine ⟨_, rfl, ?_⟩
   refine xw 1 [] [(18, .slice (some ⟨w_81.heap.size, 0, none⟩) 1 1)] [16, 17] (w_81.alloc (.cells #[i6 3, s0, i6 0, i6 0, s0, i6 ((xs.getD i op0).count), aL A_79 (xs.getD i op0).attrs c_80] 102)) [] trivial ?_
   obtain ⟨w_85, hw_89, hb_86, hk_87, hz_88⟩ := new_world w_81 #[i6 3, s0, i6 0, i6 0, s0, i6 ((xs.getD i op0).count), aL A_79 (xs.getD i op0).attrs c_80] 102
   rw [hw_89]
   obtain ⟨okp_90, hM_91, hok_92⟩ := Kd.M_rowApart hr_84 hle3 (Kd.R_below hr3 hb_82) (by decide)
   rw [← hw_89]
   refine XL_append kOp rfl rfl rfl w.heap.size 102 (.agg #[i6 0, s0, i6 0, i6 0, s0, i6 0, .slice none 0 0]) 88 Tryz.underlying22 info102 rfl (by decide) (by omega) zs3 (⟨3, ByteArray.empty, 0, 0, ByteArray.empty, (xs.getD i op0).count, (xs.getD i op0).attrs⟩ : OpA) [i6 3, s0, i6 0, i6 0, s0, i6 ((xs.getD i op0).count), aL A_79 (xs.getD i op0).attrs c_80] okp_90 (by kernel_rfl) (kOp_M (x := (⟨3, ByteArray.empty, 0, 0, ByteArray.empty, (xs.getD i op0).count, (xs.getD i op0).attrs⟩ : OpA)) hM_91) hok_92 (Kd.R_below hr3 hb_82) ((bt HB hb_82)).size (by first | omega | (simp; omega)) ?_
   intro A_93 c_94 w_95 hr_96 hc_97 hg_98 hl_99 ha_100
   have he_102 : (zs3 ++ [(⟨3, ByteArray.empty, 0, 0, ByteArray.empty, (xs.getD i op0).count, (xs.getD i op0).attrs⟩ : OpA)]) = (xs.take (i + 1)) := by rw [he3, show (⟨3, ByteArray.empty, 0, 0, ByteArray.empty, (xs.getD i op0).count, (xs.getD i op0).attrs⟩ : OpA) = (xs.getD i op0) from (B.ok_ret hpe_13 hk).1.symm]; exact (take_snocD op0 xs i (by omega)).symm
   rw [he_102] at hr_96 ⊢
   refine xe0 1 [(3, aL A_93 (xs.take (i + 1)) c_94), (9, aL A (xs.map pOf) c), (10, i6 ((xs.map pOf).length : Int)), (11, nv i)] ?_
   refine nl (rg (xr1 2 [(20, .eq (i6 ((i : Int) + 1)))] [(11, i6 ((i : Int) + 1))] [] (w6 ((i : Int) + 1)) ?_))
   refine nl ?_
   have hB_103 : Below w.heap.size w w_95 := (bgo (bt HB hb_82) hg_98 hl_99 (Nat.le_refl _))
   refine ⟨(i + 1, A_93, c_94, (xs.take (i + 1))), by kernel_rfl, ?_, ?_⟩
   ·exact ⟨by omega, rfl, hr_96, (hB_103).size, hB_103⟩
   (try dsimp only); omega
  rw [pOf_del hk] at hK_12
  have e_106 := kPiece_del hK_12
  obtain rfl := (List.cons.inj e_106).1
  refine xr 2 [(14, .load (.iface 133 (.agg #[i6 ((xs.getD i op0).count)])))] [(5, .iface 133 (.agg #[i6 ((xs.getD i op0).count)]))] [13] [la 124 (ad_8.add ((i : Int).toNat * 1)) (.iface 133 (.agg #[i6 ((xs.getD i op0).count)])) wl] ⟨loads1 rfl (elem_cell hc_10 0 _ rfl), trivial⟩ ?_
  refine nl (rg (xr0 2 [(15, aL A3 zs3 c3), (16, .iface 133 (.agg #[i6 ((xs.getD i op0).count)]))] [3, 5] ?_))
  refine XL_inv 250 #[.agg #[i6 ((xs.getD i op0).count)]] rfl rfl (by kernel_rfl) (by kernel_rfl) (delOp_any _ _) ?_
  rintro e w_109 ⟨rfl, hb_110⟩; refine ⟨_, rfl, ?_⟩
  refine xw 1 [] [(18, .slice (some ⟨w_109.heap.size, 0, none⟩) 1 1)] [16, 17] (w_109.alloc (.cells #[i6 4, s0, i6 0, i6 0, s0, i6 ((xs.getD i op0).count), .slice none 0 0] 102)) [] trivial ?_
  obtain ⟨w_111, hw_115, hb_112, hk_113, hz_114⟩ := new_world w_109 #[i6 4, s0, i6 0, i6 0, s0, i6 ((xs.getD i op0).count), .slice none 0 0] 102
  rw [hw_115]
  rw [← hw_115]
  refine XL_append kOp rfl rfl rfl w.heap.size 102 (.agg #[i6 0, s0, i6 0, i6 0, s0, i6 0, .slice none 0 0]) 88 Tryz.underlying22 info102 rfl (by decide) (by omega) zs3 (⟨4, ByteArray.empty, 0, 0, ByteArray.empty, (xs.getD i op0).count, []⟩ : OpA) [i6 4, s0, i6 0, i6 0, s0, i6 ((xs.getD i op0).count), .slice none 0 0] (fun _ => False) (by kernel_rfl) (kOp_M0 (⟨4, ByteArray.empty, 0, 0, ByteArray.empty, (xs.getD i op0).count, []⟩ : OpA) rfl) (fun _ h => h.elim) (Kd.R_below hr3 hb_110) ((bt HB hb_110)).size (by first | omega | (simp; omega)) ?_
  intro A_116 c_117 w_118 hr_119 hc_120 hg_121 hl_122 ha_123
  have he_124 : (zs3 ++ [(⟨4, ByteArray.empty, 0, 0, ByteArray.empty, (xs.getD i op0).count, []⟩ : OpA)]) = (xs.take (i + 1)) := by rw [he3, show (⟨4, ByteArray.empty, 0, 0, ByteArray.empty, (xs.getD i op0).count, []⟩ : OpA) = (xs.getD i op0) from (B.ok_del hpe_13 hk).symm]; exact (take_snocD op0 xs i (by omega)).symm
  rw [he_124] at hr_119 ⊢
  refine xe0 1 [(3, aL A_116 (xs.take (i + 1)) c_117), (9, aL A (xs.map pOf) c), (10, i6 ((xs.map pOf).length : Int)), (11, nv i)] ?_
  refine nl (rg (xr1 2 [(20, .eq (i6 ((i : Int) + 1)))] [(11, i6 ((i : Int) + 1))] [] (w6 ((i : Int) + 1)) ?_))
  refine nl ?_
  have hB_125 : Below w.heap.size w w_118 := (bgo (bt HB hb_110) hg_121 hl_122 (Nat.le_refl _))
  refine ⟨(i + 1, A_116, c_117, (xs.take (i + 1))), by kernel_rfl, ?_, ?_⟩
  ·exact ⟨by omega, rfl, hr_119, (hB_125).size, hB_125⟩
  (try dsimp only); omega
 refine xr1 1 [(12, .eq bF)] [(12, bF)] [] (dF c_7) ?_
 refine nl (sq (cf (X_exit (sg (xe0 2 [(2, aL A3 zs3 c3)] ?_)))))
 refine nl (X_ret (rj [aL A3 zs3 c3] hR_ ?_))
 have hxi : xs.take i = xs := List.take_of_length_le (by omega)
 rw [hxi] at he3
 subst he3
 exact ⟨_, _, rfl, (RX.Kd.R_len hr3).2, Kd.R_low hr3 (Nat.le_refl _), HB⟩
end Go.Proofs.YtgphmfnkeolbcaaGreatDoor
