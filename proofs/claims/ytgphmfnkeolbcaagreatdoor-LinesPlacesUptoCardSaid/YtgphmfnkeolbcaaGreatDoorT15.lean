import Derived.Test.YtgphmfnkeolbcaaGreatDoorT67
import Derived.Test.YtgphmfnkeolbcaaGreatDoorIn
import Derived.Test.YtgphmfnkeolbcaaGreatDoorSpare
import Derived.Laws.AppendOwn
import Derived.Test.YtgphmfnkeolbcaaGreatDoorP1
import Derived.Test.YtgphmfnkeolbcaaGreatDoorClp
/- Rows of operations whose attributes lie elsewhere: a text or a count is written. No condition. -/

set_option linter.unusedVariables false
set_option maxRecDepth 100000
namespace Go.Proofs.YtgphmfnkeolbcaaGreatDoor.RX
open Go Go.RowKit Go.Proofs.YtgphmfnkeolbcaaGreatDoor Go.Proofs.YtgphmfnkeolbcaaGreatDoorW.PrintWords
def setT (x : OpA) (t : ByteArray) : OpA := ⟨x.kind, t, x.vk, x.vn, x.vt, x.count, x.attrs⟩
def setN (x : OpA) (n : Int) : OpA := ⟨x.kind, x.text, x.vk, x.vn, x.vt, n, x.attrs⟩
section
variable {e B : Nat} {W0 w w1 : World} {A : Option Addr} {n c : Nat} {xs : List OpA}
theorem MixK.set1 {vs : List (List Value)} {i : Nat} {x' : OpA} {cs : List Value} (h : MixK kOp op0 e B W0 w A n c xs) (hl : vs.length = xs.length) (hK : ∀ i, i < xs.length → kOp.K W0 (xs.getD i op0) (vs.getD i [])) (hR : (kRaw 7).R e w1 B (OkFrom B) (.slice A n c) (vs.set i cs)) (hx : kOp.K W0 x' cs) : MixK kOp op0 e B W0 w1 A n c (xs.set i x') := by
  refine ⟨vs.set i cs, hR, by rw [List.length_set, List.length_set, hl], fun j hj => ?_⟩
  rw [List.length_set] at hj
  rw [List.getD_eq_getElem?_getD, List.getD_eq_getElem?_getD, List.getElem?_set, List.getElem?_set]
  by_cases e1 : i = j
  · subst e1
    rw [if_pos rfl, if_pos rfl, if_pos hj, if_pos (by omega)]
    exact hx
  · rw [if_neg e1, if_neg e1, ← List.getD_eq_getElem?_getD, ← List.getD_eq_getElem?_getD]
    exact hK j hj
end
variable {P : Program} {N : Nat} {ops : Array Oper} {qs : QS} {rest : List Oper} {o : Oper} {l : Slots}
theorem XL_mixText {e B : Nat} {W0 w : World} {A : Option Addr} {n c : Nat} {xs : List OpA} {t : TypeId} {p x : Operand} (ho : o.op = .store t p x) (hdn : o.dst = none) (hg : gd ops l o = some true) {ad : Addr} {i : Int} (s : ByteArray) (hv : evs l [p, x] = some [.pointer (some ((ad.add (i.toNat * 7)).add 1)), .string s]) (hA : A = some ad)
    (h : MixK kOp op0 e B W0 w A n c xs) (h0 : 0 ≤ i) (hi : i < n) (ht : sizeP P t = some 1)
    (hn : ∀ w1, MixK kOp op0 e B W0 w1 A n c (xs.set i.toNat (setT (xs.getD i.toNat op0) s)) → w.grownBy w1 (A.map (·.block)) → (∀ k, A.map (·.block) = some k → B ≤ k) → XL P N ops rest qs l w1) : XL P N ops (o :: rest) qs l w := by
  obtain ⟨hl1, _⟩ := h.len
  obtain ⟨vs, hR, hl, hK⟩ := h
  refine XL_rowpart 7 ho hdn hg B e 1 vs hv hA hR h0 hi [.string s] ⟨rfl, rfl⟩ (by simp only [List.length_singleton]; omega) ht fun w1 h1 h2 h3 => hn w1 (MixK.set1 ⟨vs, hR, hl, hK⟩ hl hK h1 ?_) h2 h3
  obtain ⟨A', c', e1, h4, h5⟩ := kOp_K (hK i.toNat (by omega))
  rw [e1]
  exact kOp_K_of (x := setT (xs.getD i.toNat op0) s) h4 h5
theorem XL_mixCount {e B : Nat} {W0 w : World} {A : Option Addr} {n c : Nat} {xs : List OpA} {t : TypeId} {p x : Operand} (ho : o.op = .store t p x) (hdn : o.dst = none) (hg : gd ops l o = some true) {ad : Addr} {i : Int} (s : Int) (hv : evs l [p, x] = some [.pointer (some ((ad.add (i.toNat * 7)).add 5)), .int .i64 s]) (hA : A = some ad)
    (h : MixK kOp op0 e B W0 w A n c xs) (h0 : 0 ≤ i) (hi : i < n) (ht : sizeP P t = some 1)
    (hn : ∀ w1, MixK kOp op0 e B W0 w1 A n c (xs.set i.toNat (setN (xs.getD i.toNat op0) s)) → w.grownBy w1 (A.map (·.block)) → (∀ k, A.map (·.block) = some k → B ≤ k) → XL P N ops rest qs l w1) : XL P N ops (o :: rest) qs l w := by
  obtain ⟨hl1, _⟩ := h.len
  obtain ⟨vs, hR, hl, hK⟩ := h
  refine XL_rowpart 7 ho hdn hg B e 5 vs hv hA hR h0 hi [.int .i64 s] ⟨rfl, rfl⟩ (by simp only [List.length_singleton]; omega) ht fun w1 h1 h2 h3 => hn w1 (MixK.set1 ⟨vs, hR, hl, hK⟩ hl hK h1 ?_) h2 h3
  obtain ⟨A', c', e1, h4, h5⟩ := kOp_K (hK i.toNat (by omega))
  rw [e1]
  exact kOp_K_of (x := setN (xs.getD i.toNat op0) s) h4 h5
section
variable {α : Type} {d : Kd α} {z : α} {e B : Nat} {W0 W w w1 : World} {A A' : Option Addr} {n c m c' : Nat} {xs ys : List α}
theorem XL_appendMixH {s x : Operand} {t : TypeId} (z : α) (ho : o.op = .call { callee := .builtin .append, args := #[s, x], argTypes := #[t, t] }) (hg : gd ops l o = some true) (hd : okD N o.dst = true) (e : Nat) (zv : Value) (bytes : Nat)
    (ht : P.underlying t = some (.slice e)) (hinfo : (P.info? e).map (fun i => (i.zero, i.size, i.bytes)) = some (some zv, d.sz, bytes)) (hz : zv.cells.size = d.sz) (hs0 : 0 < d.sz) (hb0 : 0 < bytes)
    (xs ys : List α) (vs2 : List (List Value)) (hv : evs l [s, x] = some [.slice A n c, .slice A' m c'])
    (HO : MixK d z e B W0 W A n c xs) (HC : (kRaw d.sz).C W A' m vs2) (hm : ys.length = m) (hK : ∀ i, i < m → d.K W0 (ys.getD i z) (vs2.getD i [])) (hbase : B ≤ W.heap.size) (hl : (xs.length + m) * bytes ≤ 140737488355328)
    (hn : ∀ A1 c1 w1, MixK d z e B W0 w1 A1 (xs ++ ys).length c1 (xs ++ ys) → W.grownBy w1 (A.map (·.block)) → (∀ k, A.map (·.block) = some k → B ≤ k) → (A1.map (·.block) = A.map (·.block) ∨ ∃ b, A1.map (·.block) = some b ∧ W.heap.size ≤ b) → XL P N ops rest qs (putS l o.dst (.slice A1 (xs ++ ys).length c1)) w1) : XL P N ops (o :: rest) qs l W := by
  obtain ⟨vs, hR, hlv, hE⟩ := HO
  have hlen2 : vs2.length = m := HC.1
  refine XL_appendAll (kRaw d.sz) ho hg hd B e zv bytes ht hinfo hz hs0 hb0 vs vs2 hv hR HC (fun _ _ h => h) hbase (by rw [hlv]; exact hl) ?_
  intro A1 c1 w1 hr hc hgr hle hat
  have hlen : (vs ++ vs2).length = (xs ++ ys).length := by simp [hlv, hlen2, hm]
  rw [hlen] at hr ⊢
  refine hn A1 c1 w1 ⟨vs ++ vs2, hr, hlen, fun i hi => ?_⟩ hgr hle hat
  rw [List.getD_eq_getElem?_getD, List.getD_eq_getElem?_getD]
  by_cases hx : i < xs.length
  · rw [List.getElem?_append_left hx, List.getElem?_append_left (by omega), ← List.getD_eq_getElem?_getD, ← List.getD_eq_getElem?_getD]
    exact hE i hx
  · rw [List.getElem?_append_right (by omega), List.getElem?_append_right (by omega), hlv, ← List.getD_eq_getElem?_getD, ← List.getD_eq_getElem?_getD]
    rw [List.length_append] at hi
    exact hK _ (by omega)
end
end Go.Proofs.YtgphmfnkeolbcaaGreatDoor.RX
set_option linter.unusedVariables false
set_option linter.unusedSimpArgs false
set_option maxRecDepth 100000
namespace Go.Proofs.YtgphmfnkeolbcaaGreatDoor
open Go Go.RowKit Go.Proofs.YtgphmfnkeolbcaaGreatDoorW.PrintWords RX
theorem ent198 : Ent Tryz.prog 198 := ent_of Tryz.func198 (by kernel_rfl) rfl
theorem push_in {xs : List OpA} {o : OpA} (h0 : xs.length ≠ 0) (hm : B.meets (xs.getD ((xs.length : Int) - 1).toNat op0) o) : (xs.set ((xs.length : Int) - 1).toNat (setT (xs.getD ((xs.length : Int) - 1).toNat op0) ((xs.getD ((xs.length : Int) - 1).toNat op0).text ++ o.text))).set ((xs.length : Int) - 1).toNat (setN ((xs.set ((xs.length : Int) - 1).toNat (setT (xs.getD ((xs.length : Int) - 1).toNat op0) ((xs.getD ((xs.length : Int) - 1).toNat op0).text ++ o.text))).getD ((xs.length : Int) - 1).toNat op0) (((xs.set ((xs.length : Int) - 1).toNat (setT (xs.getD ((xs.length : Int) - 1).toNat op0) ((xs.getD ((xs.length : Int) - 1).toNat op0).text ++ o.text))).getD ((xs.length : Int) - 1).toNat op0).count + o.count)) = B.push xs o := by
 have e : ((xs.length : Int) - 1).toNat = xs.length - 1 := by omega
 rw [e] at hm ⊢
 have e2 : (xs.set (xs.length - 1) (setT (xs.getD (xs.length - 1) op0) ((xs.getD (xs.length - 1) op0).text ++ o.text))).getD (xs.length - 1) op0 = setT (xs.getD (xs.length - 1) op0) ((xs.getD (xs.length - 1) op0).text ++ o.text) := by
  rw [List.getD_eq_getElem?_getD, List.getElem?_set_self (by omega)]; rfl
 rw [e2, List.set_set]
 unfold B.push
 rw [if_pos ⟨h0, hm⟩]; rfl
theorem push_out {xs : List OpA} {o : OpA} (h : xs.length = 0 ∨ ¬ B.meets (xs.getD ((xs.length : Int) - 1).toNat op0) o) : B.push xs o = xs ++ [o] := B.push_far (by
 rcases h with h | h
 ·exact .inl h
 by_cases h0 : xs.length = 0
 ·exact .inl h0
 refine .inr ?_
 rw [show ((xs.length : Int) - 1).toNat = xs.length - 1 by omega] at h
 exact h)
set_option maxHeartbeats 4000000 in
theorem r6push_any (A : Option Addr) (c : Nat) (xs : List OpA) (o : OpA) (D : Option Addr) (d : Nat) (bs : Nat) (W0 w : World) (hW : Below W0.heap.size W0 w) (hx : MixK kOp op0 102 bs W0 w A xs.length c xs) (hD : kAttr.C W0 D o.attrs.length o.attrs) (hDl : o.attrs.length ≤ d) (hB : bs ≤ w.heap.size) (hn : xs.length ≤ 4000000) (hts : (xs.getD ((xs.length : Int) - 1).toNat op0).text.size + o.text.size ≤ 9223372036854775807) (hcs : -9223372036854775808 ≤ (xs.getD ((xs.length : Int) - 1).toNat op0).count + o.count ∧ (xs.getD ((xs.length : Int) - 1).toNat op0).count + o.count ≤ 9223372036854775807) :
  Calls Tryz.prog 198 #[.slice A xs.length c, .agg (o7A o (.slice D o.attrs.length d))] w fun e w' => ∃ A1 c1, e = .returned (.slice A1 (B.push xs o).length c1) ∧ MixK kOp op0 102 bs W0 w' A1 (B.push xs o).length c1 (B.push xs o) ∧ w.grownBy w' (A.map (·.block)) ∧ (A1.map (·.block) = A.map (·.block) ∨ ∃ b, A1.map (·.block) = some b ∧ w.heap.size ≤ b) := by
 refine en Tryz.func198 rfl 65 [(0, .slice A xs.length c), (1, .agg (o7A o (.slice D o.attrs.length d)))] (fun R_ hR_ => ?_)
 have hxC := MixK.C hx hW
 refine sg (xwe 1 [] [(0, .slice A xs.length c), (3, pw w.heap.size 0)] (w.alloc (.cells (o7A o (.slice D o.attrs.length d)) 102)) [] trivial ?_)
 obtain ⟨w_1, hw_5, hb_2, hk_3, hz_4⟩ := new_world w (o7A o (.slice D o.attrs.length d)) 102
 rw [hw_5]
 refine xr0 1 [] [] ?_
 refine nl (sg (xr0 3 [(5, i6 (xs.length : Int))] [] ?_))
 refine nl (sq (sq (X_any [27] 30 (tf 0 30) (by kernel_rfl) (by kernel_rfl) (by kernel_rfl) (fun wd_6 hb_7 hh_8 => ?_))))
 refine XA_run (fuel' := 29) [0] [] [i6 (xs.length : Int)] (tf 1 29) [(0, .slice A xs.length c), (3, pw w.heap.size 0), (5, i6 (xs.length : Int)), (8, i6 (xs.length : Int))] [] trivial ?_
 by_cases c_9 : (xs.length : Int) = 0
 ·refine XA_run (fuel' := 3) [1, 2, 3, 4, 5, 6, 7, 8, 9, 10, 11, 12, 13, 14, 15, 16, 17, 18, 19, 20, 21, 22, 23, 24, 25, 26] [(9, .eq bT)] [bT, bT, undef, undef, undef, undef, undef, undef, undef, undef, undef, bT, bT, undef, undef, undef, bT, bT, undef, undef, undef, undef, undef, undef, undef, undef] (tf 27 3) [(0, .slice A xs.length c), (3, pw w.heap.size 0), (5, i6 (xs.length : Int)), (26, bT), (32, undef), (34, undef)] [Value.bool ((xs.length : Int) == 0) = bT] ⟨congrArg Value.bool (beq_iff_eq.2 (c_9)), trivial⟩ ?_
  refine XA_pure (fuel' := 2) [27] [] [undef] (tf 28 2) [(0, .slice A xs.length c), (3, pw w.heap.size 0), (5, i6 (xs.length : Int)), (26, bT), (35, undef)] (fun w_ => []) (fun w_ => trivial) ?_
  refine XA_pure (fuel' := 0) [28, 29] [] [undef, bT] (tf 30 0) [(0, .slice A xs.length c), (3, pw w.heap.size 0), (5, i6 (xs.length : Int)), (37, bT)] (fun w_ => []) (fun w_ => trivial) ?_
  refine XA_done (by kernel_rfl) ?_
  refine ct (sg (xwe 3 [(39, .load (.agg (o7A o (.slice D o.attrs.length d))))] [(38, .slice A xs.length c), (40, .slice (some ⟨wd_6.heap.size, 0, none⟩) 1 1)] (wd_6.alloc (.cells (o7A o (.slice D o.attrs.length d)) 102)) [la 102 (⟨w.heap.size, 0, none⟩) (.agg (o7A o (.slice D o.attrs.length d))) wd_6] ⟨loadsB rfl rfl (Blk.below hk_3 hb_7) 0 ⟨by kernel_rfl, by kernel_rfl⟩, trivial⟩ ?_))
  obtain ⟨w_10, hw_14, hb_11, hk_12, hz_13⟩ := new_world wd_6 (o7A o (.slice D o.attrs.length d)) 102
  rw [hw_14]
  have hR_15 := Kd.R_litB (kRaw 7) (W := wd_6) (e := 102) (cs := (o7A o (.slice D o.attrs.length d))) [(o7L o (.slice D o.attrs.length d))] hk_12 (rawL1 _ rfl (by kernel_rfl)) (Nat.le_of_ble_eq_true (by kernel_rfl))
  refine XL_appendMixH (d := kOp) (W0 := W0) (B := bs) (c' := 1) (m := 1) op0 rfl rfl rfl 102 (.agg #[i6 0, s0, i6 0, i6 0, s0, i6 0, .slice none 0 0]) 88 Tryz.underlying22 info102 rfl (by decide) (by omega) xs [o] [(o7L o (.slice D o.attrs.length d))] (by kernel_rfl) (MixK.below hx (bt (bt hb_2 hb_7) hb_11)) (Kd.R_C hR_15) rfl (fun i_ hi_ => by have h_ : i_ = 0 := (by omega); subst h_; exact kOp_K_of (x := o) hDl hD) (Nat.le_trans hB ((bt (bt hb_2 hb_7) hb_11)).size) (by omega) ?_
  intro A_16 c_17 w_18 hm_19 hg_20 hl_21 hat_22
  refine xe0 1 [(4, .slice A_16 ((xs ++ [o]).length) c_17)] ?_
  refine nl (X_ret (rj [.slice A_16 ((xs ++ [o]).length) c_17] hR_ ?_))
  rw [push_out (xs := xs) (o := o) (by first | exact .inl (by omega) | exact .inr (fun h_ => by obtain ⟨h1_, h2_, h3_⟩ := h_; first | omega | simp_all))]
  exact ⟨_, _, rfl, hm_19, (World.grownBy.trans (grown_of_below (bt (bt hb_2 hb_7) hb_11) _) hg_20), hat_22.imp_right fun ⟨b_, h1_, h2_⟩ => ⟨b_, h1_, Nat.le_trans ((bt (bt hb_2 hb_7) hb_11)).size h2_⟩⟩
 refine XA_run (fuel' := 24) [1, 2, 3, 4, 5] [(9, .eq bF), (13, .eq (i6 ((xs.length : Int) - 1)))] [bF, bF, .slice A xs.length c, i6 (xs.length : Int), i6 ((xs.length : Int) - 1)] (tf 6 24) [(0, .slice A xs.length c), (3, pw w.heap.size 0), (5, i6 (xs.length : Int)), (10, bF), (11, .slice A xs.length c), (13, i6 ((xs.length : Int) - 1))] [Value.bool ((xs.length : Int) == 0) = bF, i6 (IntKind.i64.wrap ((xs.length : Int) - 1)) = i6 ((xs.length : Int) - 1)] ⟨congrArg Value.bool (beq_eq_false_iff_ne.2 (c_9)), wr_i64 (by omega) (by omega), trivial⟩ ?_
 obtain ⟨ad_23, B_26, c_27, ha_24, hc_25, hl_28, hC_29⟩ := MixK.op (MixK.below hx (bt hb_2 hb_7)) (i := (xs.length : Int) - 1) (by omega) (by omega)
 replace hc_25 : CellsAt wd_6 (ad_23.add (((xs.length : Int) - 1).toNat * 7)) (o7L (xs.getD ((xs.length : Int) - 1).toNat op0) (.slice B_26 ((xs.getD ((xs.length : Int) - 1).toNat op0).attrs.length) c_27)) := hc_25
 replace hl_28 : (xs.getD ((xs.length : Int) - 1).toNat op0).attrs.length ≤ c_27 := hl_28
 replace hC_29 : kAttr.C W0 B_26 ((xs.getD ((xs.length : Int) - 1).toNat op0).attrs.length) (xs.getD ((xs.length : Int) - 1).toNat op0).attrs := hC_29
 refine XA_run (fuel' := 19) [6, 7, 8, 9, 10] [(14, .idx ad_23), (16, .load (i6 ((xs.getD ((xs.length : Int) - 1).toNat op0).kind))), (18, .load (i6 o.kind))] [.pointer (some (ad_23.add (((xs.length : Int) - 1).toNat * 7))), .pointer (some (ad_23.add (((xs.length : Int) - 1).toNat * 7))), i6 ((xs.getD ((xs.length : Int) - 1).toNat op0).kind), pw w.heap.size 0, i6 o.kind] (tf 11 19) [(0, .slice A xs.length c), (3, pw w.heap.size 0), (5, i6 (xs.length : Int)), (10, bF), (16, i6 ((xs.getD ((xs.length : Int) - 1).toNat op0).kind)), (18, i6 o.kind)] [A = some ad_23, (0 : Int) ≤ (xs.length : Int) - 1, (xs.length : Int) - 1 < (xs.length : Int), la 3 (ad_23.add (((xs.length : Int) - 1).toNat * 7)) (i6 ((xs.getD ((xs.length : Int) - 1).toNat op0).kind)) wd_6, la 3 (⟨w.heap.size, 0, none⟩) (i6 o.kind) wd_6] ⟨ha_24, (by omega), (by omega), loads1 rfl (elem_cell hc_25 0 _ rfl), loads1 rfl (Blk.cell (Blk.below hk_3 hb_7) 0 _ rfl), trivial⟩ ?_
 by_cases c_30 : (xs.getD ((xs.length : Int) - 1).toNat op0).kind = o.kind
 ·refine XA_run (fuel' := 14) [11, 12, 13, 14, 15] [(19, .eq bF), (23, .load (i6 o.kind))] [bF, bF, bF, pw w.heap.size 0, i6 o.kind] (tf 16 14) [(0, .slice A xs.length c), (3, pw w.heap.size 0), (5, i6 (xs.length : Int)), (21, bF), (23, i6 o.kind)] [Value.bool ((xs.getD ((xs.length : Int) - 1).toNat op0).kind != o.kind) = bF, la 3 (⟨w.heap.size, 0, none⟩) (i6 o.kind) wd_6] ⟨congrArg Value.bool (bneF (c_30)), loads1 rfl (Blk.cell (Blk.below hk_3 hb_7) 0 _ rfl), trivial⟩ ?_
  by_cases c_31 : o.kind = 2
  ·refine XA_run (fuel' := 3) [16, 17, 18, 19, 20, 21, 22, 23, 24, 25, 26] [(24, .eq bT)] [bT, bT, bT, undef, undef, undef, undef, undef, undef, undef, undef] (tf 27 3) [(0, .slice A xs.length c), (3, pw w.heap.size 0), (5, i6 (xs.length : Int)), (26, bT), (32, undef), (34, undef)] [Value.bool (o.kind == 2) = bT] ⟨congrArg Value.bool (beq_iff_eq.2 (c_31)), trivial⟩ ?_
   refine XA_pure (fuel' := 2) [27] [] [undef] (tf 28 2) [(0, .slice A xs.length c), (3, pw w.heap.size 0), (5, i6 (xs.length : Int)), (26, bT), (35, undef)] (fun w_ => []) (fun w_ => trivial) ?_
   refine XA_pure (fuel' := 0) [28, 29] [] [undef, bT] (tf 30 0) [(0, .slice A xs.length c), (3, pw w.heap.size 0), (5, i6 (xs.length : Int)), (37, bT)] (fun w_ => []) (fun w_ => trivial) ?_
   refine XA_done (by kernel_rfl) ?_
   refine ct (sg (xwe 3 [(39, .load (.agg (o7A o (.slice D o.attrs.length d))))] [(38, .slice A xs.length c), (40, .slice (some ⟨wd_6.heap.size, 0, none⟩) 1 1)] (wd_6.alloc (.cells (o7A o (.slice D o.attrs.length d)) 102)) [la 102 (⟨w.heap.size, 0, none⟩) (.agg (o7A o (.slice D o.attrs.length d))) wd_6] ⟨loadsB rfl rfl (Blk.below hk_3 hb_7) 0 ⟨by kernel_rfl, by kernel_rfl⟩, trivial⟩ ?_))
   obtain ⟨w_32, hw_36, hb_33, hk_34, hz_35⟩ := new_world wd_6 (o7A o (.slice D o.attrs.length d)) 102
   rw [hw_36]
   have hR_37 := Kd.R_litB (kRaw 7) (W := wd_6) (e := 102) (cs := (o7A o (.slice D o.attrs.length d))) [(o7L o (.slice D o.attrs.length d))] hk_34 (rawL1 _ rfl (by kernel_rfl)) (Nat.le_of_ble_eq_true (by kernel_rfl))
   refine XL_appendMixH (d := kOp) (W0 := W0) (B := bs) (c' := 1) (m := 1) op0 rfl rfl rfl 102 (.agg #[i6 0, s0, i6 0, i6 0, s0, i6 0, .slice none 0 0]) 88 Tryz.underlying22 info102 rfl (by decide) (by omega) xs [o] [(o7L o (.slice D o.attrs.length d))] (by kernel_rfl) (MixK.below hx (bt (bt hb_2 hb_7) hb_33)) (Kd.R_C hR_37) rfl (fun i_ hi_ => by have h_ : i_ = 0 := (by omega); subst h_; exact kOp_K_of (x := o) hDl hD) (Nat.le_trans hB ((bt (bt hb_2 hb_7) hb_33)).size) (by omega) ?_
   intro A_38 c_39 w_40 hm_41 hg_42 hl_43 hat_44
   refine xe0 1 [(4, .slice A_38 ((xs ++ [o]).length) c_39)] ?_
   refine nl (X_ret (rj [.slice A_38 ((xs ++ [o]).length) c_39] hR_ ?_))
   rw [push_out (xs := xs) (o := o) (by first | exact .inl (by omega) | exact .inr (fun h_ => by obtain ⟨h1_, h2_, h3_⟩ := h_; first | omega | simp_all))]
   exact ⟨_, _, rfl, hm_41, (World.grownBy.trans (grown_of_below (bt (bt hb_2 hb_7) hb_33) _) hg_42), hat_44.imp_right fun ⟨b_, h1_, h2_⟩ => ⟨b_, h1_, Nat.le_trans ((bt (bt hb_2 hb_7) hb_33)).size h2_⟩⟩
  refine XA_run (fuel' := 8) [16, 17, 18, 19, 20, 21] [(24, .eq bF), (29, .eq (i6 ((xs.length : Int) - 1)))] [bF, bF, bF, .slice A xs.length c, i6 (xs.length : Int), i6 ((xs.length : Int) - 1)] (tf 22 8) [(0, .slice A xs.length c), (3, pw w.heap.size 0), (5, i6 (xs.length : Int)), (26, bF), (27, .slice A xs.length c), (29, i6 ((xs.length : Int) - 1))] [Value.bool (o.kind == 2) = bF, i6 (IntKind.i64.wrap ((xs.length : Int) - 1)) = i6 ((xs.length : Int) - 1)] ⟨congrArg Value.bool (beq_eq_false_iff_ne.2 (c_31)), wr_i64 (by omega) (by omega), trivial⟩ ?_
  obtain ⟨ad_45, B_48, c_49, ha_46, hc_47, hl_50, hC_51⟩ := MixK.op (MixK.below hx (bt hb_2 hb_7)) (i := (xs.length : Int) - 1) (by omega) (by omega)
  replace hc_47 : CellsAt wd_6 (ad_45.add (((xs.length : Int) - 1).toNat * 7)) (o7L (xs.getD ((xs.length : Int) - 1).toNat op0) (.slice B_48 ((xs.getD ((xs.length : Int) - 1).toNat op0).attrs.length) c_49)) := hc_47
  replace hl_50 : (xs.getD ((xs.length : Int) - 1).toNat op0).attrs.length ≤ c_49 := hl_50
  replace hC_51 : kAttr.C W0 B_48 ((xs.getD ((xs.length : Int) - 1).toNat op0).attrs.length) (xs.getD ((xs.length : Int) - 1).toNat op0).attrs := hC_51
  refine XA_run (fuel' := 3) [22, 23, 24, 25, 26] [(30, .idx ad_45), (32, .load (.slice B_48 ((xs.getD ((xs.length : Int) - 1).toNat op0).attrs.length) c_49)), (34, .load (.slice D o.attrs.length d))] [.pointer (some (ad_45.add (((xs.length : Int) - 1).toNat * 7))), .pointer (some ((ad_45.add (((xs.length : Int) - 1).toNat * 7)).add 6)), .slice B_48 ((xs.getD ((xs.length : Int) - 1).toNat op0).attrs.length) c_49, pw w.heap.size 6, .slice D o.attrs.length d] (tf 27 3) [(0, .slice A xs.length c), (3, pw w.heap.size 0), (5, i6 (xs.length : Int)), (26, bF), (32, .slice B_48 ((xs.getD ((xs.length : Int) - 1).toNat op0).attrs.length) c_49), (34, .slice D o.attrs.length d)] [A = some ad_45, (0 : Int) ≤ (xs.length : Int) - 1, (xs.length : Int) - 1 < (xs.length : Int), la 49 ((ad_45.add (((xs.length : Int) - 1).toNat * 7)).add 6) (.slice B_48 ((xs.getD ((xs.length : Int) - 1).toNat op0).attrs.length) c_49) wd_6, la 49 (⟨w.heap.size, 6, none⟩) (.slice D o.attrs.length d) wd_6] ⟨ha_46, (by omega), (by omega), loads1 rfl (elem_cell hc_47 6 _ rfl), loads1 rfl (Blk.cell (Blk.below hk_3 hb_7) 6 _ rfl), trivial⟩ ?_
  refine XA_act (fuel' := 2) 27 (tf 28 2) _ rfl (by kernel_rfl) rfl (by kernel_rfl) rfl ?_
  refine xc 98 ent98 [.slice B_48 ((xs.getD ((xs.length : Int) - 1).toNat op0).attrs.length) c_49, .slice D o.attrs.length d] (refSame_any _ _ _ _ ((xs.getD ((xs.length : Int) - 1).toNat op0).attrs) o.attrs _ (Kd.C_below hC_51 (bt (bt hW hb_2) hb_7)) (Kd.C_below hD (bt (bt hW hb_2) hb_7))) ?_
  rintro e w_52 ⟨rfl, hb_53⟩; refine ⟨_, rfl, ?_⟩
  refine nl ?_
  by_cases c_54 : decide ((xs.getD ((xs.length : Int) - 1).toNat op0).attrs = o.attrs) = true
  ·rw [show (decide ((xs.getD ((xs.length : Int) - 1).toNat op0).attrs = o.attrs) : Bool) = true from by simpa using c_54]
   refine XA_pure (fuel' := 0) [28, 29] [] [bF, bF] (tf 30 0) [(0, .slice A xs.length c), (3, pw w.heap.size 0), (5, i6 (xs.length : Int)), (37, bF)] (fun w_ => []) (fun w_ => trivial) ?_
   refine XA_done (by kernel_rfl) ?_
   refine cf (sk (sq (X_any [11] 12 (tf 0 12) (by kernel_rfl) (by kernel_rfl) (by kernel_rfl) (fun wd_55 hb_56 hh_57 => ?_))))
   refine XA_run (fuel' := 9) [0, 1, 2] [(44, .eq (i6 ((xs.length : Int) - 1)))] [.slice A xs.length c, i6 (xs.length : Int), i6 ((xs.length : Int) - 1)] (tf 3 9) [(0, .slice A xs.length c), (3, pw w.heap.size 0), (5, i6 (xs.length : Int)), (42, .slice A xs.length c), (44, i6 ((xs.length : Int) - 1))] [i6 (IntKind.i64.wrap ((xs.length : Int) - 1)) = i6 ((xs.length : Int) - 1)] ⟨wr_i64 (by omega) (by omega), trivial⟩ ?_
   obtain ⟨ad_58, B_61, c_62, ha_59, hc_60, hl_63, hC_64⟩ := MixK.op (MixK.below hx (bt (bt (bt hb_2 hb_7) hb_53) hb_56)) (i := (xs.length : Int) - 1) (by omega) (by omega)
   replace hc_60 : CellsAt wd_55 (ad_58.add (((xs.length : Int) - 1).toNat * 7)) (o7L (xs.getD ((xs.length : Int) - 1).toNat op0) (.slice B_61 ((xs.getD ((xs.length : Int) - 1).toNat op0).attrs.length) c_62)) := hc_60
   replace hl_63 : (xs.getD ((xs.length : Int) - 1).toNat op0).attrs.length ≤ c_62 := hl_63
   replace hC_64 : kAttr.C W0 B_61 ((xs.getD ((xs.length : Int) - 1).toNat op0).attrs.length) (xs.getD ((xs.length : Int) - 1).toNat op0).attrs := hC_64
   refine XA_run (fuel' := 3) [3, 4, 5, 6, 7, 8] [(45, .idx ad_58), (47, .load (sT ((xs.getD ((xs.length : Int) - 1).toNat op0).text))), (49, .load (sT o.text)), (50, .as (sT (((xs.getD ((xs.length : Int) - 1).toNat op0).text) ++ o.text)))] [.pointer (some (ad_58.add (((xs.length : Int) - 1).toNat * 7))), .pointer (some ((ad_58.add (((xs.length : Int) - 1).toNat * 7)).add 1)), sT ((xs.getD ((xs.length : Int) - 1).toNat op0).text), pw w.heap.size 1, sT o.text, sT (((xs.getD ((xs.length : Int) - 1).toNat op0).text) ++ o.text)] (tf 9 3) [(0, .slice A xs.length c), (3, pw w.heap.size 0), (5, i6 (xs.length : Int)), (42, .slice A xs.length c), (44, i6 ((xs.length : Int) - 1)), (50, sT (((xs.getD ((xs.length : Int) - 1).toNat op0).text) ++ o.text))] [A = some ad_58, (0 : Int) ≤ (xs.length : Int) - 1, (xs.length : Int) - 1 < (xs.length : Int), la 9 ((ad_58.add (((xs.length : Int) - 1).toNat * 7)).add 1) (sT ((xs.getD ((xs.length : Int) - 1).toNat op0).text)) wd_55, la 9 (⟨w.heap.size, 1, none⟩) (sT o.text) wd_55, RunsAs Tryz.prog [(47, sT ((xs.getD ((xs.length : Int) - 1).toNat op0).text)), (49, sT o.text)] (Go.Op.binOp Go.BinOp.add 9 (Go.Operand.tmp 47) (Go.Operand.tmp 49) 9) 9 (sT (((xs.getD ((xs.length : Int) - 1).toNat op0).text) ++ o.text)) wd_55] ⟨ha_59, (by omega), (by omega), loads1 rfl (elem_cell hc_60 1 _ rfl), loads1 rfl (Blk.cell (Blk.below hk_3 (bt (bt hb_7 hb_53) hb_56)) 1 _ rfl), runs_bin rfl rfl rfl (run_sadd (by omega)), trivial⟩ ?_
   obtain ⟨ad_65, B_68, c_69, ha_66, hc_67, hl_70, hC_71⟩ := MixK.op (MixK.below hx (bt (bt (bt hb_2 hb_7) hb_53) hb_56)) (i := (xs.length : Int) - 1) (by omega) (by omega)
   replace hc_67 : CellsAt wd_55 (ad_65.add (((xs.length : Int) - 1).toNat * 7)) (o7L (xs.getD ((xs.length : Int) - 1).toNat op0) (.slice B_68 ((xs.getD ((xs.length : Int) - 1).toNat op0).attrs.length) c_69)) := hc_67
   replace hl_70 : (xs.getD ((xs.length : Int) - 1).toNat op0).attrs.length ≤ c_69 := hl_70
   replace hC_71 : kAttr.C W0 B_68 ((xs.getD ((xs.length : Int) - 1).toNat op0).attrs.length) (xs.getD ((xs.length : Int) - 1).toNat op0).attrs := hC_71
   refine XA_run (fuel' := 1) [9, 10] [(51, .idx ad_65)] [.pointer (some (ad_65.add (((xs.length : Int) - 1).toNat * 7))), .pointer (some ((ad_65.add (((xs.length : Int) - 1).toNat * 7)).add 1))] (tf 11 1) [(0, .slice A xs.length c), (3, pw w.heap.size 0), (5, i6 (xs.length : Int)), (50, sT (((xs.getD ((xs.length : Int) - 1).toNat op0).text) ++ o.text)), (52, .pointer (some ((ad_65.add (((xs.length : Int) - 1).toNat * 7)).add 1)))] [A = some ad_65, (0 : Int) ≤ (xs.length : Int) - 1, (xs.length : Int) - 1 < (xs.length : Int)] ⟨ha_66, (by omega), (by omega), trivial⟩ ?_
   refine XA_act (fuel' := 0) 11 (tf 12 0) _ rfl (by kernel_rfl) rfl (by kernel_rfl) rfl ?_
   refine XL_mixText rfl rfl rfl (i := ((xs.length : Int) - 1)) (((xs.getD ((xs.length : Int) - 1).toNat op0).text) ++ o.text) (by kernel_rfl) ha_66 (MixK.below hx (bt (bt (bt hb_2 hb_7) hb_53) hb_56)) (by omega) (by omega) (by kernel_rfl) (fun w_72 hm_73 hg_74 hl_75 => ?_)
   have hk_76 := Blk.off (Blk.below hk_3 (bt (bt hb_7 hb_53) hb_56)) hg_74 (fun x_ e_ => Nat.ne_of_lt (Nat.lt_of_lt_of_le (MixK.lt hx x_ e_) (Nat.le_refl _)))
   refine nl (XA_done (by kernel_rfl) ?_)
   refine sq (X_any [11] 12 (tf 0 12) (by kernel_rfl) (by kernel_rfl) (by kernel_rfl) (fun wd_77 hb_78 hh_79 => ?_))
   have hcs2 : ((xs.set ((xs.length : Int) - 1).toNat (setT (xs.getD ((xs.length : Int) - 1).toNat op0) (((xs.getD ((xs.length : Int) - 1).toNat op0).text) ++ o.text))).getD ((xs.length : Int) - 1).toNat op0).count = (xs.getD ((xs.length : Int) - 1).toNat op0).count := by rw [List.getD_eq_getElem?_getD, List.getElem?_set_self (by omega)]; rfl
   refine XA_run (fuel' := 9) [0, 1, 2] [(55, .eq (i6 ((xs.length : Int) - 1)))] [.slice A xs.length c, i6 (xs.length : Int), i6 ((xs.length : Int) - 1)] (tf 3 9) [(0, .slice A xs.length c), (3, pw w.heap.size 0), (53, .slice A xs.length c), (55, i6 ((xs.length : Int) - 1))] [i6 (IntKind.i64.wrap ((xs.length : Int) - 1)) = i6 ((xs.length : Int) - 1)] ⟨wr_i64 (by omega) (by omega), trivial⟩ ?_
   obtain ⟨ad_80, B_83, c_84, ha_81, hc_82, hl_85, hC_86⟩ := MixK.op (MixK.below hm_73 hb_78) (i := (xs.length : Int) - 1) (by omega) (by omega)
   replace hc_82 : CellsAt wd_77 (ad_80.add (((xs.length : Int) - 1).toNat * 7)) [i6 (((xs.set ((xs.length : Int) - 1).toNat (setT (xs.getD ((xs.length : Int) - 1).toNat op0) (((xs.getD ((xs.length : Int) - 1).toNat op0).text) ++ o.text))).getD ((xs.length : Int) - 1).toNat op0).kind), sT (((xs.set ((xs.length : Int) - 1).toNat (setT (xs.getD ((xs.length : Int) - 1).toNat op0) (((xs.getD ((xs.length : Int) - 1).toNat op0).text) ++ o.text))).getD ((xs.length : Int) - 1).toNat op0).text), i6 (((xs.set ((xs.length : Int) - 1).toNat (setT (xs.getD ((xs.length : Int) - 1).toNat op0) (((xs.getD ((xs.length : Int) - 1).toNat op0).text) ++ o.text))).getD ((xs.length : Int) - 1).toNat op0).vk), i6 (((xs.set ((xs.length : Int) - 1).toNat (setT (xs.getD ((xs.length : Int) - 1).toNat op0) (((xs.getD ((xs.length : Int) - 1).toNat op0).text) ++ o.text))).getD ((xs.length : Int) - 1).toNat op0).vn), sT (((xs.set ((xs.length : Int) - 1).toNat (setT (xs.getD ((xs.length : Int) - 1).toNat op0) (((xs.getD ((xs.length : Int) - 1).toNat op0).text) ++ o.text))).getD ((xs.length : Int) - 1).toNat op0).vt), i6 (((xs.set ((xs.length : Int) - 1).toNat (setT (xs.getD ((xs.length : Int) - 1).toNat op0) (((xs.getD ((xs.length : Int) - 1).toNat op0).text) ++ o.text))).getD ((xs.length : Int) - 1).toNat op0).count), .slice B_83 (((xs.set ((xs.length : Int) - 1).toNat (setT (xs.getD ((xs.length : Int) - 1).toNat op0) (((xs.getD ((xs.length : Int) - 1).toNat op0).text) ++ o.text))).getD ((xs.length : Int) - 1).toNat op0).attrs.length) c_84] := hc_82
   replace hl_85 : ((xs.set ((xs.length : Int) - 1).toNat (setT (xs.getD ((xs.length : Int) - 1).toNat op0) (((xs.getD ((xs.length : Int) - 1).toNat op0).text) ++ o.text))).getD ((xs.length : Int) - 1).toNat op0).attrs.length ≤ c_84 := hl_85
   replace hC_86 : kAttr.C W0 B_83 (((xs.set ((xs.length : Int) - 1).toNat (setT (xs.getD ((xs.length : Int) - 1).toNat op0) (((xs.getD ((xs.length : Int) - 1).toNat op0).text) ++ o.text))).getD ((xs.length : Int) - 1).toNat op0).attrs.length) ((xs.set ((xs.length : Int) - 1).toNat (setT (xs.getD ((xs.length : Int) - 1).toNat op0) (((xs.getD ((xs.length : Int) - 1).toNat op0).text) ++ o.text))).getD ((xs.length : Int) - 1).toNat op0).attrs := hC_86
   refine XA_run (fuel' := 3) [3, 4, 5, 6, 7, 8] [(56, .idx ad_80), (58, .load (i6 (((xs.set ((xs.length : Int) - 1).toNat (setT (xs.getD ((xs.length : Int) - 1).toNat op0) (((xs.getD ((xs.length : Int) - 1).toNat op0).text) ++ o.text))).getD ((xs.length : Int) - 1).toNat op0).count))), (60, .load (i6 o.count)), (61, .eq (i6 ((((xs.set ((xs.length : Int) - 1).toNat (setT (xs.getD ((xs.length : Int) - 1).toNat op0) (((xs.getD ((xs.length : Int) - 1).toNat op0).text) ++ o.text))).getD ((xs.length : Int) - 1).toNat op0).count) + o.count)))] [.pointer (some (ad_80.add (((xs.length : Int) - 1).toNat * 7))), .pointer (some ((ad_80.add (((xs.length : Int) - 1).toNat * 7)).add 5)), i6 (((xs.set ((xs.length : Int) - 1).toNat (setT (xs.getD ((xs.length : Int) - 1).toNat op0) (((xs.getD ((xs.length : Int) - 1).toNat op0).text) ++ o.text))).getD ((xs.length : Int) - 1).toNat op0).count), pw w.heap.size 5, i6 o.count, i6 ((((xs.set ((xs.length : Int) - 1).toNat (setT (xs.getD ((xs.length : Int) - 1).toNat op0) (((xs.getD ((xs.length : Int) - 1).toNat op0).text) ++ o.text))).getD ((xs.length : Int) - 1).toNat op0).count) + o.count)] (tf 9 3) [(0, .slice A xs.length c), (53, .slice A xs.length c), (55, i6 ((xs.length : Int) - 1)), (61, i6 ((((xs.set ((xs.length : Int) - 1).toNat (setT (xs.getD ((xs.length : Int) - 1).toNat op0) (((xs.getD ((xs.length : Int) - 1).toNat op0).text) ++ o.text))).getD ((xs.length : Int) - 1).toNat op0).count) + o.count))] [A = some ad_80, (0 : Int) ≤ (xs.length : Int) - 1, (xs.length : Int) - 1 < (xs.length : Int), la 3 ((ad_80.add (((xs.length : Int) - 1).toNat * 7)).add 5) (i6 (((xs.set ((xs.length : Int) - 1).toNat (setT (xs.getD ((xs.length : Int) - 1).toNat op0) (((xs.getD ((xs.length : Int) - 1).toNat op0).text) ++ o.text))).getD ((xs.length : Int) - 1).toNat op0).count)) wd_77, la 3 (⟨w.heap.size, 5, none⟩) (i6 o.count) wd_77, i6 (IntKind.i64.wrap ((((xs.set ((xs.length : Int) - 1).toNat (setT (xs.getD ((xs.length : Int) - 1).toNat op0) (((xs.getD ((xs.length : Int) - 1).toNat op0).text) ++ o.text))).getD ((xs.length : Int) - 1).toNat op0).count) + o.count)) = i6 ((((xs.set ((xs.length : Int) - 1).toNat (setT (xs.getD ((xs.length : Int) - 1).toNat op0) (((xs.getD ((xs.length : Int) - 1).toNat op0).text) ++ o.text))).getD ((xs.length : Int) - 1).toNat op0).count) + o.count)] ⟨ha_81, (by omega), (by omega), loads1 rfl (elem_cell hc_82 5 _ rfl), loads1 rfl (Blk.cell (Blk.below hk_76 hb_78) 5 _ rfl), wr_i64 (by omega) (by omega), trivial⟩ ?_
   obtain ⟨ad_87, B_90, c_91, ha_88, hc_89, hl_92, hC_93⟩ := MixK.op (MixK.below hm_73 hb_78) (i := (xs.length : Int) - 1) (by omega) (by omega)
   replace hc_89 : CellsAt wd_77 (ad_87.add (((xs.length : Int) - 1).toNat * 7)) [i6 (((xs.set ((xs.length : Int) - 1).toNat (setT (xs.getD ((xs.length : Int) - 1).toNat op0) (((xs.getD ((xs.length : Int) - 1).toNat op0).text) ++ o.text))).getD ((xs.length : Int) - 1).toNat op0).kind), sT (((xs.set ((xs.length : Int) - 1).toNat (setT (xs.getD ((xs.length : Int) - 1).toNat op0) (((xs.getD ((xs.length : Int) - 1).toNat op0).text) ++ o.text))).getD ((xs.length : Int) - 1).toNat op0).text), i6 (((xs.set ((xs.length : Int) - 1).toNat (setT (xs.getD ((xs.length : Int) - 1).toNat op0) (((xs.getD ((xs.length : Int) - 1).toNat op0).text) ++ o.text))).getD ((xs.length : Int) - 1).toNat op0).vk), i6 (((xs.set ((xs.length : Int) - 1).toNat (setT (xs.getD ((xs.length : Int) - 1).toNat op0) (((xs.getD ((xs.length : Int) - 1).toNat op0).text) ++ o.text))).getD ((xs.length : Int) - 1).toNat op0).vn), sT (((xs.set ((xs.length : Int) - 1).toNat (setT (xs.getD ((xs.length : Int) - 1).toNat op0) (((xs.getD ((xs.length : Int) - 1).toNat op0).text) ++ o.text))).getD ((xs.length : Int) - 1).toNat op0).vt), i6 (((xs.set ((xs.length : Int) - 1).toNat (setT (xs.getD ((xs.length : Int) - 1).toNat op0) (((xs.getD ((xs.length : Int) - 1).toNat op0).text) ++ o.text))).getD ((xs.length : Int) - 1).toNat op0).count), .slice B_90 (((xs.set ((xs.length : Int) - 1).toNat (setT (xs.getD ((xs.length : Int) - 1).toNat op0) (((xs.getD ((xs.length : Int) - 1).toNat op0).text) ++ o.text))).getD ((xs.length : Int) - 1).toNat op0).attrs.length) c_91] := hc_89
   replace hl_92 : ((xs.set ((xs.length : Int) - 1).toNat (setT (xs.getD ((xs.length : Int) - 1).toNat op0) (((xs.getD ((xs.length : Int) - 1).toNat op0).text) ++ o.text))).getD ((xs.length : Int) - 1).toNat op0).attrs.length ≤ c_91 := hl_92
   replace hC_93 : kAttr.C W0 B_90 (((xs.set ((xs.length : Int) - 1).toNat (setT (xs.getD ((xs.length : Int) - 1).toNat op0) (((xs.getD ((xs.length : Int) - 1).toNat op0).text) ++ o.text))).getD ((xs.length : Int) - 1).toNat op0).attrs.length) ((xs.set ((xs.length : Int) - 1).toNat (setT (xs.getD ((xs.length : Int) - 1).toNat op0) (((xs.getD ((xs.length : Int) - 1).toNat op0).text) ++ o.text))).getD ((xs.length : Int) - 1).toNat op0).attrs := hC_93
   refine XA_run (fuel' := 1) [9, 10] [(62, .idx ad_87)] [.pointer (some (ad_87.add (((xs.length : Int) - 1).toNat * 7))), .pointer (some ((ad_87.add (((xs.length : Int) - 1).toNat * 7)).add 5))] (tf 11 1) [(0, .slice A xs.length c), (61, i6 ((((xs.set ((xs.length : Int) - 1).toNat (setT (xs.getD ((xs.length : Int) - 1).toNat op0) (((xs.getD ((xs.length : Int) - 1).toNat op0).text) ++ o.text))).getD ((xs.length : Int) - 1).toNat op0).count) + o.count)), (63, .pointer (some ((ad_87.add (((xs.length : Int) - 1).toNat * 7)).add 5)))] [A = some ad_87, (0 : Int) ≤ (xs.length : Int) - 1, (xs.length : Int) - 1 < (xs.length : Int)] ⟨ha_88, (by omega), (by omega), trivial⟩ ?_
   refine XA_act (fuel' := 0) 11 (tf 12 0) _ rfl (by kernel_rfl) rfl (by kernel_rfl) rfl ?_
   refine XL_mixCount rfl rfl rfl (i := ((xs.length : Int) - 1)) ((((xs.set ((xs.length : Int) - 1).toNat (setT (xs.getD ((xs.length : Int) - 1).toNat op0) (((xs.getD ((xs.length : Int) - 1).toNat op0).text) ++ o.text))).getD ((xs.length : Int) - 1).toNat op0).count) + o.count) (by kernel_rfl) ha_88 (MixK.below hm_73 hb_78) (by omega) (by omega) (by kernel_rfl) (fun w_94 hm_95 hg_96 hl_97 => ?_)
   refine nl (XA_done (by kernel_rfl) ?_)
   refine sg (xe0 2 [(4, .slice A xs.length c)] ?_)
   refine nl (X_ret (rj [.slice A xs.length c] hR_ ?_))
   have hpi := push_in (xs := xs) (o := o) (by omega) ⟨by omega, by omega, by first | (exact of_decide_eq_true (by assumption)) | assumption⟩
   rw [← hpi]
   exact ⟨A, c, by rw [List.length_set, List.length_set]; rfl, by simpa only [List.length_set] using hm_95, (World.grownBy.trans (World.grownBy.trans (World.grownBy.trans (grown_of_below (bt (bt (bt hb_2 hb_7) hb_53) hb_56) _) hg_74) (grown_of_below hb_78 _)) hg_96), .inl rfl⟩
  rw [show (decide ((xs.getD ((xs.length : Int) - 1).toNat op0).attrs = o.attrs) : Bool) = false from by simpa using c_54]
  refine XA_pure (fuel' := 0) [28, 29] [] [bT, bT] (tf 30 0) [(0, .slice A xs.length c), (3, pw w.heap.size 0), (5, i6 (xs.length : Int)), (37, bT)] (fun w_ => []) (fun w_ => trivial) ?_
  refine XA_done (by kernel_rfl) ?_
  refine ct (sg (xwe 3 [(39, .load (.agg (o7A o (.slice D o.attrs.length d))))] [(38, .slice A xs.length c), (40, .slice (some ⟨w_52.heap.size, 0, none⟩) 1 1)] (w_52.alloc (.cells (o7A o (.slice D o.attrs.length d)) 102)) [la 102 (⟨w.heap.size, 0, none⟩) (.agg (o7A o (.slice D o.attrs.length d))) w_52] ⟨loadsB rfl rfl (Blk.below hk_3 (bt hb_7 hb_53)) 0 ⟨by kernel_rfl, by kernel_rfl⟩, trivial⟩ ?_))
  obtain ⟨w_98, hw_102, hb_99, hk_100, hz_101⟩ := new_world w_52 (o7A o (.slice D o.attrs.length d)) 102
  rw [hw_102]
  have hR_103 := Kd.R_litB (kRaw 7) (W := w_52) (e := 102) (cs := (o7A o (.slice D o.attrs.length d))) [(o7L o (.slice D o.attrs.length d))] hk_100 (rawL1 _ rfl (by kernel_rfl)) (Nat.le_of_ble_eq_true (by kernel_rfl))
  refine XL_appendMixH (d := kOp) (W0 := W0) (B := bs) (c' := 1) (m := 1) op0 rfl rfl rfl 102 (.agg #[i6 0, s0, i6 0, i6 0, s0, i6 0, .slice none 0 0]) 88 Tryz.underlying22 info102 rfl (by decide) (by omega) xs [o] [(o7L o (.slice D o.attrs.length d))] (by kernel_rfl) (MixK.below hx (bt (bt (bt hb_2 hb_7) hb_53) hb_99)) (Kd.R_C hR_103) rfl (fun i_ hi_ => by have h_ : i_ = 0 := (by omega); subst h_; exact kOp_K_of (x := o) hDl hD) (Nat.le_trans hB ((bt (bt (bt hb_2 hb_7) hb_53) hb_99)).size) (by omega) ?_
  intro A_104 c_105 w_106 hm_107 hg_108 hl_109 hat_110
  refine xe0 1 [(4, .slice A_104 ((xs ++ [o]).length) c_105)] ?_
  refine nl (X_ret (rj [.slice A_104 ((xs ++ [o]).length) c_105] hR_ ?_))
  rw [push_out (xs := xs) (o := o) (by first | exact .inl (by omega) | exact .inr (fun h_ => by obtain ⟨h1_, h2_, h3_⟩ := h_; first | omega | simp_all))]
  exact ⟨_, _, rfl, hm_107, (World.grownBy.trans (grown_of_below (bt (bt (bt hb_2 hb_7) hb_53) hb_99) _) hg_108), hat_110.imp_right fun ⟨b_, h1_, h2_⟩ => ⟨b_, h1_, Nat.le_trans ((bt (bt (bt hb_2 hb_7) hb_53) hb_99)).size h2_⟩⟩
 refine XA_run (fuel' := 3) [11, 12, 13, 14, 15, 16, 17, 18, 19, 20, 21, 22, 23, 24, 25, 26] [(19, .eq bT)] [bT, bT, bT, undef, undef, undef, bT, bT, undef, undef, undef, undef, undef, undef, undef, undef] (tf 27 3) [(0, .slice A xs.length c), (3, pw w.heap.size 0), (5, i6 (xs.length : Int)), (26, bT), (32, undef), (34, undef)] [Value.bool ((xs.getD ((xs.length : Int) - 1).toNat op0).kind != o.kind) = bT] ⟨congrArg Value.bool (bneT (c_30)), trivial⟩ ?_
 refine XA_pure (fuel' := 2) [27] [] [undef] (tf 28 2) [(0, .slice A xs.length c), (3, pw w.heap.size 0), (5, i6 (xs.length : Int)), (26, bT), (35, undef)] (fun w_ => []) (fun w_ => trivial) ?_
 refine XA_pure (fuel' := 0) [28, 29] [] [undef, bT] (tf 30 0) [(0, .slice A xs.length c), (3, pw w.heap.size 0), (5, i6 (xs.length : Int)), (37, bT)] (fun w_ => []) (fun w_ => trivial) ?_
 refine XA_done (by kernel_rfl) ?_
 refine ct (sg (xwe 3 [(39, .load (.agg (o7A o (.slice D o.attrs.length d))))] [(38, .slice A xs.length c), (40, .slice (some ⟨wd_6.heap.size, 0, none⟩) 1 1)] (wd_6.alloc (.cells (o7A o (.slice D o.attrs.length d)) 102)) [la 102 (⟨w.heap.size, 0, none⟩) (.agg (o7A o (.slice D o.attrs.length d))) wd_6] ⟨loadsB rfl rfl (Blk.below hk_3 hb_7) 0 ⟨by kernel_rfl, by kernel_rfl⟩, trivial⟩ ?_))
 obtain ⟨w_111, hw_115, hb_112, hk_113, hz_114⟩ := new_world wd_6 (o7A o (.slice D o.attrs.length d)) 102
 rw [hw_115]
 have hR_116 := Kd.R_litB (kRaw 7) (W := wd_6) (e := 102) (cs := (o7A o (.slice D o.attrs.length d))) [(o7L o (.slice D o.attrs.length d))] hk_113 (rawL1 _ rfl (by kernel_rfl)) (Nat.le_of_ble_eq_true (by kernel_rfl))
 refine XL_appendMixH (d := kOp) (W0 := W0) (B := bs) (c' := 1) (m := 1) op0 rfl rfl rfl 102 (.agg #[i6 0, s0, i6 0, i6 0, s0, i6 0, .slice none 0 0]) 88 Tryz.underlying22 info102 rfl (by decide) (by omega) xs [o] [(o7L o (.slice D o.attrs.length d))] (by kernel_rfl) (MixK.below hx (bt (bt hb_2 hb_7) hb_112)) (Kd.R_C hR_116) rfl (fun i_ hi_ => by have h_ : i_ = 0 := (by omega); subst h_; exact kOp_K_of (x := o) hDl hD) (Nat.le_trans hB ((bt (bt hb_2 hb_7) hb_112)).size) (by omega) ?_
 intro A_117 c_118 w_119 hm_120 hg_121 hl_122 hat_123
 refine xe0 1 [(4, .slice A_117 ((xs ++ [o]).length) c_118)] ?_
 refine nl (X_ret (rj [.slice A_117 ((xs ++ [o]).length) c_118] hR_ ?_))
 rw [push_out (xs := xs) (o := o) (by first | exact .inl (by omega) | exact .inr (fun h_ => by obtain ⟨h1_, h2_, h3_⟩ := h_; first | omega | simp_all))]
 exact ⟨_, _, rfl, hm_120, (World.grownBy.trans (grown_of_below (bt (bt hb_2 hb_7) hb_112) _) hg_121), hat_123.imp_right fun ⟨b_, h1_, h2_⟩ => ⟨b_, h1_, Nat.le_trans ((bt (bt hb_2 hb_7) hb_112)).size h2_⟩⟩
end Go.Proofs.YtgphmfnkeolbcaaGreatDoor
