import Derived.Test.YtgphmfnkeolbcaaGreatDoorSpare
import Derived.Test.YtgphmfnkeolbcaaGreatDoorT2
import Derived.Test.YtgphmfnkeolbcaaGreatDoorO3
import Derived.Test.YtgphmfnkeolbcaaGreatDoorMk
import Derived.Test.YtgphmfnkeolbcaaGreatDoorAn2
import Derived.Test.YtgphmfnkeolbcaaGreatDoorBld
/- Cells as elements and as arguments. No condition. -/

set_option linter.unusedVariables false
set_option linter.unusedSimpArgs false
set_option maxRecDepth 100000
namespace Go.Proofs.YtgphmfnkeolbcaaGreatDoor.RX
open Go Go.RowKit Go.Proofs.YtgphmfnkeolbcaaGreatDoorW.PrintWords

structure CellA where
  rune : Int
  kind : ByteArray
  vk : Int
  vn : Int
  vt : ByteArray
  attrs : List At
def cell0 : CellA := ⟨0, ByteArray.empty, 0, 0, ByteArray.empty, []⟩
abbrev c6L (x : CellA) (v : Value) : List Value := [.int .i32 x.rune, .string x.kind, .int .i64 x.vk, .int .i64 x.vn, .string x.vt, v]
abbrev c6A (x : CellA) (v : Value) : Array Value := #[.int .i32 x.rune, .string x.kind, .int .i64 x.vk, .int .i64 x.vn, .string x.vt, v]
def CellA.tup (o : CellA) : Int × ByteArray × (Int × Int × ByteArray) × List At := (o.rune, o.kind, (o.vk, o.vn, o.vt), o.attrs)
def kCell : Kd CellA := Kd.comap CellA.tup (Kd.pair (Kd.int .i32) (Kd.pair Kd.string (Kd.pair (Kd.pair (Kd.int .i64) (Kd.pair (Kd.int .i64) Kd.string)) kAttrs)))
def cellV (x : CellA) (A : Option Addr) (c : Nat) : List Value := [.int .i32 x.rune, .string x.kind, .int .i64 x.vk, .int .i64 x.vn, .string x.vt, .slice A x.attrs.length c]
theorem kCell_K {w : World} {x : CellA} {cs : List Value} (h : kCell.K w x cs) : ∃ A c, cs = cellV x A c ∧ x.attrs.length ≤ c ∧ kAttr.C w A x.attrs.length x.attrs := by
  obtain ⟨_, _, rfl, rfl, _, _, rfl, rfl, _, _, rfl, ⟨_, _, rfl, rfl, _, _, rfl, rfl, rfl⟩, A, c, rfl, hl, hC⟩ := h
  exact ⟨A, c, rfl, hl, hC⟩
theorem Kd.atCell {w : World} {A : Option Addr} {n : Nat} {xs : List CellA} (h : kCell.C w A n xs) {i : Int} (h0 : 0 ≤ i) (h1 : i < n) : ∃ ad B c, A = some ad ∧ CellsAt w (ad.add (i.toNat * 6)) (cellV (xs.getD i.toNat cell0) B c) ∧ (xs.getD i.toNat cell0).attrs.length ≤ c ∧ kAttr.C w B (xs.getD i.toNat cell0).attrs.length (xs.getD i.toNat cell0).attrs := by
  obtain ⟨ad, cs, e, hK, hc⟩ := Kd.atC h cell0 h0 h1
  obtain ⟨B, c, rfl, hl, hC⟩ := kCell_K hK
  exact ⟨ad, B, c, e, hc, hl, hC⟩
theorem kCell_M {w : World} {base : Nat} {ok : Nat → Prop} {x : CellA} {B : Option Addr} {c : Nat} (h : kAttrs.M w base ok x.attrs [.slice B x.attrs.length c]) : kCell.M w base ok x (cellV x B c) :=
  ⟨[.int .i32 x.rune], _, rfl, rfl, [.string x.kind], _, rfl, rfl, [.int .i64 x.vk, .int .i64 x.vn, .string x.vt], _, rfl, ⟨[.int .i64 x.vk], _, rfl, rfl, [.int .i64 x.vn], _, rfl, rfl, rfl⟩, h⟩
theorem repsCell0 {w : World} {base : Nat} {ok : Nat → Prop} : Reps (kCell.M w base ok) 6 [] [] := Reps.none _ _
theorem Kd.R_iter {α : Type} {d : Kd α} {e : Nat} {w w1 : World} {base : Nat} {ok : Nat → Prop} {v : Value} {xs : List α} {g p : Nat} {s : ByteArray} (h : d.R e w base ok v xs) (hg : w.heap[g]? = some (.stringIter s p)) (k : w.grownBy w1 (some g)) : d.R e w1 base ok v xs := by
  have h2 := Kd.R_bound h
  refine Kd.R_mono (Kd.R_grown h2 k (fun j hj e1 => ?_)) (fun j hj => hj.1)
  obtain ⟨_, _, _, q, _, cells, hc⟩ := hj
  obtain rfl : j = g := by injection e1
  rw [hg] at hc
  cases hc
theorem Kd.iter_kept {α : Type} {d : Kd α} {e : Nat} {w w1 : World} {base : Nat} {ok : Nat → Prop} {A : Option Addr} {n c : Nat} {xs : List α} {g p : Nat} {s : ByteArray} (hg : w.heap[g]? = some (.stringIter s p)) (h : d.R e w base ok (.slice A n c) xs) (k : w.grownBy w1 (A.map (·.block))) : w1.heap[g]? = some (.stringIter s p) := by
  obtain ⟨_, _, _, _, hk⟩ := k
  refine (hk g (Array.getElem?_eq_some_iff.1 hg).1 fun e1 => ?_).trans hg
  obtain ⟨inner, ho⟩ := Kd.R_own h
  obtain ⟨cells, hc⟩ := own_typed ho g (by rw [ownB]; exact e1.symm)
  rw [hg] at hc
  cases hc
end Go.Proofs.YtgphmfnkeolbcaaGreatDoor.RX
set_option linter.unusedVariables false
set_option linter.unusedSimpArgs false
set_option maxRecDepth 100000
namespace Go.Proofs.YtgphmfnkeolbcaaGreatDoor
open Go Go.RowKit Go.Proofs.YtgphmfnkeolbcaaGreatDoorW.PrintWords RX
theorem ent200 : Ent Tryz.prog 200 := ent_of Tryz.func200 (by kernel_rfl) rfl
theorem info51 : (Tryz.prog.info? 51).map (fun i => (i.zero, i.size, i.bytes)) = some (some (.agg #[.int .i32 0, s0, i6 0, i6 0, s0, .slice none 0 0]), 6, 80) := by kernel_rfl
abbrev ErrsC (w : World) (es : List Addr) : Prop := ErrsOn [1, 5, 6, 7, 8, 9, 10] w es
theorem ErrsC.i {w : World} {es : List Addr} (h : ErrsC w es) : ErrsI w es := h.sub (by decide)
theorem refuse_val {o : OpA} (h : refuseP o = 0) (hk : o.kind = 2) : plainOk o.vk o.vn o.vt = true := by
 have h2 := (refuse_utf h).2.1 hk
 unfold plainErr at h2
 cases h3 : plainOk o.vk o.vn o.vt with
 | true => rfl
 | false => rw [if_pos h3] at h2; cases h2
theorem len4_1 {o : OpA} (h : o.kind = 1) : len4 o = ((U.sc o.text).length : Int) := if_neg (by omega)
def cellR (at4 : List At) (r : Nat) : CellA := ⟨(r : Int), ByteArray.empty, 0, 0, ByteArray.empty, at4⟩
noncomputable def cellsP (o : OpA) : List CellA := if o.kind = 2 then [⟨-1, o.text, o.vk, o.vn, o.vt, o.attrs⟩] else (U.sc o.text).map (cellR o.attrs)
noncomputable def cellsO (o : OpA) : List CellA := if refuseP o = 0 then cellsP o else []
theorem cellsP_1 {o : OpA} (h : o.kind = 1) : cellsP o = (U.sc o.text).map (cellR o.attrs) := if_neg (by omega)
theorem cellsP_2 {o : OpA} (h : o.kind = 2) : cellsP o = [⟨-1, o.text, o.vk, o.vn, o.vt, o.attrs⟩] := if_pos h
theorem cells_snoc (s : ByteArray) (at4 : List At) (i : Nat) (h : i < (U.sc s).length) : ((U.sc s).take i).map (cellR at4) ++ [cellR at4 ((U.sc s)[i])] = ((U.sc s).take (i + 1)).map (cellR at4) := by
 rw [take_snocD 0 (U.sc s) i h, List.map_append, List.getD_eq_getElem?_getD, List.getElem?_eq_getElem h]; rfl
set_option maxHeartbeats 4000000 in
theorem ccells_any (o : OpA) (A : Option Addr) (c : Nat) (w : World) (hA : kAttr.C w A o.attrs.length o.attrs) (hz : opSz o) (hT : Tabs w) (es : List Addr) (hE : ErrsC w es) : Calls Tryz.prog 200 #[.agg (o7A o (.slice A o.attrs.length c))] w fun e w' => ∃ A' c', e = .returned (.tuple #[.slice A' (cellsO o).length c', errV es (refuseP o)]) ∧ kCell.R 51 w' w.heap.size (OkFrom w.heap.size) (.slice A' (cellsO o).length c') (cellsO o) ∧ Below w.heap.size w w' := by
 have hz1 := hz.1
 have hz3 := hz.2.2.1
 have hscl := U.sc_le o.text
 refine en Tryz.func200 rfl 53 [(0, .agg (o7A o (aL A o.attrs c)))] (fun R_ hR_ => ?_)
 refine sg (xwe 1 [] [(1, pw w.heap.size 0)] (w.alloc (.cells (o7A o (aL A o.attrs c)) 102)) [] trivial ?_)
 obtain ⟨w_1, hw_5, hb_2, hk_3, hz_4⟩ := new_world w (o7A o (aL A o.attrs c)) 102
 rw [hw_5]
 refine xr0 2 [] [] ?_
 refine nl (sg (xe 1 [(12, .load (.agg (o7A o (aL A o.attrs c))))] [(12, .agg (o7A o (aL A o.attrs c)))] [la 102 (⟨w.heap.size, 0, none⟩) (.agg (o7A o (aL A o.attrs c))) w_1] ⟨loadsB rfl rfl hk_3 0 ⟨by kernel_rfl, by kernel_rfl⟩, trivial⟩ ?_))
 refine xc 213 ent213 [.agg (o7A o (aL A o.attrs c))] (cof_any o _ _ _ (Kd.C_below hA hb_2) hz (hT.below hb_2) es (hE.i.below hb_2)) ?_
 rintro e w_9 ⟨v_6, rfl, hM_7, hN_8, hb_10⟩; refine ⟨_, rfl, ?_⟩
 refine xe0 5 [(4, v_6), (5, errV es (refuseP o))] ?_
 refine nl (sq (sg (xr0 1 [(16, errV es (refuseP o))] [] ?_)))
 by_cases c_11 : (refuseP o) = 0
 ·rw [show errV es (refuseP o) = .nilIface from by rw [c_11]; rfl]
  refine xr0 1 [(5, .nilIface), (17, bF)] [16] ?_
  refine nl (cf (sk (sq (X_region ?_))))
  have hp_12 := hM_7 c_11
  rcases refuse_kind c_11 with hk_13 | hk_13
  ·rw [pOf_ins hk_13] at hp_12
   obtain ⟨A_14, c_15, e_16, hl_17, hC_18⟩ := kPiece_ins (kPiece.K_of_M hp_12)
   obtain rfl := (List.cons.inj e_16).1
   refine xe0 1 [(4, .iface 249 (.agg #[.slice A_14 o.attrs.length c_15, sT o.text, i6 ((U.sc o.text).length : Int)])), (6, .slice none 0 0)] ?_
   refine nl (sq (sg (xr0 1 [(19, .iface 249 (.agg #[.slice A_14 o.attrs.length c_15, sT o.text, i6 ((U.sc o.text).length : Int)]))] [4] ?_)))
   refine nl (bk (sg (xr0 3 [(21, bT), (22, .agg #[.slice A_14 o.attrs.length c_15, sT o.text, i6 ((U.sc o.text).length : Int)])] [] ?_)))
   refine nl (ct (sg (xw 1 [] [(7, pw w_9.heap.size 0)] [19, 21] (w_9.alloc (.cells #[.slice none 0 0, s0, i6 0] 249)) [] trivial ?_)))
   obtain ⟨w_19, hw_23, hb_20, hk_21, hz_22⟩ := new_world w_9 #[.slice none 0 0, s0, i6 0] 249
   rw [hw_23]
   refine xst (.agg #[.slice A_14 o.attrs.length c_15, sT o.text, i6 ((U.sc o.text).length : Int)]) hk_21 0 #[.slice A_14 o.attrs.length c_15, sT o.text, i6 ((U.sc o.text).length : Int)] (fun w_24 hg_25 hk_26 hz_27 => ?_)
   refine nl (sg (xr1 2 [(24, .load (sT o.text))] [(24, sT o.text)] [22] (lc 9 hk_26 1) ?_))
   refine XL_range (s := o.text) rfl rfl rfl Tryz.underlying9 rfl (fun w_28 hb_29 hi_30 => ?_)
   refine nl (X_block ?_)
   refine X_loop (ι := Nat × Option Addr × Nat × List CellA) (fun ⟨i, A6, c6, zs6⟩ => [(6, aL A6 zs6 c6), (7, pw w_9.heap.size 0), (25, pw w_24.heap.size 0)]) (fun ⟨i, A6, c6, zs6⟩ wl => i ≤ (U.sc o.text).length ∧ wl.heap[w_24.heap.size]? = some (.stringIter o.text (U.pl o.text i)) ∧ zs6 = ((U.sc o.text).take i).map (cellR o.attrs) ∧ kCell.R 51 wl w_24.heap.size (OkFrom w_24.heap.size) (aL A6 zs6 c6) zs6 ∧ Below w_24.heap.size w_24 wl) (fun ⟨i, A6, c6, zs6⟩ => (U.sc o.text).length - i) (0, none, 0, []) ⟨by omega, by rw [U.pl_zero]; exact hi_30, rfl, Kd.R_nil _ _ _ _ _, hb_29⟩ (by kernel_rfl) ?_
   rintro ⟨i, A6, c6, zs6⟩ wl ⟨hi, hit, he6, hr6, HB⟩
   have hzl : zs6.length = min i (U.sc o.text).length := by rw [he6, List.length_map, List.length_take]
   refine sg (XL_next (s := o.text) (g := w_24.heap.size) (pos := (U.pl o.text i)) rfl rfl rfl rfl hit ?_ ?_)
   ·intro hp_31 w_32 hg_33 hi_34
    have hr_35 := Kd.R_iter hr6 hit hg_33
    refine xr0 1 [(26, .tuple #[bT, i6 ((U.pl o.text i) : Int), .int .i32 ((Utf8.decode o.text (U.pl o.text i)).1 : Int)]), (27, bT)] [] ?_
    refine nl (sq (ct (sk (bk (sq (X_region ?_))))))
    have hlt := (U.pl_lt_iff (refuse_utf c_11).1 i hi).1 hp_31
    have hst := U.pl_step (refuse_utf c_11).1 i hlt
    have hdr : ((Utf8.decode o.text (U.pl o.text i)).1 : Int) = (((U.sc o.text)[i] : Nat) : Int) := by rw [hst.1]
    refine xr0 2 [(9, .int .i32 ((Utf8.decode o.text (U.pl o.text i)).1 : Int))] [26, 27] ?_
    refine nl (rg (xr 4 [(32, .load (.agg #[aL A_14 o.attrs c_15]))] [(29, aL A6 zs6 c6), (30, .int .i32 ((Utf8.decode o.text (U.pl o.text i)).1 : Int)), (32, .agg #[aL A_14 o.attrs c_15])] [6, 9] [la 126 (⟨w_9.heap.size, 0, none⟩) (.agg #[aL A_14 o.attrs c_15]) w_32] ⟨loadsB rfl rfl (Blk.below hk_26 (bg HB hg_33 (Nat.le_refl _))) 0 ⟨by kernel_rfl, by kernel_rfl⟩, trivial⟩ ?_))
    have hB_36 : Below w_9.heap.size w_9 w_32 := (bg (bt (bg hb_20 hg_25 (Nat.le_refl _)) HB) hg_33 ((bg hb_20 hg_25 (Nat.le_refl _))).size)
    refine xc 219 ent219 [.agg #[aL A_14 o.attrs c_15]] (attributes_any _ _ o.attrs _ (Kd.C_below hC_18 hB_36) (by omega)) ?_
    rintro e w_39 ⟨A_37, c_38, rfl, hl_41, hr_42, hb_40⟩; refine ⟨_, rfl, ?_⟩
    refine xw 2 [] [(35, .slice (some ⟨w_39.heap.size, 0, none⟩) 1 1)] [30, 32, 33] (w_39.alloc (.cells #[.int .i32 ((Utf8.decode o.text (U.pl o.text i)).1 : Int), s0, i6 0, i6 0, s0, aL A_37 o.attrs c_38] 51)) [] trivial ?_
    obtain ⟨w_43, hw_47, hb_44, hk_45, hz_46⟩ := new_world w_39 #[.int .i32 ((Utf8.decode o.text (U.pl o.text i)).1 : Int), s0, i6 0, i6 0, s0, aL A_37 o.attrs c_38] 51
    rw [hw_47]
    obtain ⟨okp_48, hM_49, hok_50⟩ := Kd.M_rowApart hr_42 ((bg HB hg_33 (Nat.le_refl _))).size (Kd.R_below hr_35 hb_40) (by decide)
    rw [← hw_47]
    refine XL_append kCell rfl rfl rfl w_24.heap.size 51 (.agg #[.int .i32 0, s0, i6 0, i6 0, s0, .slice none 0 0]) 80 Tryz.underlying39 info51 rfl (by decide) (by omega) zs6 (⟨((Utf8.decode o.text (U.pl o.text i)).1 : Int), ByteArray.empty, 0, 0, ByteArray.empty, o.attrs⟩ : CellA) [.int .i32 ((Utf8.decode o.text (U.pl o.text i)).1 : Int), s0, i6 0, i6 0, s0, aL A_37 o.attrs c_38] okp_48 (by kernel_rfl) (kCell_M (x := (⟨((Utf8.decode o.text (U.pl o.text i)).1 : Int), ByteArray.empty, 0, 0, ByteArray.empty, o.attrs⟩ : CellA)) hM_49) hok_50 (Kd.R_below hr_35 hb_40) ((bt (bg HB hg_33 (Nat.le_refl _)) hb_40)).size (by first | omega | (simp; omega)) ?_
    intro A_51 c_52 w_53 hr_54 hc_55 hg_56 hl_57 ha_58
    have hi_60 := Kd.iter_kept ((hb_40.block _ (Array.getElem?_eq_some_iff.1 hi_34).1).trans hi_34) (Kd.R_below hr_35 hb_40) hg_56
    refine xr0 1 [(6, aL A_51 (zs6 ++ [(⟨((Utf8.decode o.text (U.pl o.text i)).1 : Int), ByteArray.empty, 0, 0, ByteArray.empty, o.attrs⟩ : CellA)]) c_52)] [29, 35, 36] ?_
    refine nl ?_
    have hB_61 : Below w_24.heap.size w_24 w_53 := (bgo (bt (bg HB hg_33 (Nat.le_refl _)) hb_40) hg_56 hl_57 (Nat.le_refl _))
    refine ⟨(i + 1, A_51, c_52, (zs6 ++ [(⟨((Utf8.decode o.text (U.pl o.text i)).1 : Int), ByteArray.empty, 0, 0, ByteArray.empty, o.attrs⟩ : CellA)])), by kernel_rfl, ?_, ?_⟩
    ·have hdc : (Utf8.decode o.text (U.pl o.text i)).2 = (U.enc (U.sc o.text)[i]).length := by rw [hst.1]
     rw [hdc, ← hst.2.1] at hi_60
     exact ⟨by omega, hi_60, by rw [hdr, he6]; exact cells_snoc o.text o.attrs i hlt, hr_54, hB_61⟩
    (try dsimp only); omega
   intro hp_62
   refine xr0 1 [(26, .tuple #[bF]), (27, bF)] [] ?_
   refine nl (sq (cf (X_exit (sg (xe0 3 [(2, aL A6 zs6 c6), (3, .nilIface)] ?_)))))
   refine nl (X_ret (rj [.slice A6 zs6.length c6, .nilIface] hR_ ?_))
   have hB_63 : Below w.heap.size w w_24 := (bg (bt (bt hb_2 hb_10) hb_20) hg_25 ((bt hb_2 hb_10)).size)
   have hend : i = (U.sc o.text).length := by have := mt (U.pl_lt_iff (refuse_utf c_11).1 i hi).2 hp_62; omega
   rw [hend, List.take_length] at he6
   rw [show cellsO o = zs6 from by rw [he6, ← cellsP_1 hk_13]; exact if_pos c_11, c_11]
   exact ⟨_, _, rfl, Kd.R_low hr6 (hB_63).size, (bt hB_63 HB)⟩
  rw [pOf_emb hk_13] at hp_12
  obtain ⟨A_64, c_65, e_66, hl_67, hC_68⟩ := kPiece_emb (kPiece.K_of_M hp_12)
  obtain rfl := (List.cons.inj e_66).1
  have hval : o.val = (o.vk, o.vn, o.vt) := rfl
  rw [hval] at hp_12 ⊢
  refine xe0 1 [(4, .iface 253 (.agg #[.slice A_64 o.attrs.length c_65, sT o.text, valV (o.vk, o.vn, o.vt)])), (6, .slice none 0 0)] ?_
  refine nl (sq (sg (xr0 1 [(19, .iface 253 (.agg #[.slice A_64 o.attrs.length c_65, sT o.text, valV (o.vk, o.vn, o.vt)]))] [4] ?_)))
  refine nl (bk (sg (xr0 3 [(21, bF), (22, .agg #[.slice none 0 0, s0, i6 0])] [] ?_)))
  refine nl (cf (sq (X_region ?_)))
  by_cases c_69 : o.vk = 1
  ·rw [valV_1 (v := (o.vk, o.vn, o.vt)) c_69]
   refine xr0 3 [(38, bT), (39, .agg #[.slice A_64 o.attrs.length c_65, sT o.text, .iface 296 (.bool (decide (o.vn = 1)))])] [19, 21, 22] ?_
   refine nl (ct (sg (xw 1 [] [(10, pw w_9.heap.size 0)] [38] (w_9.alloc (.cells #[.slice none 0 0, s0, .nilIface] 253)) [] trivial ?_)))
   obtain ⟨w_70, hw_74, hb_71, hk_72, hz_73⟩ := new_world w_9 #[.slice none 0 0, s0, .nilIface] 253
   rw [hw_74]
   refine xst (.agg #[.slice A_64 o.attrs.length c_65, sT o.text, .iface 296 (.bool (decide (o.vn = 1)))]) hk_72 0 #[.slice A_64 o.attrs.length c_65, sT o.text, .iface 296 (.bool (decide (o.vn = 1)))] (fun w_75 hg_76 hk_77 hz_78 => ?_)
   refine nl (X_grow [] 13 (tf 0 13) (by kernel_rfl) (by kernel_rfl) (by kernel_rfl) (fun wd_79 hb_80 hh_81 => ?_))
   refine XB_run (fuel' := 6) (Below.refl _ _) [0, 1, 2, 3, 4, 6, 7] [(42, .load (sT o.text)), (44, .load (.iface 296 (.bool (decide (o.vn = 1))))), (47, .load (.agg #[aL A_64 o.attrs c_65]))] [.slice none 0 0, pw w_9.heap.size 1, sT o.text, pw w_9.heap.size 2, .iface 296 (.bool (decide (o.vn = 1))), pw w_9.heap.size 0, .agg #[aL A_64 o.attrs c_65]] #[true, true, true, true, true, false, true, true, false, false, false, false, false] [(40, .slice none 0 0), (42, sT o.text), (44, .iface 296 (.bool (decide (o.vn = 1)))), (47, .agg #[aL A_64 o.attrs c_65])] (fun w_ => [la 9 (⟨w_9.heap.size, 1, none⟩) (sT o.text) w_, la 251 (⟨w_9.heap.size, 2, none⟩) (.iface 296 (.bool (decide (o.vn = 1)))) w_, la 126 (⟨w_9.heap.size, 0, none⟩) (.agg #[aL A_64 o.attrs c_65]) w_]) (fun w_ hC_ => ⟨loads1 rfl (Blk.cell (Blk.below hk_77 (bt hb_80 hC_)) 1 _ rfl), loads1 rfl (Blk.cell (Blk.below hk_77 (bt hb_80 hC_)) 2 _ rfl), loadsB rfl rfl (Blk.below hk_77 (bt hb_80 hC_)) 0 ⟨by kernel_rfl, by kernel_rfl⟩, trivial⟩) ?_
   refine XB_mid (fuel' := 5) 5 (tf 8 5) _ rfl (by kernel_rfl) (by kernel_rfl) rfl ?_
   refine XL_inv 256 #[.bool (decide (o.vn = 1))] rfl rfl (by kernel_rfl) (by kernel_rfl) (flagPlain_any o.vk o.vn o.vt _ (refuse_val c_11 hk_13) c_69) ?_
   rintro e w_82 ⟨rfl, hb_83⟩; refine ⟨_, rfl, ?_⟩
   refine nl ?_
   refine ⟨hb_83, ?_⟩
   refine XB_mid (fuel' := 4) 8 (tf 9 4) _ rfl (by kernel_rfl) (by kernel_rfl) rfl ?_
   have hB_84 : Below w_9.heap.size w_9 w_82 := (bt (bt (bg hb_71 hg_76 (Nat.le_refl _)) hb_80) hb_83)
   refine xc 219 ent219 [.agg #[aL A_64 o.attrs c_65]] (attributes_any _ _ o.attrs _ (Kd.C_below hC_68 hB_84) (by omega)) ?_
   rintro e w_87 ⟨A_85, c_86, rfl, hl_89, hr_90, hb_88⟩; refine ⟨_, rfl, ?_⟩
   refine nl ?_
   refine ⟨(bt hb_83 hb_88), ?_⟩
   refine XB_run (fuel' := 3) (bt hb_83 hb_88) [9] [] [.agg #[.int .i32 (-1), sT o.text, i6 o.vk, i6 o.vn, sT o.vt, aL A_85 o.attrs c_86]] (tf 10 3) [(40, .slice none 0 0), (49, .agg #[.int .i32 (-1), sT o.text, i6 o.vk, i6 o.vn, sT o.vt, aL A_85 o.attrs c_86])] (fun w_ => []) (fun w_ hC_ => trivial) ?_
   refine XB_mid (fuel' := 2) 10 (tf 11 2) _ rfl (by kernel_rfl) (by kernel_rfl) rfl ?_
   refine xw 1 [] [(50, .slice (some ⟨w_87.heap.size, 0, none⟩) 1 1)] [49] (w_87.alloc (.cells #[.int .i32 (-1), sT o.text, i6 o.vk, i6 o.vn, sT o.vt, aL A_85 o.attrs c_86] 51)) [] trivial ?_
   obtain ⟨w_91, hw_95, hb_92, hk_93, hz_94⟩ := new_world w_87 #[.int .i32 (-1), sT o.text, i6 o.vk, i6 o.vn, sT o.vt, aL A_85 o.attrs c_86] 51
   rw [hw_95]
   refine nl ?_
   refine ⟨(bt (bt hb_83 hb_88) hb_92), ?_⟩
   refine XB_mid (fuel' := 1) 11 (tf 12 1) _ rfl (by kernel_rfl) (by kernel_rfl) rfl ?_
   obtain ⟨okp_96, hM_97, hok_98⟩ := Kd.M_rowApart hr_90 (hb_83).size (Kd.R_nil kCell 51 _ wd_79.heap.size (OkFrom wd_79.heap.size)) (by decide)
   rw [← hw_95]
   refine XL_append kCell rfl rfl rfl wd_79.heap.size 51 (.agg #[.int .i32 0, s0, i6 0, i6 0, s0, .slice none 0 0]) 80 Tryz.underlying39 info51 rfl (by decide) (by omega) ([]) (⟨(-1), o.text, o.vk, o.vn, o.vt, o.attrs⟩ : CellA) [.int .i32 (-1), sT o.text, i6 o.vk, i6 o.vn, sT o.vt, aL A_85 o.attrs c_86] okp_96 (by kernel_rfl) (kCell_M (x := (⟨(-1), o.text, o.vk, o.vn, o.vt, o.attrs⟩ : CellA)) hM_97) hok_98 (Kd.R_nil kCell 51 _ wd_79.heap.size (OkFrom wd_79.heap.size)) ((bt hb_83 hb_88)).size (by decide) ?_
   intro A_99 c_100 w_101 hr_102 hc_103 hg_104 hl_105 ha_106
   have he_108 : ([] ++ [(⟨(-1), o.text, o.vk, o.vn, o.vt, o.attrs⟩ : CellA)]) = [(⟨-1, o.text, o.vk, o.vn, o.vt, o.attrs⟩ : CellA)] := rfl
   rw [he_108] at hr_102 ⊢
   refine nl ?_
   have hB_109 : Below wd_79.heap.size wd_79 w_101 := (bgo (bt hb_83 hb_88) hg_104 hl_105 (Nat.le_refl _))
   refine ⟨hB_109, ?_⟩
   refine XB_run (fuel' := 0) hB_109 [12] [] [aL A_99 [(⟨-1, o.text, o.vk, o.vn, o.vt, o.attrs⟩ : CellA)] c_100] (tf 13 0) [(6, aL A_99 [(⟨-1, o.text, o.vk, o.vn, o.vt, o.attrs⟩ : CellA)] c_100)] (fun w_ => []) (fun w_ hC_ => trivial) ?_
   refine XB_done (by kernel_rfl) ?_
   refine sg (xe0 3 [(2, aL A_99 [(⟨-1, o.text, o.vk, o.vn, o.vt, o.attrs⟩ : CellA)] c_100), (3, .nilIface)] ?_)
   refine nl (X_ret (rj [.slice A_99 ([(⟨-1, o.text, o.vk, o.vn, o.vt, o.attrs⟩ : CellA)].length) c_100, .nilIface] hR_ ?_))
   have hB_110 : Below w.heap.size w wd_79 := (bt (bg (bt (bt hb_2 hb_10) hb_71) hg_76 ((bt hb_2 hb_10)).size) hb_80)
   have hB_111 : Below w.heap.size w w_101 := (bgo (bt (bt hB_110 hb_83) hb_88) hg_104 hl_105 (hB_110).size)
   rw [show cellsO o = [(⟨-1, o.text, o.vk, o.vn, o.vt, o.attrs⟩ : CellA)] from by rw [show ([(⟨-1, o.text, o.vk, o.vn, o.vt, o.attrs⟩ : CellA)] : List CellA) = cellsP o from (cellsP_2 hk_13).symm]; exact if_pos c_11, c_11]
   exact ⟨_, _, rfl, Kd.R_low hr_102 (hB_110).size, hB_111⟩
  by_cases c_112 : o.vk = 2
  ·rw [valV_2 (v := (o.vk, o.vn, o.vt)) c_69 c_112]
   refine xr0 3 [(38, bT), (39, .agg #[.slice A_64 o.attrs.length c_65, sT o.text, .iface 297 (i6 o.vn)])] [19, 21, 22] ?_
   refine nl (ct (sg (xw 1 [] [(10, pw w_9.heap.size 0)] [38] (w_9.alloc (.cells #[.slice none 0 0, s0, .nilIface] 253)) [] trivial ?_)))
   obtain ⟨w_113, hw_117, hb_114, hk_115, hz_116⟩ := new_world w_9 #[.slice none 0 0, s0, .nilIface] 253
   rw [hw_117]
   refine xst (.agg #[.slice A_64 o.attrs.length c_65, sT o.text, .iface 297 (i6 o.vn)]) hk_115 0 #[.slice A_64 o.attrs.length c_65, sT o.text, .iface 297 (i6 o.vn)] (fun w_118 hg_119 hk_120 hz_121 => ?_)
   refine nl (X_grow [] 13 (tf 0 13) (by kernel_rfl) (by kernel_rfl) (by kernel_rfl) (fun wd_122 hb_123 hh_124 => ?_))
   refine XB_run (fuel' := 6) (Below.refl _ _) [0, 1, 2, 3, 4, 6, 7] [(42, .load (sT o.text)), (44, .load (.iface 297 (i6 o.vn))), (47, .load (.agg #[aL A_64 o.attrs c_65]))] [.slice none 0 0, pw w_9.heap.size 1, sT o.text, pw w_9.heap.size 2, .iface 297 (i6 o.vn), pw w_9.heap.size 0, .agg #[aL A_64 o.attrs c_65]] #[true, true, true, true, true, false, true, true, false, false, false, false, false] [(40, .slice none 0 0), (42, sT o.text), (44, .iface 297 (i6 o.vn)), (47, .agg #[aL A_64 o.attrs c_65])] (fun w_ => [la 9 (⟨w_9.heap.size, 1, none⟩) (sT o.text) w_, la 251 (⟨w_9.heap.size, 2, none⟩) (.iface 297 (i6 o.vn)) w_, la 126 (⟨w_9.heap.size, 0, none⟩) (.agg #[aL A_64 o.attrs c_65]) w_]) (fun w_ hC_ => ⟨loads1 rfl (Blk.cell (Blk.below hk_120 (bt hb_123 hC_)) 1 _ rfl), loads1 rfl (Blk.cell (Blk.below hk_120 (bt hb_123 hC_)) 2 _ rfl), loadsB rfl rfl (Blk.below hk_120 (bt hb_123 hC_)) 0 ⟨by kernel_rfl, by kernel_rfl⟩, trivial⟩) ?_
   refine XB_mid (fuel' := 5) 5 (tf 8 5) _ rfl (by kernel_rfl) (by kernel_rfl) rfl ?_
   refine XL_inv 258 #[i6 o.vn] rfl rfl (by kernel_rfl) (by kernel_rfl) (numberPlain_any o.vk o.vn o.vt _ (refuse_val c_11 hk_13) c_112) ?_
   rintro e w_125 ⟨rfl, hb_126⟩; refine ⟨_, rfl, ?_⟩
   refine nl ?_
   refine ⟨hb_126, ?_⟩
   refine XB_mid (fuel' := 4) 8 (tf 9 4) _ rfl (by kernel_rfl) (by kernel_rfl) rfl ?_
   have hB_127 : Below w_9.heap.size w_9 w_125 := (bt (bt (bg hb_114 hg_119 (Nat.le_refl _)) hb_123) hb_126)
   refine xc 219 ent219 [.agg #[aL A_64 o.attrs c_65]] (attributes_any _ _ o.attrs _ (Kd.C_below hC_68 hB_127) (by omega)) ?_
   rintro e w_130 ⟨A_128, c_129, rfl, hl_132, hr_133, hb_131⟩; refine ⟨_, rfl, ?_⟩
   refine nl ?_
   refine ⟨(bt hb_126 hb_131), ?_⟩
   refine XB_run (fuel' := 3) (bt hb_126 hb_131) [9] [] [.agg #[.int .i32 (-1), sT o.text, i6 o.vk, i6 o.vn, sT o.vt, aL A_128 o.attrs c_129]] (tf 10 3) [(40, .slice none 0 0), (49, .agg #[.int .i32 (-1), sT o.text, i6 o.vk, i6 o.vn, sT o.vt, aL A_128 o.attrs c_129])] (fun w_ => []) (fun w_ hC_ => trivial) ?_
   refine XB_mid (fuel' := 2) 10 (tf 11 2) _ rfl (by kernel_rfl) (by kernel_rfl) rfl ?_
   refine xw 1 [] [(50, .slice (some ⟨w_130.heap.size, 0, none⟩) 1 1)] [49] (w_130.alloc (.cells #[.int .i32 (-1), sT o.text, i6 o.vk, i6 o.vn, sT o.vt, aL A_128 o.attrs c_129] 51)) [] trivial ?_
   obtain ⟨w_134, hw_138, hb_135, hk_136, hz_137⟩ := new_world w_130 #[.int .i32 (-1), sT o.text, i6 o.vk, i6 o.vn, sT o.vt, aL A_128 o.attrs c_129] 51
   rw [hw_138]
   refine nl ?_
   refine ⟨(bt (bt hb_126 hb_131) hb_135), ?_⟩
   refine XB_mid (fuel' := 1) 11 (tf 12 1) _ rfl (by kernel_rfl) (by kernel_rfl) rfl ?_
   obtain ⟨okp_139, hM_140, hok_141⟩ := Kd.M_rowApart hr_133 (hb_126).size (Kd.R_nil kCell 51 _ wd_122.heap.size (OkFrom wd_122.heap.size)) (by decide)
   rw [← hw_138]
   refine XL_append kCell rfl rfl rfl wd_122.heap.size 51 (.agg #[.int .i32 0, s0, i6 0, i6 0, s0, .slice none 0 0]) 80 Tryz.underlying39 info51 rfl (by decide) (by omega) ([]) (⟨(-1), o.text, o.vk, o.vn, o.vt, o.attrs⟩ : CellA) [.int .i32 (-1), sT o.text, i6 o.vk, i6 o.vn, sT o.vt, aL A_128 o.attrs c_129] okp_139 (by kernel_rfl) (kCell_M (x := (⟨(-1), o.text, o.vk, o.vn, o.vt, o.attrs⟩ : CellA)) hM_140) hok_141 (Kd.R_nil kCell 51 _ wd_122.heap.size (OkFrom wd_122.heap.size)) ((bt hb_126 hb_131)).size (by decide) ?_
   intro A_142 c_143 w_144 hr_145 hc_146 hg_147 hl_148 ha_149
   have he_151 : ([] ++ [(⟨(-1), o.text, o.vk, o.vn, o.vt, o.attrs⟩ : CellA)]) = [(⟨-1, o.text, o.vk, o.vn, o.vt, o.attrs⟩ : CellA)] := rfl
   rw [he_151] at hr_145 ⊢
   refine nl ?_
   have hB_152 : Below wd_122.heap.size wd_122 w_144 := (bgo (bt hb_126 hb_131) hg_147 hl_148 (Nat.le_refl _))
   refine ⟨hB_152, ?_⟩
   refine XB_run (fuel' := 0) hB_152 [12] [] [aL A_142 [(⟨-1, o.text, o.vk, o.vn, o.vt, o.attrs⟩ : CellA)] c_143] (tf 13 0) [(6, aL A_142 [(⟨-1, o.text, o.vk, o.vn, o.vt, o.attrs⟩ : CellA)] c_143)] (fun w_ => []) (fun w_ hC_ => trivial) ?_
   refine XB_done (by kernel_rfl) ?_
   refine sg (xe0 3 [(2, aL A_142 [(⟨-1, o.text, o.vk, o.vn, o.vt, o.attrs⟩ : CellA)] c_143), (3, .nilIface)] ?_)
   refine nl (X_ret (rj [.slice A_142 ([(⟨-1, o.text, o.vk, o.vn, o.vt, o.attrs⟩ : CellA)].length) c_143, .nilIface] hR_ ?_))
   have hB_153 : Below w.heap.size w wd_122 := (bt (bg (bt (bt hb_2 hb_10) hb_114) hg_119 ((bt hb_2 hb_10)).size) hb_123)
   have hB_154 : Below w.heap.size w w_144 := (bgo (bt (bt hB_153 hb_126) hb_131) hg_147 hl_148 (hB_153).size)
   rw [show cellsO o = [(⟨-1, o.text, o.vk, o.vn, o.vt, o.attrs⟩ : CellA)] from by rw [show ([(⟨-1, o.text, o.vk, o.vn, o.vt, o.attrs⟩ : CellA)] : List CellA) = cellsP o from (cellsP_2 hk_13).symm]; exact if_pos c_11, c_11]
   exact ⟨_, _, rfl, Kd.R_low hr_145 (hB_153).size, hB_154⟩
  by_cases c_155 : o.vk = 3
  ·rw [valV_3 (v := (o.vk, o.vn, o.vt)) c_69 c_112 c_155]
   refine xr0 3 [(38, bT), (39, .agg #[.slice A_64 o.attrs.length c_65, sT o.text, .iface 298 (sT o.vt)])] [19, 21, 22] ?_
   refine nl (ct (sg (xw 1 [] [(10, pw w_9.heap.size 0)] [38] (w_9.alloc (.cells #[.slice none 0 0, s0, .nilIface] 253)) [] trivial ?_)))
   obtain ⟨w_156, hw_160, hb_157, hk_158, hz_159⟩ := new_world w_9 #[.slice none 0 0, s0, .nilIface] 253
   rw [hw_160]
   refine xst (.agg #[.slice A_64 o.attrs.length c_65, sT o.text, .iface 298 (sT o.vt)]) hk_158 0 #[.slice A_64 o.attrs.length c_65, sT o.text, .iface 298 (sT o.vt)] (fun w_161 hg_162 hk_163 hz_164 => ?_)
   refine nl (X_grow [] 13 (tf 0 13) (by kernel_rfl) (by kernel_rfl) (by kernel_rfl) (fun wd_165 hb_166 hh_167 => ?_))
   refine XB_run (fuel' := 6) (Below.refl _ _) [0, 1, 2, 3, 4, 6, 7] [(42, .load (sT o.text)), (44, .load (.iface 298 (sT o.vt))), (47, .load (.agg #[aL A_64 o.attrs c_65]))] [.slice none 0 0, pw w_9.heap.size 1, sT o.text, pw w_9.heap.size 2, .iface 298 (sT o.vt), pw w_9.heap.size 0, .agg #[aL A_64 o.attrs c_65]] #[true, true, true, true, true, false, true, true, false, false, false, false, false] [(40, .slice none 0 0), (42, sT o.text), (44, .iface 298 (sT o.vt)), (47, .agg #[aL A_64 o.attrs c_65])] (fun w_ => [la 9 (⟨w_9.heap.size, 1, none⟩) (sT o.text) w_, la 251 (⟨w_9.heap.size, 2, none⟩) (.iface 298 (sT o.vt)) w_, la 126 (⟨w_9.heap.size, 0, none⟩) (.agg #[aL A_64 o.attrs c_65]) w_]) (fun w_ hC_ => ⟨loads1 rfl (Blk.cell (Blk.below hk_163 (bt hb_166 hC_)) 1 _ rfl), loads1 rfl (Blk.cell (Blk.below hk_163 (bt hb_166 hC_)) 2 _ rfl), loadsB rfl rfl (Blk.below hk_163 (bt hb_166 hC_)) 0 ⟨by kernel_rfl, by kernel_rfl⟩, trivial⟩) ?_
   refine XB_mid (fuel' := 5) 5 (tf 8 5) _ rfl (by kernel_rfl) (by kernel_rfl) rfl ?_
   refine XL_inv 260 #[sT o.vt] rfl rfl (by kernel_rfl) (by kernel_rfl) (textPlain_any o.vk o.vn o.vt _ (refuse_val c_11 hk_13) c_155) ?_
   rintro e w_168 ⟨rfl, hb_169⟩; refine ⟨_, rfl, ?_⟩
   refine nl ?_
   refine ⟨hb_169, ?_⟩
   refine XB_mid (fuel' := 4) 8 (tf 9 4) _ rfl (by kernel_rfl) (by kernel_rfl) rfl ?_
   have hB_170 : Below w_9.heap.size w_9 w_168 := (bt (bt (bg hb_157 hg_162 (Nat.le_refl _)) hb_166) hb_169)
   refine xc 219 ent219 [.agg #[aL A_64 o.attrs c_65]] (attributes_any _ _ o.attrs _ (Kd.C_below hC_68 hB_170) (by omega)) ?_
   rintro e w_173 ⟨A_171, c_172, rfl, hl_175, hr_176, hb_174⟩; refine ⟨_, rfl, ?_⟩
   refine nl ?_
   refine ⟨(bt hb_169 hb_174), ?_⟩
   refine XB_run (fuel' := 3) (bt hb_169 hb_174) [9] [] [.agg #[.int .i32 (-1), sT o.text, i6 o.vk, i6 o.vn, sT o.vt, aL A_171 o.attrs c_172]] (tf 10 3) [(40, .slice none 0 0), (49, .agg #[.int .i32 (-1), sT o.text, i6 o.vk, i6 o.vn, sT o.vt, aL A_171 o.attrs c_172])] (fun w_ => []) (fun w_ hC_ => trivial) ?_
   refine XB_mid (fuel' := 2) 10 (tf 11 2) _ rfl (by kernel_rfl) (by kernel_rfl) rfl ?_
   refine xw 1 [] [(50, .slice (some ⟨w_173.heap.size, 0, none⟩) 1 1)] [49] (w_173.alloc (.cells #[.int .i32 (-1), sT o.text, i6 o.vk, i6 o.vn, sT o.vt, aL A_171 o.attrs c_172] 51)) [] trivial ?_
   obtain ⟨w_177, hw_181, hb_178, hk_179, hz_180⟩ := new_world w_173 #[.int .i32 (-1), sT o.text, i6 o.vk, i6 o.vn, sT o.vt, aL A_171 o.attrs c_172] 51
   rw [hw_181]
   refine nl ?_
   refine ⟨(bt (bt hb_169 hb_174) hb_178), ?_⟩
   refine XB_mid (fuel' := 1) 11 (tf 12 1) _ rfl (by kernel_rfl) (by kernel_rfl) rfl ?_
   obtain ⟨okp_182, hM_183, hok_184⟩ := Kd.M_rowApart hr_176 (hb_169).size (Kd.R_nil kCell 51 _ wd_165.heap.size (OkFrom wd_165.heap.size)) (by decide)
   rw [← hw_181]
   refine XL_append kCell rfl rfl rfl wd_165.heap.size 51 (.agg #[.int .i32 0, s0, i6 0, i6 0, s0, .slice none 0 0]) 80 Tryz.underlying39 info51 rfl (by decide) (by omega) ([]) (⟨(-1), o.text, o.vk, o.vn, o.vt, o.attrs⟩ : CellA) [.int .i32 (-1), sT o.text, i6 o.vk, i6 o.vn, sT o.vt, aL A_171 o.attrs c_172] okp_182 (by kernel_rfl) (kCell_M (x := (⟨(-1), o.text, o.vk, o.vn, o.vt, o.attrs⟩ : CellA)) hM_183) hok_184 (Kd.R_nil kCell 51 _ wd_165.heap.size (OkFrom wd_165.heap.size)) ((bt hb_169 hb_174)).size (by decide) ?_
   intro A_185 c_186 w_187 hr_188 hc_189 hg_190 hl_191 ha_192
   have he_194 : ([] ++ [(⟨(-1), o.text, o.vk, o.vn, o.vt, o.attrs⟩ : CellA)]) = [(⟨-1, o.text, o.vk, o.vn, o.vt, o.attrs⟩ : CellA)] := rfl
   rw [he_194] at hr_188 ⊢
   refine nl ?_
   have hB_195 : Below wd_165.heap.size wd_165 w_187 := (bgo (bt hb_169 hb_174) hg_190 hl_191 (Nat.le_refl _))
   refine ⟨hB_195, ?_⟩
   refine XB_run (fuel' := 0) hB_195 [12] [] [aL A_185 [(⟨-1, o.text, o.vk, o.vn, o.vt, o.attrs⟩ : CellA)] c_186] (tf 13 0) [(6, aL A_185 [(⟨-1, o.text, o.vk, o.vn, o.vt, o.attrs⟩ : CellA)] c_186)] (fun w_ => []) (fun w_ hC_ => trivial) ?_
   refine XB_done (by kernel_rfl) ?_
   refine sg (xe0 3 [(2, aL A_185 [(⟨-1, o.text, o.vk, o.vn, o.vt, o.attrs⟩ : CellA)] c_186), (3, .nilIface)] ?_)
   refine nl (X_ret (rj [.slice A_185 ([(⟨-1, o.text, o.vk, o.vn, o.vt, o.attrs⟩ : CellA)].length) c_186, .nilIface] hR_ ?_))
   have hB_196 : Below w.heap.size w wd_165 := (bt (bg (bt (bt hb_2 hb_10) hb_157) hg_162 ((bt hb_2 hb_10)).size) hb_166)
   have hB_197 : Below w.heap.size w w_187 := (bgo (bt (bt hB_196 hb_169) hb_174) hg_190 hl_191 (hB_196).size)
   rw [show cellsO o = [(⟨-1, o.text, o.vk, o.vn, o.vt, o.attrs⟩ : CellA)] from by rw [show ([(⟨-1, o.text, o.vk, o.vn, o.vt, o.attrs⟩ : CellA)] : List CellA) = cellsP o from (cellsP_2 hk_13).symm]; exact if_pos c_11, c_11]
   exact ⟨_, _, rfl, Kd.R_low hr_188 (hB_196).size, hB_197⟩
  rw [valV_0 (v := (o.vk, o.vn, o.vt)) c_69 c_112 c_155]
  refine xr0 3 [(38, bT), (39, .agg #[.slice A_64 o.attrs.length c_65, sT o.text, .iface 300 (.agg #[])])] [19, 21, 22] ?_
  refine nl (ct (sg (xw 1 [] [(10, pw w_9.heap.size 0)] [38] (w_9.alloc (.cells #[.slice none 0 0, s0, .nilIface] 253)) [] trivial ?_)))
  obtain ⟨w_198, hw_202, hb_199, hk_200, hz_201⟩ := new_world w_9 #[.slice none 0 0, s0, .nilIface] 253
  rw [hw_202]
  refine xst (.agg #[.slice A_64 o.attrs.length c_65, sT o.text, .iface 300 (.agg #[])]) hk_200 0 #[.slice A_64 o.attrs.length c_65, sT o.text, .iface 300 (.agg #[])] (fun w_203 hg_204 hk_205 hz_206 => ?_)
  refine nl (X_grow [] 13 (tf 0 13) (by kernel_rfl) (by kernel_rfl) (by kernel_rfl) (fun wd_207 hb_208 hh_209 => ?_))
  refine XB_run (fuel' := 6) (Below.refl _ _) [0, 1, 2, 3, 4, 6, 7] [(42, .load (sT o.text)), (44, .load (.iface 300 (.agg #[]))), (47, .load (.agg #[aL A_64 o.attrs c_65]))] [.slice none 0 0, pw w_9.heap.size 1, sT o.text, pw w_9.heap.size 2, .iface 300 (.agg #[]), pw w_9.heap.size 0, .agg #[aL A_64 o.attrs c_65]] #[true, true, true, true, true, false, true, true, false, false, false, false, false] [(40, .slice none 0 0), (42, sT o.text), (44, .iface 300 (.agg #[])), (47, .agg #[aL A_64 o.attrs c_65])] (fun w_ => [la 9 (⟨w_9.heap.size, 1, none⟩) (sT o.text) w_, la 251 (⟨w_9.heap.size, 2, none⟩) (.iface 300 (.agg #[])) w_, la 126 (⟨w_9.heap.size, 0, none⟩) (.agg #[aL A_64 o.attrs c_65]) w_]) (fun w_ hC_ => ⟨loads1 rfl (Blk.cell (Blk.below hk_205 (bt hb_208 hC_)) 1 _ rfl), loads1 rfl (Blk.cell (Blk.below hk_205 (bt hb_208 hC_)) 2 _ rfl), loadsB rfl rfl (Blk.below hk_205 (bt hb_208 hC_)) 0 ⟨by kernel_rfl, by kernel_rfl⟩, trivial⟩) ?_
  refine XB_mid (fuel' := 5) 5 (tf 8 5) _ rfl (by kernel_rfl) (by kernel_rfl) rfl ?_
  refine XL_inv 262 #[.agg #[]] rfl rfl (by kernel_rfl) (by kernel_rfl) (nullPlain_any o.vk o.vn o.vt _ (refuse_val c_11 hk_13) (by have h_ := plainOk_kind (refuse_val c_11 hk_13); omega)) ?_
  rintro e w_210 ⟨rfl, hb_211⟩; refine ⟨_, rfl, ?_⟩
  refine nl ?_
  refine ⟨hb_211, ?_⟩
  refine XB_mid (fuel' := 4) 8 (tf 9 4) _ rfl (by kernel_rfl) (by kernel_rfl) rfl ?_
  have hB_212 : Below w_9.heap.size w_9 w_210 := (bt (bt (bg hb_199 hg_204 (Nat.le_refl _)) hb_208) hb_211)
  refine xc 219 ent219 [.agg #[aL A_64 o.attrs c_65]] (attributes_any _ _ o.attrs _ (Kd.C_below hC_68 hB_212) (by omega)) ?_
  rintro e w_215 ⟨A_213, c_214, rfl, hl_217, hr_218, hb_216⟩; refine ⟨_, rfl, ?_⟩
  refine nl ?_
  refine ⟨(bt hb_211 hb_216), ?_⟩
  refine XB_run (fuel' := 3) (bt hb_211 hb_216) [9] [] [.agg #[.int .i32 (-1), sT o.text, i6 o.vk, i6 o.vn, sT o.vt, aL A_213 o.attrs c_214]] (tf 10 3) [(40, .slice none 0 0), (49, .agg #[.int .i32 (-1), sT o.text, i6 o.vk, i6 o.vn, sT o.vt, aL A_213 o.attrs c_214])] (fun w_ => []) (fun w_ hC_ => trivial) ?_
  refine XB_mid (fuel' := 2) 10 (tf 11 2) _ rfl (by kernel_rfl) (by kernel_rfl) rfl ?_
  refine xw 1 [] [(50, .slice (some ⟨w_215.heap.size, 0, none⟩) 1 1)] [49] (w_215.alloc (.cells #[.int .i32 (-1), sT o.text, i6 o.vk, i6 o.vn, sT o.vt, aL A_213 o.attrs c_214] 51)) [] trivial ?_
  obtain ⟨w_219, hw_223, hb_220, hk_221, hz_222⟩ := new_world w_215 #[.int .i32 (-1), sT o.text, i6 o.vk, i6 o.vn, sT o.vt, aL A_213 o.attrs c_214] 51
  rw [hw_223]
  refine nl ?_
  refine ⟨(bt (bt hb_211 hb_216) hb_220), ?_⟩
  refine XB_mid (fuel' := 1) 11 (tf 12 1) _ rfl (by kernel_rfl) (by kernel_rfl) rfl ?_
  obtain ⟨okp_224, hM_225, hok_226⟩ := Kd.M_rowApart hr_218 (hb_211).size (Kd.R_nil kCell 51 _ wd_207.heap.size (OkFrom wd_207.heap.size)) (by decide)
  rw [← hw_223]
  refine XL_append kCell rfl rfl rfl wd_207.heap.size 51 (.agg #[.int .i32 0, s0, i6 0, i6 0, s0, .slice none 0 0]) 80 Tryz.underlying39 info51 rfl (by decide) (by omega) ([]) (⟨(-1), o.text, o.vk, o.vn, o.vt, o.attrs⟩ : CellA) [.int .i32 (-1), sT o.text, i6 o.vk, i6 o.vn, sT o.vt, aL A_213 o.attrs c_214] okp_224 (by kernel_rfl) (kCell_M (x := (⟨(-1), o.text, o.vk, o.vn, o.vt, o.attrs⟩ : CellA)) hM_225) hok_226 (Kd.R_nil kCell 51 _ wd_207.heap.size (OkFrom wd_207.heap.size)) ((bt hb_211 hb_216)).size (by decide) ?_
  intro A_227 c_228 w_229 hr_230 hc_231 hg_232 hl_233 ha_234
  have he_236 : ([] ++ [(⟨(-1), o.text, o.vk, o.vn, o.vt, o.attrs⟩ : CellA)]) = [(⟨-1, o.text, o.vk, o.vn, o.vt, o.attrs⟩ : CellA)] := rfl
  rw [he_236] at hr_230 ⊢
  refine nl ?_
  have hB_237 : Below wd_207.heap.size wd_207 w_229 := (bgo (bt hb_211 hb_216) hg_232 hl_233 (Nat.le_refl _))
  refine ⟨hB_237, ?_⟩
  refine XB_run (fuel' := 0) hB_237 [12] [] [aL A_227 [(⟨-1, o.text, o.vk, o.vn, o.vt, o.attrs⟩ : CellA)] c_228] (tf 13 0) [(6, aL A_227 [(⟨-1, o.text, o.vk, o.vn, o.vt, o.attrs⟩ : CellA)] c_228)] (fun w_ => []) (fun w_ hC_ => trivial) ?_
  refine XB_done (by kernel_rfl) ?_
  refine sg (xe0 3 [(2, aL A_227 [(⟨-1, o.text, o.vk, o.vn, o.vt, o.attrs⟩ : CellA)] c_228), (3, .nilIface)] ?_)
  refine nl (X_ret (rj [.slice A_227 ([(⟨-1, o.text, o.vk, o.vn, o.vt, o.attrs⟩ : CellA)].length) c_228, .nilIface] hR_ ?_))
  have hB_238 : Below w.heap.size w wd_207 := (bt (bg (bt (bt hb_2 hb_10) hb_199) hg_204 ((bt hb_2 hb_10)).size) hb_208)
  have hB_239 : Below w.heap.size w w_229 := (bgo (bt (bt hB_238 hb_211) hb_216) hg_232 hl_233 (hB_238).size)
  rw [show cellsO o = [(⟨-1, o.text, o.vk, o.vn, o.vt, o.attrs⟩ : CellA)] from by rw [show ([(⟨-1, o.text, o.vk, o.vn, o.vt, o.attrs⟩ : CellA)] : List CellA) = cellsP o from (cellsP_2 hk_13).symm]; exact if_pos c_11, c_11]
  exact ⟨_, _, rfl, Kd.R_low hr_230 (hB_238).size, hB_239⟩
 rw [errV_pos es (refuseP o) (Nat.pos_of_ne_zero c_11)]
 refine xr0 1 [(5, .iface 301 (.pointer (some (errAt es (refuseP o))))), (17, bT)] [16] ?_
 refine nl (ct (sg (xe0 3 [(2, .slice none 0 0), (3, .iface 301 (.pointer (some (errAt es (refuseP o)))))] ?_)))
 refine nl (X_ret (rj [.slice none 0 0, .iface 301 (.pointer (some (errAt es (refuseP o))))] hR_ ?_))
 rw [show cellsO o = [] from if_neg c_11, errV_pos es _ (Nat.pos_of_ne_zero c_11)]
 exact ⟨none, 0, rfl, Kd.R_nil _ _ _ _ _, (bt hb_2 hb_10)⟩
end Go.Proofs.YtgphmfnkeolbcaaGreatDoor
