import Derived.Test.YtgphmfnkeolbcaaGreatDoorT68
import Derived.Test.YtgphmfnkeolbcaaGreatDoorP1
import Derived.Test.YtgphmfnkeolbcaaGreatDoorT50
import Derived.Test.YtgphmfnkeolbcaaGreatDoorPatch
import Derived.Test.YtgphmfnkeolbcaaGreatDoorT67
/- What lines.Each hands over: number, line, where its attributes lie. No condition. -/

set_option linter.unusedVariables false
set_option linter.unusedSimpArgs false
namespace Go.Proofs.YtgphmfnkeolbcaaGreatDoor
open Go Go.RowKit Go.Proofs.YtgphmfnkeolbcaaGreatDoorW.PrintWords RX
abbrev ElL := Int × LineA × Option Addr × Nat
def elL0 : ElL := (0, line0, none, 0)
def elLV (x : ElL) : Array Value := #[.int .i64 x.1, .agg #[.int .i64 x.2.1.from_, .int .i64 x.2.1.len, .slice x.2.2.1 x.2.1.attrs.length x.2.2.2, .string x.2.1.text]]
def LPx (n0 : Nat) (x : ElL) (W : World) : Prop := x.2.1.attrs.length ≤ 100000000 ∧ ∃ wb : World, n0 ≤ wb.heap.size ∧ x.2.1.attrs.length ≤ x.2.2.2 ∧ kAttr.R 57 W wb.heap.size (OkFrom wb.heap.size) (.slice x.2.2.1 x.2.1.attrs.length x.2.2.2) x.2.1.attrs
def LOK (L : List LineA) (pre : List ElL) : Prop := pre.length ≤ L.length ∧ ∀ t, t < pre.length → (pre.getD t elL0).1 = (t : Int) ∧ (pre.getD t elL0).2.1 = L.getD t line0
theorem LOK.nil (L : List LineA) : LOK L [] := ⟨Nat.zero_le _, fun t ht => by simp at ht⟩
theorem LOK.snoc {L : List LineA} {pre : List ElL} {x : ElL} (h : LOK L pre) (hl : pre.length < L.length) (h1 : x.1 = (pre.length : Int)) (h2 : x.2.1 = L.getD pre.length line0) : LOK L (pre ++ [x]) := by
  refine ⟨by rw [List.length_append, List.length_singleton]; exact hl, fun t ht => ?_⟩
  rw [List.length_append, List.length_singleton] at ht
  rcases Nat.lt_or_ge t pre.length with h3 | h3
  · have e : (pre ++ [x]).getD t elL0 = pre.getD t elL0 := by rw [List.getD_eq_getElem?_getD, List.getElem?_append_left h3, List.getD_eq_getElem?_getD]
    rw [e]; exact h.2 t h3
  · obtain rfl : t = pre.length := by omega
    have e : (pre ++ [x]).getD pre.length elL0 = x := by simp [List.getD_eq_getElem?_getD]
    rw [e]; exact ⟨h1, h2⟩
set_option maxRecDepth 100000
theorem ent42 : Ent Tryz.prog 42 := ent_of Tryz.func42 (by kernel_rfl) rfl
theorem ent109 : Ent Tryz.prog 109 := ent_of Tryz.func109 (by kernel_rfl) rfl
theorem leach_any (d : Nat) (xs : List OpA) (w : World) (hd : DeltaC w d xs) (hb : badE xs = 0) (hB : sB xs ≤ B.L) (hn : xs.length ≤ 1100000) (hz : ∀ i, i < xs.length → opSz (xs.getD i op0)) (hL : (cellsAll xs).length ≤ 100000000) (hT : Tabs w) (es : List Addr) (hE : ErrsL w es) : Calls Tryz.prog 42 #[pw d 0] w fun e w' => ∃ g A' c' ls, ls = lnOf xs ∧ e = .returned (.func (.func 109) #[] #[pw g 0]) ∧ w.heap.size ≤ g ∧ RX.Blk w' g 66 #[.slice A' ls.length c'] ∧ kLine.R 78 w' w.heap.size (OkFrom w.heap.size) (.slice A' ls.length c') ls ∧ Below w.heap.size w w' := by
 refine en Tryz.func42 rfl 13 [(0, pw d 0)] (fun R_ hR_ => ?_)
 refine sg (xe0 1 [(0, pw d 0)] ?_)
 refine nl (sg (xe0 1 [(6, pw d 0)] ?_))
 refine xc 36 ent36 [pw d 0] (lines_any d xs _ hd hb hB hn hz hL hT es hE) ?_
 rintro e w_7 ⟨A_1, c_2, ls_3, el_4, rfl, hl_5, hr_6, hb_8⟩; refine ⟨_, rfl, ?_⟩
 refine xwe 4 [] [(3, pw w_7.heap.size 0), (8, aL A_1 ls_3 c_2), (9, errV es (lnErr xs))] (w_7.alloc (.cells #[.slice none 0 0] 66)) [] trivial ?_
 obtain ⟨w_9, hw_13, hb_10, hk_11, hz_12⟩ := new_world w_7 #[.slice none 0 0] 66
 rw [hw_13]
 refine xst (aL A_1 ls_3 c_2) hk_11 0 #[aL A_1 ls_3 c_2] (fun w_14 hg_15 hk_16 hz_17 => ?_)
 have hr_18 := Kd.R_off (Kd.R_below hr_6 hb_10) hk_11 (by decide) hg_15
 refine xr0 1 [(4, errV es (lnErr xs))] [8, 9] ?_
 refine nl (sq (sg (xr0 1 [(10, errV es (lnErr xs))] [4] ?_)))
 by_cases c_19 : (lnErr xs) = 0
 ·rw [show errV es (lnErr xs) = .nilIface from by rw [c_19]; rfl]
  refine xr0 1 [(11, bF)] [10] ?_
  refine nl (cf (sk (sg (xe0 2 [(2, .func (.func 109) #[] #[pw w_7.heap.size 0])] ?_))))
  refine nl (X_ret (rj [.func (.func 109) #[] #[pw w_7.heap.size 0]] hR_ ?_))
  exact ⟨_, _, _, ls_3, el_4, rfl, (hb_8).size, hk_16, Kd.R_low hr_18 (Nat.le_refl _), (bg (bt hb_8 hb_10) hg_15 (hb_8).size)⟩
 rw [errV_pos es (lnErr xs) (Nat.pos_of_ne_zero c_19)]
 refine xr0 1 [(11, bT)] [10] ?_
 refine nl (ct (rg (xst (.slice none 0 0) hk_16 0 #[.slice none 0 0] (fun w_20 hg_21 hk_22 hz_23 => ?_))))
 refine nl (sg (xe0 2 [(2, .func (.func 109) #[] #[pw w_7.heap.size 0])] ?_))
 refine nl (X_ret (rj [.func (.func 109) #[] #[pw w_7.heap.size 0]] hR_ ?_))
 have hB_25 : Below w.heap.size w w_20 := (bg (bg (bt hb_8 hb_10) hg_15 (hb_8).size) hg_21 (hb_8).size)
 have hf_ : lnOf xs = [] := if_neg c_19
 exact ⟨_, none, 0, [], hf_.symm, rfl, (hb_8).size, hk_22, Kd.R_nil _ _ _ _ _, hB_25⟩
set_option maxHeartbeats 1000000 in
theorem leach_seq (D okD : Nat → Prop) (b0 g : Nat) (A : Option Addr) (c : Nat) (ls : List LineA) (w1 : World) (hx : kLine.R 78 w1 b0 okD (.slice A ls.length c) ls) (hokD : ∀ k, okD k → D k) (hD : ∀ k, D k → k < w1.heap.size) (hol : ls.length ≤ 1000000000) (hat : ∀ l ∈ ls, l.attrs.length ≤ 100000000) (hk : RX.Blk w1 g 66 #[.slice A ls.length c]) :
  SeqM D Tryz.prog 109 #[pw g 0] elLV (fun ys => LOK ls ys ∧ ys.length = ls.length) (fun pre => LOK ls pre) (LPx w1.heap.size) ls.length w1 := by
 intro lp J Jx M0 W hW hJ hJx hMb hY jJ0
 have hJb : ∀ s M (X Y : World), Below X.heap.size X Y → J s M X → J s M Y := fun s M X Y hb hj => abides_below (hJ M) hb hj
 refine callsIn_wide.2 ?_
 rw [show (#[Value.func (.yield lp) #[] #[]] ++ #[pw g 0] : Array Value) = #[.func (.yield lp) #[] #[], pw g 0] from rfl]
 refine en Tryz.func109 rfl 22 [(0, .func (.yield lp) #[] #[]), (1, pw g 0)] (fun R_ hR_ => ?_)
 refine sg (xe1 3 [(5, .load (aL A ls c))] [(0, .func (.yield lp) #[] #[]), (5, aL A ls c), (6, i6 (ls.length : Int)), (7, i6 0)] (lc 66 (Blk.below hk hW) 0) ?_)
 refine nl (bk (X_loop (ι := Nat × List ElL × (Nat → Prop)) (fun ⟨i, pre, M⟩ => [(0, .func (.yield lp) #[] #[]), (5, aL A ls c), (6, i6 (ls.length : Int)), (7, i6 (i : Int))]) (fun ⟨i, pre, M⟩ wl => i ≤ ls.length ∧ pre.length = i ∧ LOK ls pre ∧ J pre M wl ∧ kLine.R 78 wl b0 okD (aL A ls c) ls ∧ w1.heap.size ≤ wl.heap.size) (fun ⟨i, pre, M⟩ => ls.length - i) (0, [], M0) ⟨by omega, rfl, LOK.nil _, jJ0, (Kd.R_below hx hW), (hW).size⟩ (by kernel_rfl) ?_))
 rintro ⟨i, pre, M⟩ wl ⟨hi_, hpn, hpok, hJ1, hr1, hhi1⟩
 have hat_ := fun (h_ : i < ls.length) => hat (ls.getD i line0) (getD_mem line0 h_)
 refine sq (X_region ?_)
 by_cases c_1 : (i : Int) < (ls.length : Int)
 ·refine xr1 1 [(8, .eq bT)] [(8, bT)] [] (dT c_1) ?_
  refine nl (sq (ct (sk (sq (bk (sg (xr0 1 [(9, nv i)] [8] ?_)))))))
  obtain ⟨ad_2, B_5, c_6, ha_3, hc_4, hl_7, hC_8⟩ := RX.Kd.atLine (Kd.R_C hr1) (i := (i : Int)) (by omega) (by omega)
  replace hc_4 : CellsAt wl (ad_2.add ((i : Int).toNat * 4)) [i6 ((ls.getD i line0).from_), i6 ((ls.getD i line0).len), .slice B_5 ((ls.getD i line0).attrs.length) c_6, sT ((ls.getD i line0).text)] := hc_4
  replace hl_7 : (ls.getD i line0).attrs.length ≤ c_6 := hl_7
  replace hC_8 : kAttr.C wl B_5 ((ls.getD i line0).attrs.length) (ls.getD i line0).attrs := hC_8
  refine xw 3 [(10, .idx ad_2), (11, .load (.agg #[i6 ((ls.getD i line0).from_), i6 ((ls.getD i line0).len), .slice B_5 ((ls.getD i line0).attrs.length) c_6, sT ((ls.getD i line0).text)]))] [(4, pw wl.heap.size 0), (11, .agg #[i6 ((ls.getD i line0).from_), i6 ((ls.getD i line0).len), .slice B_5 ((ls.getD i line0).attrs.length) c_6, sT ((ls.getD i line0).text)])] [] (wl.alloc (.cells #[i6 0, i6 0, .slice none 0 0, s0] 78)) [A = some ad_2, (0 : Int) ≤ (i : Int), (i : Int) < (ls.length : Int), la 78 (ad_2.add ((i : Int).toNat * 4)) (.agg #[i6 ((ls.getD i line0).from_), i6 ((ls.getD i line0).len), .slice B_5 ((ls.getD i line0).attrs.length) c_6, sT ((ls.getD i line0).text)]) wl] ⟨ha_3, (by omega), (by omega), loadsE rfl rfl hc_4 0 ⟨by kernel_rfl, by kernel_rfl⟩, trivial⟩ ?_
  obtain ⟨w_9, hw_13, hb_10, hk_11, hz_12⟩ := new_world wl #[i6 0, i6 0, .slice none 0 0, s0] 78
  rw [hw_13]
  refine xr0 1 [(3, nv i)] [9] ?_
  refine xst (.agg #[i6 ((ls.getD i line0).from_), i6 ((ls.getD i line0).len), .slice B_5 ((ls.getD i line0).attrs.length) c_6, sT ((ls.getD i line0).text)]) hk_11 0 #[i6 ((ls.getD i line0).from_), i6 ((ls.getD i line0).len), .slice B_5 ((ls.getD i line0).attrs.length) c_6, sT ((ls.getD i line0).text)] (fun w_14 hg_15 hk_16 hz_17 => ?_)
  refine nl (sq (X_region ?_))
  have hat2_ := hat_ (by omega)
  refine xr1 2 [(13, .load (aL B_5 (ls.getD i line0).attrs c_6))] [(13, aL B_5 (ls.getD i line0).attrs c_6)] [11] (lc 49 hk_16 2) ?_
  refine xc 110 ent110 [aL B_5 (ls.getD i line0).attrs c_6] (clone_any _ _ ((ls.getD i line0).attrs) _ (Kd.C_below hC_8 (bg hb_10 hg_15 (Nat.le_refl _))) hat2_) ?_
  rintro e w_22 ⟨A_18, c_19, rfl, hl_20, hr_21, hb_23⟩; refine ⟨_, rfl, ?_⟩
  refine xe0 1 [(0, .func (.yield lp) #[] #[]), (3, nv i), (4, pw wl.heap.size 0), (5, aL A ls c), (6, i6 (ls.length : Int)), (7, nv i), (14, aL A_18 (ls.getD i line0).attrs c_19), (15, pw wl.heap.size 2)] ?_
  refine xst (aL A_18 (ls.getD i line0).attrs c_19) (Blk.below hk_16 hb_23) 2 #[i6 ((ls.getD i line0).from_), i6 ((ls.getD i line0).len), .slice A_18 ((ls.getD i line0).attrs.length) c_19, sT ((ls.getD i line0).text)] (fun w_24 hg_25 hk_26 hz_27 => ?_)
  have hr_28 := Kd.R_off hr_21 (Blk.below hk_16 hb_23) (by decide) hg_25
  refine nl (sq (X_regionI ?_))
  refine XLI_pre 3 (by kernel_rfl) (fun _ _ h_ => h_) ?_
  refine xr 3 [(18, .load (.agg #[i6 ((ls.getD i line0).from_), i6 ((ls.getD i line0).len), .slice A_18 ((ls.getD i line0).attrs.length) c_19, sT ((ls.getD i line0).text)]))] [(16, .func (.yield lp) #[] #[]), (17, nv i), (18, .agg #[i6 ((ls.getD i line0).from_), i6 ((ls.getD i line0).len), .slice A_18 ((ls.getD i line0).attrs.length) c_19, sT ((ls.getD i line0).text)])] [3, 4, 14, 15] [la 78 (⟨wl.heap.size, 0, none⟩) (.agg #[i6 ((ls.getD i line0).from_), i6 ((ls.getD i line0).len), .slice A_18 ((ls.getD i line0).attrs.length) c_19, sT ((ls.getD i line0).text)]) w_24] ⟨loadsB rfl rfl hk_26 0 ⟨by kernel_rfl, by kernel_rfl⟩, trivial⟩ ?_
  refine nl ?_
  have hB_30 : Below wl.heap.size wl w_24 := (bg (bt (bg hb_10 hg_15 (Nat.le_refl _)) hb_23) hg_25 (Nat.le_refl _))
  have hjw_ := (hJb _ _ _ _ hB_30 hJ1)
  have hrw_ := Kd.R_below hr1 hB_30
  have hwl_ : wl.heap.size ≤ w_24.heap.size := (hB_30).size
  have hpok3_ := hpok.snoc (x := ((i : Int), (ls.getD i line0), A_18, c_19)) (by omega) (by rw [hpn]) (by rw [hpn])
  refine XLI_yield rfl rfl rfl rfl [i6 (i : Int), .agg #[i6 ((ls.getD i line0).from_), i6 ((ls.getD i line0).len), .slice A_18 ((ls.getD i line0).attrs.length) c_19, sT ((ls.getD i line0).text)]] (by kernel_rfl) (hY pre M ((i : Int), (ls.getD i line0), A_18, c_19) _ hjw_ ⟨hat2_, _, Nat.le_trans hhi1 ((bg hb_10 hg_15 (Nat.le_refl _))).size, hl_20, hr_28⟩ (by omega)) ?_
  rintro e w_29 (⟨rfl, M3_, hJ3_, hK3_, hM3_⟩ | ⟨rfl, hJ3_⟩)
  ·refine ⟨_, rfl, ?_⟩
   have hpn3_ : (pre ++ [((i : Int), (ls.getD i line0), A_18, c_19)]).length = i + 1 := by rw [List.length_append, List.length_singleton, hpn]
   have hr3_ := hK3_.rowD hrw_ hokD
   have hhi3_ : w1.heap.size ≤ w_29.heap.size := by have := hK3_.size; omega
   refine XLI_of (by kernel_rfl) (fun _ _ h_ => h_) ?_
   refine xr0 1 [(20, bF)] [16, 17, 18, 19] ?_
   refine nl (cf (sk (rg (xr1 2 [(21, .eq (i6 ((i : Int) + 1)))] [(7, i6 ((i : Int) + 1))] [20] (w6 ((i : Int) + 1)) ?_))))
   refine nl ?_
   refine ⟨(i + 1, (pre ++ [((i : Int), (ls.getD i line0), A_18, c_19)]), M3_), by kernel_rfl, ?_, ?_⟩
   ·exact ⟨by omega, hpn3_, hpok3_, hJ3_, hr3_, hhi3_⟩
   (try dsimp only); omega
  refine ⟨_, rfl, ?_⟩
  refine XLI_of (by kernel_rfl) (fun _ _ h_ => h_) ?_
  refine xr0 1 [(20, bT)] [16, 17, 18, 19] ?_
  refine nl (ct (X_ret (rj [] hR_ ?_)))
  exact ⟨⟨_, rfl⟩, .inr ⟨_, hpok3_, hJ3_⟩⟩
 refine xr1 1 [(8, .eq bF)] [(8, bF)] [] (dF c_1) ?_
 refine nl (sq (cf (X_exit (ek [] (hR_ _ _ ?_)))))
 exact ⟨⟨_, rfl⟩, .inl ⟨pre, M, ⟨hpok, by omega⟩, hJ1⟩⟩
theorem ent170 : Ent Tryz.prog 170 := ent_of Tryz.func170 (by kernel_rfl) rfl
theorem ent113 : Ent Tryz.prog 113 := ent_of Tryz.func113 (by kernel_rfl) rfl
theorem r4copied_any (A : Option Addr) (c : Nat) (xs : List At) (w : World) (hx : kAttr.C w A xs.length xs) (hn : xs.length ≤ 100000000) : Calls Tryz.prog 170 #[.slice A xs.length c] w fun e w' => ∃ A' c', e = .returned (.slice A' xs.length c') ∧ xs.length ≤ c' ∧ kAttr.R 57 w' w.heap.size (OkFrom w.heap.size) (.slice A' xs.length c') xs ∧ Below w.heap.size w w' := by
 have hpl : xs.length ≤ 9223372036854775807 := hx.2.1
 refine en Tryz.func170 rfl 6 [(0, aL A xs c)] (fun R_ hR_ => ?_)
 refine sg (xe0 1 [(0, aL A xs c)] ?_)
 refine nl (sg (xw 1 [] [(3, .slice (some ⟨w.heap.size, 0, none⟩) 0 0)] [] (w.alloc (.cells #[] 57)) [] trivial ?_))
 obtain ⟨w_1, hw_5, hb_2, hk_3, hz_4⟩ := new_world w #[] 57
 rw [hw_5]
 refine xr0 1 [(4, aL A xs c)] [0] ?_
 have hr_6 := Kd.R_litB kAttr (W := w) (e := 57) (cs := #[]) [] hk_3 (repsAttr []) (Nat.le_of_ble_eq_true (by kernel_rfl))
 refine XL_appendAll (c' := c) kAttr rfl rfl rfl w.heap.size 57 (.agg #[s0, i6 0, i6 0, s0]) 48 Tryz.underlying49 info57 rfl (by decide) (by omega) ([]) xs (by kernel_rfl) hr_6 (Kd.C_below hx hb_2) kAttr_KM (hb_2).size (by first | omega | (simp; omega)) ?_
 intro A_7 c_8 w_9 hr_10 hc_11 hg_12 hl_13 ha_14
 have he_15 : ([] ++ xs) = xs := List.nil_append _
 rw [he_15] at hr_10 ⊢
 refine xe0 1 [(2, aL A_7 xs c_8)] ?_
 refine nl (X_ret (rj [aL A_7 xs c_8] hR_ ?_))
 exact ⟨_, _, rfl, (RX.Kd.R_len hr_10).2, Kd.R_low hr_10 (Nat.le_refl _), (bgo hb_2 hg_12 hl_13 (Nat.le_refl _))⟩
theorem scz_len (s : ByteArray) : (U.scz s).length = (U.sc s).length := List.length_map ..
theorem scz_rd (s : ByteArray) (i : Nat) (h : i < (U.sc s).length) : rd (U.scz s) (i : Int) = (((U.sc s)[i] : Nat) : Int) := by
 unfold rd U.scz
 rw [Int.toNat_natCast, List.getD_eq_getElem?_getD, List.getElem?_map, List.getElem?_eq_getElem h]; rfl
theorem rows_cell1 {w : World} {base : Nat} {x : CellA} {B : Option Addr} {c : Nat} {ok : Nat → Prop} (h : kAttrs.M w base ok x.attrs [.slice B x.attrs.length c]) : Reps (kCell.M w base ok) 6 [x] (cellV x B c) := by
 have := (Reps.none (kCell.M w base ok) 6).snoc (kCell_M h) rfl
 simpa using this
theorem R_lit1 {W0 W w1 : World} {x : CellA} {B : Option Addr} {c : Nat} {cs : Array Value} (hcs : cs.toList = cellV x B c) (hr : kAttr.R 57 w1 W0.heap.size (OkFrom W0.heap.size) (.slice B x.attrs.length c) x.attrs) (hle : W0.heap.size ≤ W.heap.size) (hB : ∀ k, B.map (·.block) = some k → k < W.heap.size) (hk : w1.heap[W.heap.size]? = some (.cells cs 51 (0, 0))) :
  kCell.R 51 w1 W0.heap.size (OkFrom W0.heap.size) (.slice (some ⟨W.heap.size, 0, none⟩) 1 1) [x] := by
 refine ⟨fun k hk2 => ?_, cs.toList, ⟨by rw [hcs]; rfl, .inr ⟨W.heap.size, 1, cs, rfl, hle, hk, Nat.le_refl _, by decide, by rw [← Array.length_toList, hcs]; rfl, List.take_of_length_le (by rw [hcs]; exact Nat.le_refl _)⟩⟩, ?_⟩
 ·have : W.heap.size = k := by simpa [Value.ownBlock] using hk2
  subst this
  exact hle
 rw [hcs]
 refine rows_cell1 (x := x) ⟨_, rfl, ?_⟩
 obtain ⟨h0, inner, ho, hrr⟩ := hr
 refine ⟨fun k hk3 => ⟨h0 k hk3, fun e1 => ?_⟩, inner, ho, hrr.imp_ (fun p q hp => by rw [kAttr_K (kAttr.K_of_M hp)]; exact kAttr_M _ _ _ _)⟩
 have e2 : k = W.heap.size := by simpa [Value.ownBlock] using e1
 have := hB k (by rw [← ownB (n := x.attrs.length) (c := c)]; exact hk3)
 omega
set_option maxHeartbeats 4000000 in
theorem r4cells_any (o : OpA) (A : Option Addr) (c : Nat) (w : World) (hA : kAttr.C w A o.attrs.length o.attrs) (hz : opSz o) : Calls Tryz.prog 113 #[.agg (o7A o (.slice A o.attrs.length c))] w fun e w' => ∃ A' c', e = .returned (.slice A' (cellsP o).length c') ∧ kCell.R 51 w' w.heap.size (OkFrom w.heap.size) (.slice A' (cellsP o).length c') (cellsP o) ∧ Below w.heap.size w w' := by
 have hz1 := hz.b.1
 have hz3 := hz.2.2.1
 have hscl := U.sc_le o.text
 have hszl := scz_len o.text
 refine en Tryz.func113 rfl 37 [(0, .agg (o7A o (aL A o.attrs c)))] (fun R_ hR_ => ?_)
 refine sg (xwe 1 [] [(1, pw w.heap.size 0)] (w.alloc (.cells (o7A o (aL A o.attrs c)) 102)) [] trivial ?_)
 obtain ⟨w_1, hw_5, hb_2, hk_3, hz_4⟩ := new_world w (o7A o (aL A o.attrs c)) 102
 rw [hw_5]
 refine xr0 1 [] [] ?_
 refine nl (sq (sg (xr1 2 [(7, .load (i6 o.kind))] [(7, i6 o.kind)] [] (lc 3 hk_3 0) ?_)))
 by_cases c_6 : o.kind = 2
 ·refine xr1 1 [(8, .eq bT)] [(8, bT)] [7] (bE c_6) ?_
  refine nl (ct (sq (X_grow [] 10 (tf 0 10) (by kernel_rfl) (by kernel_rfl) (by kernel_rfl) (fun wd_7 hb_8 hh_9 => ?_))))
  refine XB_run (fuel' := 4) (Below.refl _ _) [0, 1, 2, 3, 4, 5] [(10, .load (sT o.text)), (12, .load (.agg #[i6 o.vk, i6 o.vn, sT o.vt])), (14, .load (aL A o.attrs c))] [pw w.heap.size 1, sT o.text, pw w.heap.size 2, .agg #[i6 o.vk, i6 o.vn, sT o.vt], pw w.heap.size 6, aL A o.attrs c] (tf 6 4) [(10, sT o.text), (12, .agg #[i6 o.vk, i6 o.vn, sT o.vt]), (14, aL A o.attrs c)] (fun w_ => [la 9 (⟨w.heap.size, 1, none⟩) (sT o.text) w_, la 48 (⟨w.heap.size, 2, none⟩) (.agg #[i6 o.vk, i6 o.vn, sT o.vt]) w_, la 49 (⟨w.heap.size, 6, none⟩) (aL A o.attrs c) w_]) (fun w_ hC_ => ⟨loads1 rfl (Blk.cell (Blk.below hk_3 (bt hb_8 hC_)) 1 _ rfl), loadsB rfl rfl (Blk.below hk_3 (bt hb_8 hC_)) 2 ⟨by kernel_rfl, by kernel_rfl⟩, loads1 rfl (Blk.cell (Blk.below hk_3 (bt hb_8 hC_)) 6 _ rfl), trivial⟩) ?_
  refine XB_mid (fuel' := 3) 6 (tf 7 3) _ rfl (by kernel_rfl) (by kernel_rfl) rfl ?_
  refine xc 170 ent170 [aL A o.attrs c] (r4copied_any _ _ o.attrs _ (Kd.C_below hA (bt hb_2 hb_8)) (by omega)) ?_
  rintro e w_12 ⟨A_10, c_11, rfl, hl_14, hr_15, hb_13⟩; refine ⟨_, rfl, ?_⟩
  refine nl ?_
  refine ⟨hb_13, ?_⟩
  refine XB_run (fuel' := 2) hb_13 [7] [] [.agg #[.int .i32 (-1), sT o.text, i6 o.vk, i6 o.vn, sT o.vt, aL A_10 o.attrs c_11]] (tf 8 2) [(16, .agg #[.int .i32 (-1), sT o.text, i6 o.vk, i6 o.vn, sT o.vt, aL A_10 o.attrs c_11])] (fun w_ => []) (fun w_ hC_ => trivial) ?_
  refine XB_mid (fuel' := 1) 8 (tf 9 1) _ rfl (by kernel_rfl) (by kernel_rfl) rfl ?_
  refine xwe 1 [] [(17, .slice (some ⟨w_12.heap.size, 0, none⟩) 1 1)] (w_12.alloc (.cells #[.int .i32 (-1), sT o.text, i6 o.vk, i6 o.vn, sT o.vt, aL A_10 o.attrs c_11] 51)) [] trivial ?_
  obtain ⟨w_16, hw_20, hb_17, hk_18, hz_19⟩ := new_world w_12 #[.int .i32 (-1), sT o.text, i6 o.vk, i6 o.vn, sT o.vt, aL A_10 o.attrs c_11] 51
  rw [hw_20]
  refine nl ?_
  refine ⟨(bt hb_13 hb_17), ?_⟩
  refine XB_run (fuel' := 0) (bt hb_13 hb_17) [9] [] [.slice (some ⟨w_12.heap.size, 0, none⟩) 1 1] (tf 10 0) [(2, .slice (some ⟨w_12.heap.size, 0, none⟩) 1 1)] (fun w_ => []) (fun w_ hC_ => trivial) ?_
  refine XB_done (by kernel_rfl) ?_
  refine X_ret (rj [.slice (some ⟨w_12.heap.size, 0, none⟩) 1 1] hR_ ?_)
  rw [cellsP_2 c_6]
  exact ⟨_, _, rfl, Kd.R_low (R_lit1 (x := ⟨-1, o.text, o.vk, o.vn, o.vt, o.attrs⟩) rfl (Kd.R_below hr_15 hb_17) (hb_13).size (RX.Kd.R_lt hr_15) hk_18) ((bt hb_2 hb_8)).size, (bt (bt (bt hb_2 hb_8) hb_13) hb_17)⟩
 refine xr1 1 [(8, .eq bF)] [(8, bF)] [7] (bN c_6) ?_
 refine nl (cf (sk (sg (xw 1 [] [(18, .slice (some ⟨w_1.heap.size, 0, none⟩) 0 0)] [8] (w_1.alloc (.cells #[] 51)) [] trivial ?_))))
 obtain ⟨w_21, hw_25, hb_22, hk_23, hz_24⟩ := new_world w_1 #[] 51
 rw [hw_25]
 refine xr0 1 [(3, .slice (some ⟨w_1.heap.size, 0, none⟩) 0 0)] [18] ?_
 refine nl (sq (sg (xe1 2 [(20, .load (sT o.text))] [(1, pw w.heap.size 0), (3, .slice (some ⟨w_1.heap.size, 0, none⟩) 0 0), (20, sT o.text)] (lc 9 (Blk.below hk_3 hb_22) 1) ?_)))
 refine xc 130 ent130 [sT o.text] (rlist_any o.text _ (by omega)) ?_
 rintro e w_30 ⟨A_26, c_27, rfl, hl_28, hr_29, hb_31⟩; refine ⟨_, rfl, ?_⟩
 refine xr0 2 [(21, aL A_26 (U.scz o.text) c_27), (22, i6 ((U.scz o.text).length : Int)), (23, i6 0)] [20] ?_
 refine nl (X_block ?_)
 have hr_32 := Kd.R_litB kCell (W := w_1) (e := 51) (cs := #[]) [] hk_23 (repsCell0) (Nat.le_of_ble_eq_true (by kernel_rfl))
 refine X_loop (ι := Nat × Option Addr × Nat × List CellA) (fun ⟨i, A6, c6, zs6⟩ => [(1, pw w.heap.size 0), (3, aL A6 zs6 c6), (21, aL A_26 (U.scz o.text) c_27), (22, i6 ((U.scz o.text).length : Int)), (23, i6 (i : Int))]) (fun ⟨i, A6, c6, zs6⟩ wl => i ≤ (U.sc o.text).length ∧ zs6 = ((U.sc o.text).take i).map (cellR o.attrs) ∧ kCell.R 51 wl w_1.heap.size (OkFrom w_1.heap.size) (aL A6 zs6 c6) zs6 ∧ (Kd.int .i32).R 21 wl w_21.heap.size (OkFrom w_21.heap.size) (aL A_26 (U.scz o.text) c_27) (U.scz o.text) ∧ w_21.heap.size ≤ wl.heap.size ∧ Below w_1.heap.size w_1 wl) (fun ⟨i, A6, c6, zs6⟩ => (U.sc o.text).length - i) (0, (some ⟨w_1.heap.size, 0, none⟩), 0, []) ⟨by omega, rfl, (Kd.R_below hr_32 hb_31), hr_29, (hb_31).size, (bt hb_22 hb_31)⟩ (by kernel_rfl) ?_
 rintro ⟨i, A6, c6, zs6⟩ wl ⟨hi, he6, hr6, hq6, hle6, HB⟩
 have hzl : zs6.length = min i (U.sc o.text).length := by rw [he6, List.length_map, List.length_take]
 refine sq (X_region ?_)
 by_cases c_33 : (i : Int) < ((U.scz o.text).length : Int)
 ·refine xr1 1 [(24, .eq bT)] [(24, bT)] [] (dT c_33) ?_
  refine nl (sq (ct (sk (sq (bk (sq (X_region ?_)))))))
  obtain ⟨ad_34, ha_35, hc_36⟩ := Kd.atI (Kd.R_C hq6) (i := (i : Int)) (by omega) (by omega)
  refine xr 3 [(25, .idx ad_34), (26, .load (.int .i32 (rd (U.scz o.text) (i : Int))))] [(5, .int .i32 (rd (U.scz o.text) (i : Int)))] [24] [A_26 = some ad_34, (0 : Int) ≤ (i : Int), (i : Int) < ((U.scz o.text).length : Int), la 21 (ad_34.add ((i : Int).toNat * 1)) (.int .i32 (rd (U.scz o.text) (i : Int))) wl] ⟨ha_35, (by omega), (by omega), loads1 rfl (elem_cell hc_36 0 _ rfl), trivial⟩ ?_
  refine nl (rg (xr1 4 [(30, .load (aL A o.attrs c))] [(27, aL A6 zs6 c6), (28, .int .i32 (rd (U.scz o.text) (i : Int))), (30, aL A o.attrs c)] [3, 5] (lc 49 (Blk.below hk_3 HB) 6) ?_))
  refine xc 170 ent170 [aL A o.attrs c] (r4copied_any _ _ o.attrs _ (Kd.C_below hA (bt hb_2 HB)) (by omega)) ?_
  rintro e w_39 ⟨A_37, c_38, rfl, hl_41, hr_42, hb_40⟩; refine ⟨_, rfl, ?_⟩
  refine xw 2 [] [(33, .slice (some ⟨w_39.heap.size, 0, none⟩) 1 1)] [28, 30, 31] (w_39.alloc (.cells #[.int .i32 (rd (U.scz o.text) (i : Int)), s0, i6 0, i6 0, s0, aL A_37 o.attrs c_38] 51)) [] trivial ?_
  obtain ⟨w_43, hw_47, hb_44, hk_45, hz_46⟩ := new_world w_39 #[.int .i32 (rd (U.scz o.text) (i : Int)), s0, i6 0, i6 0, s0, aL A_37 o.attrs c_38] 51
  rw [hw_47]
  obtain ⟨okp_48, hM_49, hok_50⟩ := Kd.M_rowApart hr_42 (HB).size (Kd.R_below hr6 hb_40) (by decide)
  rw [← hw_47]
  refine XL_append kCell rfl rfl rfl w_1.heap.size 51 (.agg #[.int .i32 0, s0, i6 0, i6 0, s0, .slice none 0 0]) 80 Tryz.underlying39 info51 rfl (by decide) (by omega) zs6 (⟨rd (U.scz o.text) (i : Int), ByteArray.empty, 0, 0, ByteArray.empty, o.attrs⟩ : CellA) [.int .i32 (rd (U.scz o.text) (i : Int)), s0, i6 0, i6 0, s0, aL A_37 o.attrs c_38] okp_48 (by kernel_rfl) (kCell_M (x := (⟨rd (U.scz o.text) (i : Int), ByteArray.empty, 0, 0, ByteArray.empty, o.attrs⟩ : CellA)) hM_49) hok_50 (Kd.R_below hr6 hb_40) ((bt HB hb_40)).size (by first | omega | (simp; omega)) ?_
  intro A_51 c_52 w_53 hr_54 hc_55 hg_56 hl_57 ha_58
  have hr_60 := Kd.R_apart (Kd.R_below hq6 hb_40) (Kd.R_below hr6 hb_40) (by decide) hg_56
  refine xr0 1 [(3, aL A_51 (zs6 ++ [(⟨rd (U.scz o.text) (i : Int), ByteArray.empty, 0, 0, ByteArray.empty, o.attrs⟩ : CellA)]) c_52)] [27, 33, 34] ?_
  refine nl (rg (xe1 2 [(35, .eq (i6 ((i : Int) + 1)))] [(1, pw w.heap.size 0), (3, aL A_51 (zs6 ++ [(⟨rd (U.scz o.text) (i : Int), ByteArray.empty, 0, 0, ByteArray.empty, o.attrs⟩ : CellA)]) c_52), (21, aL A_26 (U.scz o.text) c_27), (22, i6 ((U.scz o.text).length : Int)), (23, i6 ((i : Int) + 1))] (w6 ((i : Int) + 1)) ?_))
  refine nl ?_
  have hB_61 : Below w_1.heap.size w_1 w_53 := (bgo (bt HB hb_40) hg_56 hl_57 (Nat.le_refl _))
  refine ⟨(i + 1, A_51, c_52, (zs6 ++ [(⟨rd (U.scz o.text) (i : Int), ByteArray.empty, 0, 0, ByteArray.empty, o.attrs⟩ : CellA)])), by kernel_rfl, ?_, ?_⟩
  ·have hlt : i < (U.sc o.text).length := by omega
   exact ⟨by omega, by rw [scz_rd o.text i hlt, he6]; exact cells_snoc o.text o.attrs i hlt, hr_54, hr_60, (Nat.le_trans hle6 (Nat.le_trans hb_40.size hg_56.size)), hB_61⟩
  (try dsimp only); omega
 refine xr1 1 [(24, .eq bF)] [(24, bF)] [] (dF c_33) ?_
 refine nl (sq (cf (X_exit (sg (xe0 2 [(2, aL A6 zs6 c6)] ?_)))))
 refine nl (X_ret (rj [aL A6 zs6 c6] hR_ ?_))
 have hend : i = (U.sc o.text).length := by omega
 rw [hend, List.take_length] at he6
 rw [show cellsP o = zs6 from by rw [he6]; exact if_neg c_6]
 exact ⟨_, _, rfl, Kd.R_low hr6 (hb_2).size, (bt hb_2 HB)⟩
theorem ent52 : Ent Tryz.prog 52 := ent_of Tryz.func52 (by kernel_rfl) rfl
set_option maxHeartbeats 1000000 in
theorem r10cells_any (A : Option Addr) (c : Nat) (xs : List OpA) (w : World) (hx : kOp.C w A xs.length xs) (hn : xs.length ≤ 1100000) (hz : ∀ i, i < xs.length → opSz (xs.getD i op0)) (hL : (cellsAll xs).length ≤ 100000000) : Calls Tryz.prog 52 #[.slice A xs.length c] w fun e w' => ∃ A' c' zs, zs = cellsAll xs ∧ e = .returned (.slice A' zs.length c') ∧ zs.length ≤ c' ∧ kCell.R 51 w' w.heap.size (OkFrom w.heap.size) (.slice A' zs.length c') zs ∧ Below w.heap.size w w' := by
 refine en Tryz.func52 rfl 19 [(0, aL A xs c)] (fun R_ hR_ => ?_)
 refine sg (xe0 1 [(0, aL A xs c)] ?_)
 refine nl (sg (xw 1 [] [(6, .slice (some ⟨w.heap.size, 0, none⟩) 0 0)] [] (w.alloc (.cells #[] 51)) [] trivial ?_))
 obtain ⟨w_1, hw_5, hb_2, hk_3, hz_4⟩ := new_world w #[] 51
 rw [hw_5]
 refine xr0 1 [(3, .slice (some ⟨w.heap.size, 0, none⟩) 0 0)] [6] ?_
 refine nl (sq (sg (xr0 3 [(7, aL A xs c), (8, i6 (xs.length : Int)), (9, i6 0)] [0] ?_)))
 refine nl (X_block ?_)
 have hr_6 := Kd.R_litB kCell (W := w) (e := 51) (cs := #[]) [] hk_3 (repsCell0) (Nat.le_of_ble_eq_true (by kernel_rfl))
 refine X_loop (ι := Nat × Option Addr × Nat × List CellA) (fun ⟨i, A3, c3, zs3⟩ => [(3, aL A3 zs3 c3), (7, aL A xs c), (8, i6 (xs.length : Int)), (9, i6 (i : Int))]) (fun ⟨i, A3, c3, zs3⟩ wl => i ≤ xs.length ∧ zs3 = cellsAll (xs.take i) ∧ kCell.R 51 wl w.heap.size (OkFrom w.heap.size) (aL A3 zs3 c3) zs3 ∧ w.heap.size ≤ wl.heap.size ∧ Below w.heap.size w wl) (fun ⟨i, A3, c3, zs3⟩ => xs.length - i) (0, (some ⟨w.heap.size, 0, none⟩), 0, []) ⟨Nat.zero_le _, rfl, hr_6, (hb_2).size, hb_2⟩ (by kernel_rfl) ?_
 rintro ⟨i, A3, c3, zs3⟩ wl ⟨hi, he3, hr3, hle3, HB⟩
 have hz3_ : zs3.length = (cellsAll (xs.take i)).length := by rw [he3]
 refine sq (X_region ?_)
 by_cases c_7 : (i : Int) < (xs.length : Int)
 ·refine xr1 1 [(10, .eq bT)] [(10, bT)] [] (dT c_7) ?_
  refine nl (sq (ct (sk (sq (bk (sq (X_region ?_)))))))
  obtain ⟨ad_8, B_11, c_12, ha_9, hc_10, hl_13, hC_14⟩ := Kd.atOp (Kd.C_below hx HB) (i := (i : Int)) (by omega) (by omega)
  replace hc_10 : CellsAt wl (ad_8.add ((i : Int).toNat * 7)) (o7L (xs.getD i op0) (aL B_11 (xs.getD i op0).attrs c_12)) := hc_10
  replace hl_13 : (xs.getD i op0).attrs.length ≤ c_12 := hl_13
  replace hC_14 : kAttr.C wl B_11 ((xs.getD i op0).attrs.length) (xs.getD i op0).attrs := hC_14
  refine xw 3 [(11, .idx ad_8), (12, .load (.agg (o7A (xs.getD i op0) (aL B_11 (xs.getD i op0).attrs c_12))))] [(5, pw wl.heap.size 0), (12, .agg (o7A (xs.getD i op0) (aL B_11 (xs.getD i op0).attrs c_12)))] [10] (wl.alloc (.cells #[i6 0, s0, i6 0, i6 0, s0, i6 0, .slice none 0 0] 102)) [A = some ad_8, (0 : Int) ≤ (i : Int), (i : Int) < (xs.length : Int), la 102 (ad_8.add ((i : Int).toNat * 7)) (.agg (o7A (xs.getD i op0) (aL B_11 (xs.getD i op0).attrs c_12))) wl] ⟨ha_9, (by omega), (by omega), loadsE rfl rfl hc_10 0 ⟨by kernel_rfl, by kernel_rfl⟩, trivial⟩ ?_
  obtain ⟨w_15, hw_19, hb_16, hk_17, hz_18⟩ := new_world wl #[i6 0, s0, i6 0, i6 0, s0, i6 0, .slice none 0 0] 102
  rw [hw_19]
  refine xst (.agg (o7A (xs.getD i op0) (aL B_11 (xs.getD i op0).attrs c_12))) hk_17 0 (o7A (xs.getD i op0) (aL B_11 (xs.getD i op0).attrs c_12)) (fun w_20 hg_21 hk_22 hz_23 => ?_)
  refine nl (rg (xr 2 [(14, .load (.agg (o7A (xs.getD i op0) (aL B_11 (xs.getD i op0).attrs c_12))))] [(13, aL A3 zs3 c3), (14, .agg (o7A (xs.getD i op0) (aL B_11 (xs.getD i op0).attrs c_12)))] [3, 5, 12] [la 102 (⟨wl.heap.size, 0, none⟩) (.agg (o7A (xs.getD i op0) (aL B_11 (xs.getD i op0).attrs c_12))) w_20] ⟨loadsB rfl rfl hk_22 0 ⟨by kernel_rfl, by kernel_rfl⟩, trivial⟩ ?_))
  refine xc 113 ent113 [.agg (o7A (xs.getD i op0) (aL B_11 (xs.getD i op0).attrs c_12))] (r4cells_any (xs.getD i op0) _ _ _ (Kd.C_below hC_14 (bg hb_16 hg_21 (Nat.le_refl _))) (hz i (by omega))) ?_
  rintro e w_26 ⟨A_24, c_25, rfl, hr_27, hb_28⟩; refine ⟨_, rfl, ?_⟩
  have hcap_ := cellsAll_take (xs := xs) (i := i) (by omega)
  have hcl_ : (cellsAll (xs.take (i + 1))).length ≤ (cellsAll xs).length := cellsAll_le xs (i + 1)
  rw [hcap_, List.length_append] at hcl_
  have hB_37 : Below wl.heap.size wl w_26 := (bt (bg hb_16 hg_21 (Nat.le_refl _)) hb_28)
  refine XL_appendRow (c' := c_25) kCell cell0 rfl rfl rfl w.heap.size 51 (.agg #[.int .i32 0, s0, i6 0, i6 0, s0, .slice none 0 0]) 80 Tryz.underlying39 info51 rfl (by decide) (by omega) rfl zs3 (cellsP (xs.getD i op0)) (by kernel_rfl) (Kd.R_below hr3 hB_37) (Kd.R_low hr_27 ((bg (bt HB hb_16) hg_21 hle3)).size) ((bt (bg (bt HB hb_16) hg_21 hle3) hb_28)).size (by omega) ?_
  intro A_29 c_30 w_31 hr_32 hc_33 hg_34 hl_35 ha_36
  refine xr0 1 [(3, aL A_29 (zs3 ++ cellsP (xs.getD i op0)) c_30)] [13, 14, 15, 16] ?_
  refine nl (rg (xr1 2 [(17, .eq (i6 ((i : Int) + 1)))] [(9, i6 ((i : Int) + 1))] [] (w6 ((i : Int) + 1)) ?_))
  refine nl ?_
  have hB_38 : Below w.heap.size w w_31 := (bgo (bt (bg (bt HB hb_16) hg_21 hle3) hb_28) hg_34 hl_35 (Nat.le_refl _))
  refine ⟨(i + 1, A_29, c_30, (zs3 ++ cellsP (xs.getD i op0))), by kernel_rfl, ?_, ?_⟩
  ·exact ⟨by omega, by rw [cellsAll_take (by omega), he3], hr_32, (hB_38).size, hB_38⟩
  (try dsimp only); omega
 refine xr1 1 [(10, .eq bF)] [(10, bF)] [] (dF c_7) ?_
 refine nl (sq (cf (X_exit (sg (xe0 2 [(2, aL A3 zs3 c3)] ?_)))))
 refine nl (X_ret (rj [aL A3 zs3 c3] hR_ ?_))
 have hxi : xs.take i = xs := List.take_of_length_le (by omega)
 rw [hxi] at he3
 exact ⟨_, _, zs3, he3, rfl, (RX.Kd.R_len hr3).2, Kd.R_low hr3 (Nat.le_refl _), HB⟩
theorem sc_letL {xs : List OpA} : ∀ c ∈ cellsAll xs, U.vz (letL c) := by
 intro c hc
 obtain ⟨o, _, hc⟩ := List.mem_flatMap.1 hc
 unfold cellsP at hc
 split at hc
 ·rw [List.mem_singleton.1 hc]; show U.vz 65532; unfold U.vz; exact ⟨by decide, by unfold U.vr; decide⟩
 obtain ⟨r, hr, rfl⟩ := List.mem_map.1 hc
 have hv := U.sc_ok o.text r hr
 have e : letL (cellR o.attrs r) = (r : Int) := if_neg (by show ¬ ((r : Int) < 0); omega)
 rw [e]
 exact ⟨Int.natCast_nonneg _, by rw [Int.toNat_natCast]; exact hv⟩
end Go.Proofs.YtgphmfnkeolbcaaGreatDoor

set_option linter.unusedVariables false
set_option maxRecDepth 100000
namespace Go.Proofs.YtgphmfnkeolbcaaGreatDoor.RX
open Go Go.RowKit Go.Proofs.YtgphmfnkeolbcaaGreatDoor Go.Proofs.YtgphmfnkeolbcaaGreatDoorW.PrintWords
def setT (x : OpA) (t : ByteArray) : OpA := ⟨x.kind, t, x.vk, x.vn, x.vt, x.count, x.attrs⟩
def setN (x : OpA) (n : Int) : OpA := ⟨x.kind, x.text, x.vk, x.vn, x.vt, n, x.attrs⟩
section
variable {e B : Nat} {W0 w w1 : World} {A : Option Addr} {n c : Nat} {xs : List OpA}
theorem MixK.set1 {vs : List (List Value)} {i : Nat} {x' : OpA} {cs : List Value} (h : MixK kOp op0 e B W0 w A n c xs) (hl : vs.length = xs.length) (hK : ∀ i, i < xs.length → kOp.K W0 (xs.getD i op0) (vs.getD i [])) (hR : (kRaw 7).R e w1 B (OkFrom B) (.slice A n c) (vs.set i cs)) (hx : kOp.K W0 x' cs) : MixK kOp op0 e B W0 w1 A n c (xs.set i x') := by
  refine ⟨vs.set i cs, hR, by rw [List.length_set, List.length_set, hl], fun j hj => ?_⟩
  rw [List.length_set] at hj
  rw [List.getD_eq_getElem?_getD, List.getD_eq_getElem?_getD, List.getElem?_set, List.getElem?_set]
  by_cases e1 : i = j
  · subst e1
    rw [if_pos rfl, if_pos rfl, if_pos hj, if_pos (by omega)]
    exact hx
  · rw [if_neg e1, if_neg e1, ← List.getD_eq_getElem?_getD, ← List.getD_eq_getElem?_getD]
    exact hK j hj
end
variable {P : Program} {N : Nat} {ops : Array Oper} {qs : QS} {rest : List Oper} {o : Oper} {l : Slots}
theorem XL_mixText {e B : Nat} {W0 w : World} {A : Option Addr} {n c : Nat} {xs : List OpA} {t : TypeId} {p x : Operand} (ho : o.op = .store t p x) (hdn : o.dst = none) (hg : gd ops l o = some true) {ad : Addr} {i : Int} (s : ByteArray) (hv : evs l [p, x] = some [.pointer (some ((ad.add (i.toNat * 7)).add 1)), .string s]) (hA : A = some ad)
    (h : MixK kOp op0 e B W0 w A n c xs) (h0 : 0 ≤ i) (hi : i < n) (ht : sizeP P t = some 1)
    (hn : ∀ w1, MixK kOp op0 e B W0 w1 A n c (xs.set i.toNat (setT (xs.getD i.toNat op0) s)) → w.grownBy w1 (A.map (·.block)) → (∀ k, A.map (·.block) = some k → B ≤ k) → XL P N ops rest qs l w1) : XL P N ops (o :: rest) qs l w := by
  obtain ⟨hl1, _⟩ := h.len
  obtain ⟨vs, hR, hl, hK⟩ := h
  refine XL_rowpart 7 ho hdn hg B e 1 vs hv hA hR h0 hi [.string s] ⟨rfl, rfl⟩ (by simp only [List.length_singleton]; omega) ht fun w1 h1 h2 h3 => hn w1 (MixK.set1 ⟨vs, hR, hl, hK⟩ hl hK h1 ?_) h2 h3
  obtain ⟨A', c', e1, h4, h5⟩ := kOp_K (hK i.toNat (by omega))
  rw [e1]
  exact kOp_K_of (x := setT (xs.getD i.toNat op0) s) h4 h5
theorem XL_mixCount {e B : Nat} {W0 w : World} {A : Option Addr} {n c : Nat} {xs : List OpA} {t : TypeId} {p x : Operand} (ho : o.op = .store t p x) (hdn : o.dst = none) (hg : gd ops l o = some true) {ad : Addr} {i : Int} (s : Int) (hv : evs l [p, x] = some [.pointer (some ((ad.add (i.toNat * 7)).add 5)), .int .i64 s]) (hA : A = some ad)
    (h : MixK kOp op0 e B W0 w A n c xs) (h0 : 0 ≤ i) (hi : i < n) (ht : sizeP P t = some 1)
    (hn : ∀ w1, MixK kOp op0 e B W0 w1 A n c (xs.set i.toNat (setN (xs.getD i.toNat op0) s)) → w.grownBy w1 (A.map (·.block)) → (∀ k, A.map (·.block) = some k → B ≤ k) → XL P N ops rest qs l w1) : XL P N ops (o :: rest) qs l w := by
  obtain ⟨hl1, _⟩ := h.len
  obtain ⟨vs, hR, hl, hK⟩ := h
  refine XL_rowpart 7 ho hdn hg B e 5 vs hv hA hR h0 hi [.int .i64 s] ⟨rfl, rfl⟩ (by simp only [List.length_singleton]; omega) ht fun w1 h1 h2 h3 => hn w1 (MixK.set1 ⟨vs, hR, hl, hK⟩ hl hK h1 ?_) h2 h3
  obtain ⟨A', c', e1, h4, h5⟩ := kOp_K (hK i.toNat (by omega))
  rw [e1]
  exact kOp_K_of (x := setN (xs.getD i.toNat op0) s) h4 h5
section
variable {α : Type} {d : Kd α} {z : α} {e B : Nat} {W0 W w w1 : World} {A A' : Option Addr} {n c m c' : Nat} {xs ys : List α}
theorem XL_appendMixH {s x : Operand} {t : TypeId} (z : α) (ho : o.op = .call { callee := .builtin .append, args := #[s, x], argTypes := #[t, t] }) (hg : gd ops l o = some true) (hd : okD N o.dst = true) (e : Nat) (zv : Value) (bytes : Nat)
    (ht : P.underlying t = some (.slice e)) (hinfo : (P.info? e).map (fun i => (i.zero, i.size, i.bytes)) = some (some zv, d.sz, bytes)) (hz : zv.cells.size = d.sz) (hs0 : 0 < d.sz) (hb0 : 0 < bytes)
    (xs ys : List α) (vs2 : List (List Value)) (hv : evs l [s, x] = some [.slice A n c, .slice A' m c'])
    (HO : MixK d z e B W0 W A n c xs) (HC : (kRaw d.sz).C W A' m vs2) (hm : ys.length = m) (hK : ∀ i, i < m → d.K W0 (ys.getD i z) (vs2.getD i [])) (hbase : B ≤ W.heap.size) (hl : (xs.length + m) * bytes ≤ 140737488355328)
    (hn : ∀ A1 c1 w1, MixK d z e B W0 w1 A1 (xs ++ ys).length c1 (xs ++ ys) → W.grownBy w1 (A.map (·.block)) → (∀ k, A.map (·.block) = some k → B ≤ k) → (A1.map (·.block) = A.map (·.block) ∨ ∃ b, A1.map (·.block) = some b ∧ W.heap.size ≤ b) → XL P N ops rest qs (putS l o.dst (.slice A1 (xs ++ ys).length c1)) w1) : XL P N ops (o :: rest) qs l W := by
  obtain ⟨vs, hR, hlv, hE⟩ := HO
  have hlen2 : vs2.length = m := HC.1
  refine XL_appendAll (kRaw d.sz) ho hg hd B e zv bytes ht hinfo hz hs0 hb0 vs vs2 hv hR HC (fun _ _ h => h) hbase (by rw [hlv]; exact hl) ?_
  intro A1 c1 w1 hr hc hgr hle hat
  have hlen : (vs ++ vs2).length = (xs ++ ys).length := by simp [hlv, hlen2, hm]
  rw [hlen] at hr ⊢
  refine hn A1 c1 w1 ⟨vs ++ vs2, hr, hlen, fun i hi => ?_⟩ hgr hle hat
  rw [List.getD_eq_getElem?_getD, List.getD_eq_getElem?_getD]
  by_cases hx : i < xs.length
  · rw [List.getElem?_append_left hx, List.getElem?_append_left (by omega), ← List.getD_eq_getElem?_getD, ← List.getD_eq_getElem?_getD]
    exact hE i hx
  · rw [List.getElem?_append_right (by omega), List.getElem?_append_right (by omega), hlv, ← List.getD_eq_getElem?_getD, ← List.getD_eq_getElem?_getD]
    rw [List.length_append] at hi
    exact hK _ (by omega)
end
end Go.Proofs.YtgphmfnkeolbcaaGreatDoor.RX
