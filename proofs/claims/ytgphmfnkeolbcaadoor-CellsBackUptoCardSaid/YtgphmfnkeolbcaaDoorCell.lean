import Derived.Test.YtgphmfnkeolbcaaDoorT6
import Derived.Test.YtgphmfnkeolbcaaDoorOp2
/- The laws of layer build: their fixed fact, what is large. Conditions: sizes, the tables of utf8, the errors' variables. -/

set_option linter.unusedVariables false
set_option linter.unusedSimpArgs false
set_option maxRecDepth 100000
namespace Go.Proofs.YtgphmfnkeolbcaaDoor
open Go Go.RowKit Go.Proofs.YtgphmfnkeolbcaaDoorW.PrintWords RX
theorem can_facts {xs : List OpA} (h : (B.bOf xs).2 = 0) (hn : xs.length ≤ 500000) (hz : ∀ i, i < xs.length → opSz (xs.getD i op0)) (ht : B.txS xs ≤ 50000000) : badE (B.can xs) = 0 ∧ (B.can xs).length ≤ 1100000 ∧ (∀ i, i < (B.can xs).length → opSz ((B.can xs).getD i op0)) ∧ Can (B.can xs) := by
  obtain ⟨c1, c2⟩ := B.bOf_canOk h
  have hl := B.can_len xs
  have hs := B.can_sz (xs := xs) (fun o ho => by
    obtain ⟨i, hi, rfl⟩ := List.getElem_of_mem ho
    have := hz i hi
    rw [List.getD_eq_getElem?_getD, List.getElem?_eq_getElem hi] at this
    exact B.fine_of this) ht
  exact ⟨c2, by omega, fun i hi => hs _ (getD_mem op0 hi), c1⟩
end Go.Proofs.YtgphmfnkeolbcaaDoor
/- measure.Concat: one list of operations behind another, made canonical. Conditions: sizes, the tables of utf8, the errors' variables. -/

set_option linter.unusedVariables false
set_option linter.unusedSimpArgs false
set_option maxRecDepth 100000
namespace Go.Proofs.YtgphmfnkeolbcaaDoor
open Go Go.RowKit Go.Proofs.YtgphmfnkeolbcaaDoorW.PrintWords RX
theorem ent40 : Ent Tryd.prog 40 := ent_of Tryd.func40 (by kernel_rfl) rfl
theorem ent22 : Ent Tryd.prog 22 := ent_of Tryd.func22 (by kernel_rfl) rfl
set_option maxHeartbeats 4000000 in
theorem mpush_any (d k0 : Nat) (xs ys : List OpA) (wB : World) (g : Nat) (A : Option Addr) (c : Nat) (w : World) (hB0 : Below wB.heap.size wB w) (hgB : wB.heap.size ≤ g) (hk : RX.Blk w g 112 #[.int .i64 (sB (xs.take k0)), .int .i64 (sR (xs.take k0)), .slice A (List.map pOf ((B.run (xs.take k0)).1)).length c, .int .i64 ((B.run (xs.take k0)).2)]) (hR : kPiece.R 87 w wB.heap.size (OkFrom wB.heap.size) (.slice A (List.map pOf ((B.run (xs.take k0)).1)).length c) (List.map pOf ((B.run (xs.take k0)).1))) (hd : DeltaC wB d ys) (hyb : badE ys = 0) (hyn : ys.length ≤ 1100000) (hyz : ∀ i, i < ys.length → opSz (ys.getD i op0))
  (hy : ∀ i, i < ys.length → ys.getD i op0 = xs.getD (k0 + i) op0) (hk0 : k0 + ys.length ≤ xs.length) (h0 : (B.bOf xs).2 = 0) (hfi : ∀ o ∈ xs, B.fine o) (ht : B.txS xs ≤ 50000000) (hn : xs.length ≤ 40000000) (hT : Tabs wB) (es : List Addr) (hE : ErrsO wB es) :
  Calls Tryd.prog 40 #[.pointer (some ⟨g, 0, none⟩), .pointer (some ⟨d, 0, none⟩)] w fun e w' => ∃ A' c', e = .returned .nilIface ∧ RX.Blk w' g 112 #[.int .i64 (sB (xs.take (k0 + ys.length))), .int .i64 (sR (xs.take (k0 + ys.length))), .slice A' (List.map pOf ((B.run (xs.take (k0 + ys.length))).1)).length c', .int .i64 ((B.run (xs.take (k0 + ys.length))).2)] ∧ kPiece.R 87 w' wB.heap.size (OkFrom wB.heap.size) (.slice A' (List.map pOf ((B.run (xs.take (k0 + ys.length))).1)).length c') (List.map pOf ((B.run (xs.take (k0 + ys.length))).1)) ∧ Below wB.heap.size wB w' := by
 have hb0 := B.first_zero (f := B.bE xs) (n := xs.length) h0
 have hgl0_ := hk.lt
 refine RX.enter Tryd.func40 rfl 22 rfl [(0, .pointer (some ⟨g, 0, none⟩)), (1, .pointer (some ⟨d, 0, none⟩))] rfl (by kernel_rfl) (fun R_ hR_ => ?_)
 refine sq (rg (xe0 1 [(0, pw g 0), (1, pw d 0)] ?_))
 refine nl (sq (sq (rg (xr0 1 [(8, pw d 0)] [1] ?_))))
 refine xc 8 ent8 [.pointer (some ⟨d, 0, none⟩)] (dops_any d ys _ (hd.below hB0) hyb hyn hyz) ?_
 rintro e w_3 ⟨A_1, c_2, rfl, hl_4, hr_5, hb_6⟩; refine ⟨_, rfl, ?_⟩
 have hr9_ : kOp.R 59 w_3 w.heap.size (fun k_ => w.heap.size ≤ k_ ∧ k_ < w_3.heap.size) (.slice A_1 ys.length c_2) ys := Kd.R_mono (Kd.R_bound hr_5) (fun k_ hk_ => ⟨hk_.2.1, hk_.2.2.1⟩)
 refine xr0 2 [(9, .slice A_1 ys.length c_2), (10, .int .i64 (ys.length : Int)), (11, .int .i64 0)] [8] ?_
 refine nl (X_block ?_)
 have hlo_ : w.heap.size ≤ w_3.heap.size := (hb_6).size
 have hhi_ : w_3.heap.size ≤ w_3.heap.size := (Nat.le_refl _)
 refine X_loop (ι := Nat × Option Addr × Nat) (fun ⟨i, A5, c5⟩ => [(0, .pointer (some ⟨g, 0, none⟩)), (9, .slice A_1 ys.length c_2), (10, .int .i64 (ys.length : Int)), (11, .int .i64 (i : Int))]) (fun ⟨i, A5, c5⟩ wl => i ≤ ys.length ∧ RX.Blk wl g 112 #[.int .i64 (sB (xs.take (k0 + i))), .int .i64 (sR (xs.take (k0 + i))), .slice A5 (List.map pOf ((B.run (xs.take (k0 + i))).1)).length c5, .int .i64 ((B.run (xs.take (k0 + i))).2)] ∧ kPiece.R 87 wl wB.heap.size (OkFrom wB.heap.size) (.slice A5 (List.map pOf ((B.run (xs.take (k0 + i))).1)).length c5) (List.map pOf ((B.run (xs.take (k0 + i))).1)) ∧ kOp.R 59 wl w.heap.size (fun k_ => w.heap.size ≤ k_ ∧ k_ < w_3.heap.size) (.slice A_1 ys.length c_2) ys ∧ (∀ k_, A5.map (·.block) = some k_ → k_ < w.heap.size ∨ w_3.heap.size ≤ k_) ∧ w_3.heap.size ≤ wl.heap.size ∧ Below wB.heap.size wB wl) (fun ⟨i, A5, c5⟩ => ys.length - i) (0, A, c) ⟨Nat.zero_le _, by rw [Nat.add_zero]; exact (Blk.below hk hb_6), by rw [Nat.add_zero]; exact (Kd.R_below hR hb_6), hr9_, (fun k_ h_ => .inl (by first | exact Kd.R_lt hR k_ h_ | exact Nat.lt_of_lt_of_le (Kd.R_lt hR k_ h_) (Nat.le_refl _))), hhi_, (bt hB0 hb_6)⟩ (by kernel_rfl) ?_
 rintro ⟨i, A5, c5⟩ wl ⟨hi, hkl, hrl, hrr, hA5_, hWs_, HB⟩
 have hiv := B.inv_at (xs := xs) (i := k0 + i) (by omega) (fun j_ h_ => hb0 j_ (by omega))
 have hup := B.bE_upto (xs := xs) (i := k0 + i) (by omega) (fun j_ h_ => hb0 j_ (by omega))
 have hgn := B.inv_gone hiv hup.2.1
 have hln := B.run_len (xs.take (k0 + i))
 rw [List.length_take] at hln
 have hszr := B.run_sz (xs.take (k0 + i)) (fun o_ ho_ => hfi o_ (List.mem_of_mem_take ho_))
 have htk := B.txS_take xs (k0 + i)
 have hsB0 := sB_ok hup.1
 have hsR0 := sR_ok hup.1
 have hL_ : B.L = 1099511627776 := rfl
 refine sq (X_region ?_)
 by_cases c_7 : (i : Int) < (ys.length : Int)
 ·refine xr 1 [(12, .eq (.bool true))] [(12, .bool true)] [] [Value.bool (decide ((i : Int) < (ys.length : Int))) = Value.bool true] ⟨congrArg Value.bool (decide_eq_true (c_7)), trivial⟩ ?_
  refine nl (sq (ct (sk (sq (bk (sq (X_region ?_)))))))
  obtain ⟨ad_8, B_11, c_12, ha_9, hc_10, hl_13, hC_14⟩ := Kd.atOp (Kd.R_C hrr) (i := (i : Int)) (by omega) (by omega)
  replace hc_10 : CellsAt wl (ad_8.add ((i : Int).toNat * 7)) (o7L (ys.getD i op0) (.slice B_11 ((ys.getD i op0).attrs.length) c_12)) := hc_10
  replace hl_13 : (ys.getD i op0).attrs.length ≤ c_12 := hl_13
  replace hC_14 : kAttr.C wl B_11 ((ys.getD i op0).attrs.length) (ys.getD i op0).attrs := hC_14
  refine xw 3 [(13, .idx ad_8), (14, .load (.agg (o7A (ys.getD i op0) (.slice B_11 ((ys.getD i op0).attrs.length) c_12))))] [(6, pw wl.heap.size 0), (14, .agg (o7A (ys.getD i op0) (.slice B_11 ((ys.getD i op0).attrs.length) c_12)))] [12] (wl.alloc (.cells #[.int .i64 0, .string ByteArray.empty, .int .i64 0, .int .i64 0, .string ByteArray.empty, .int .i64 0, .slice none 0 0] 59)) [A_1 = some ad_8, (0 : Int) ≤ (i : Int), (i : Int) < (ys.length : Int), LoadsAs Tryd.prog 59 (ad_8.add ((i : Int).toNat * 7)) (.agg (o7A (ys.getD i op0) (.slice B_11 ((ys.getD i op0).attrs.length) c_12))) wl] ⟨ha_9, (by omega), (by omega), loadsE rfl rfl hc_10 0 ⟨by kernel_rfl, by kernel_rfl⟩, trivial⟩ ?_
  obtain ⟨w_15, hw_19, hb_16, hk_17, hz_18⟩ := new_world wl #[.int .i64 0, .string ByteArray.empty, .int .i64 0, .int .i64 0, .string ByteArray.empty, .int .i64 0, .slice none 0 0] 59
  rw [hw_19]
  refine xst (.agg (o7A (ys.getD i op0) (.slice B_11 ((ys.getD i op0).attrs.length) c_12))) hk_17 0 (o7A (ys.getD i op0) (.slice B_11 ((ys.getD i op0).attrs.length) c_12)) (fun w_20 hg_21 hk_22 hz_23 => ?_)
  refine nl (sq (rg (xr 2 [(16, .load (.agg (o7A (ys.getD i op0) (.slice B_11 ((ys.getD i op0).attrs.length) c_12))))] [(15, pw g 0), (16, .agg (o7A (ys.getD i op0) (.slice B_11 ((ys.getD i op0).attrs.length) c_12)))] [6, 14] [LoadsAs Tryd.prog 59 (⟨wl.heap.size, 0, none⟩) (.agg (o7A (ys.getD i op0) (.slice B_11 ((ys.getD i op0).attrs.length) c_12))) w_20] ⟨loadsB rfl rfl hk_22 0 ⟨by kernel_rfl, by kernel_rfl⟩, trivial⟩ ?_)))
  have hyi_ := hy i (by omega)
  have hgl_ : g < w.heap.size := Nat.lt_of_lt_of_le hgl0_ (Nat.le_refl _)
  refine xc 43 ent43 [.pointer (some ⟨g, 0, none⟩), .agg (o7A (ys.getD i op0) (.slice B_11 ((ys.getD i op0).attrs.length) c_12))] (push_any (ys.getD i op0) _ _ wB g _ _ (B.run (xs.take (k0 + i))) _ _ _ (bg (bt HB hb_16) hg_21 (HB).size) hgB (Blk.below hkl (bg hb_16 hg_21 (Nat.le_refl _))) (Kd.R_below hrl (bg hb_16 hg_21 (Nat.le_refl _))) ⟨hsB0, hup.2.1⟩ ⟨hsR0, hup.2.2⟩ ⟨hiv.g0, hgn⟩ hiv.good (by omega) (B.lst_txt (by omega)) (Kd.C_below hC_14 (bg hb_16 hg_21 (Nat.le_refl _))) hl_13 (hyz i (by omega)) hT es hE) ?_
  rintro e w_24 ⟨ht_25, ⟨h1_26, rfl, A_27, c_28, hk_29, hr_30, hat_31⟩ | ⟨h1_26, rfl, hk_29, hr_30⟩⟩
  ·refine ⟨_, rfl, ?_⟩
   have hB_32 : Below wB.heap.size wB w_24 := (bg (bt HB hb_16) hg_21 (HB).size).trans (Two.belowB ht_25 hgB (Kd.R_ge (Kd.R_below hrl (bg hb_16 hg_21 (Nat.le_refl _)))) ((bg (bt HB hb_16) hg_21 (HB).size)).size)
   have hr_33 := Kd.R_two (Kd.R_below hrr (bg hb_16 hg_21 (Nat.le_refl _))) ht_25 (fun h_ => by omega) (fun x_ e_ h_ => by have h2_ := hA5_ x_ e_; omega)
   have hww_ : wl.heap.size ≤ w_20.heap.size := ((bg hb_16 hg_21 (Nat.le_refl _))).size
   have hA_34 : ∀ k_, A_27.map (·.block) = some k_ → k_ < w.heap.size ∨ w_3.heap.size ≤ k_ := fun k_ e_ => by rcases hat_31 with h_ | ⟨b_, h_, h2_⟩; (· rw [h_] at e_; exact hA5_ k_ e_); (· rw [h_] at e_; injection e_ with e_; subst e_; exact .inr (by omega))
   have hWs2_ : w_3.heap.size ≤ w_24.heap.size := by have := ht_25.size; omega
   rw [hyi_] at hk_29 hr_30
   refine xr0 1 [(7, .nilIface)] [15, 16, 17] ?_
   refine nl (sq (rg (xr0 2 [(19, .bool false)] [] ?_)))
   refine nl (cf (sk (rg (xe 2 [(21, .eq (.int .i64 ((i : Int) + 1)))] [(0, pw g 0), (9, .slice A_1 ys.length c_2), (10, .int .i64 (ys.length : Int)), (11, .int .i64 ((i : Int) + 1))] [Value.int .i64 (IntKind.i64.wrap ((i : Int) + 1)) = Value.int .i64 ((i : Int) + 1)] ⟨wr_i64 (by omega) (by omega), trivial⟩ ?_))))
   refine nl ?_
   refine ⟨(i + 1, A_27, c_28), by kernel_rfl, ?_, ?_⟩
   ·exact ⟨by omega, by rw [show k0 + (i + 1) = (k0 + i) + 1 from rfl, B.run_succ (by omega), B.sB_take (by omega), B.sR_take (by omega)]; exact hk_29, by rw [show k0 + (i + 1) = (k0 + i) + 1 from rfl, B.run_succ (by omega)]; exact hr_30, hr_33, hA_34, hWs2_, hB_32⟩
   (try dsimp only); omega
  have hbi_ := hb0 (k0 + i) (by omega); rw [bE_pushE (by omega), ← hyi_] at hbi_; exact absurd hbi_ h1_26
 refine xr 1 [(12, .eq (.bool false))] [(12, .bool false)] [] [Value.bool (decide ((i : Int) < (ys.length : Int))) = Value.bool false] ⟨congrArg Value.bool (decide_eq_false (c_7)), trivial⟩ ?_
 refine nl (sq (cf (X_exit (sq (rg (xe0 1 [(4, .nilIface)] ?_))))))
 refine nl (X_ret (rk [.nilIface] (hR_ _ _ ?_)))
 obtain rfl : i = ys.length := by omega
 exact ⟨_, _, rfl, hkl, hrl, HB⟩
theorem getD_front {a b : List OpA} {i : Nat} (h : i < a.length) : a.getD i op0 = (a ++ b).getD (0 + i) op0 := by
 rw [Nat.zero_add, List.getD_eq_getElem?_getD, List.getD_eq_getElem?_getD, List.getElem?_append_left h]
theorem getD_back {a b : List OpA} {i : Nat} : b.getD i op0 = (a ++ b).getD (a.length + i) op0 := by
 rw [List.getD_eq_getElem?_getD, List.getD_eq_getElem?_getD, List.getElem?_append_right (by omega), Nat.add_sub_cancel_left]
set_option maxHeartbeats 2000000 in
theorem mconcat_any (d1 d2 : Nat) (a b : List OpA) (w : World) (hd1 : DeltaC w d1 a) (hd2 : DeltaC w d2 b) (hb1 : badE a = 0) (hn1 : a.length ≤ 1100000) (hz1 : ∀ i, i < a.length → opSz (a.getD i op0)) (hb2 : badE b = 0) (hn2 : b.length ≤ 1100000) (hz2 : ∀ i, i < b.length → opSz (b.getD i op0)) (h0 : (B.bOf (a ++ b)).2 = 0) (ht : B.txS (a ++ b) ≤ 50000000) (hT : Tabs w) (es : List Addr) (hE : ErrsO w es) :
  Calls Tryd.prog 22 #[.pointer (some ⟨d1, 0, none⟩), .pointer (some ⟨d2, 0, none⟩)] w fun e w' => ∃ d A' c', e = .returned (.tuple #[.pointer (some ⟨d, 0, none⟩), .nilIface]) ∧ DeltaR w' w.heap.size d A' c' (B.can (a ++ b)) ∧ Below w.heap.size w w' := by
 have hfa : ∀ (l : List OpA), (∀ i, i < l.length → opSz (l.getD i op0)) → ∀ o ∈ l, B.fine o := fun l hz o ho => by
  obtain ⟨i, hi, rfl⟩ := List.getElem_of_mem ho
  have := hz i hi
  rw [List.getD_eq_getElem?_getD, List.getElem?_eq_getElem hi] at this
  exact B.fine_of this
 have hfi : ∀ o ∈ a ++ b, B.fine o := fun o ho => (List.mem_append.1 ho).elim (hfa a hz1 o) (hfa b hz2 o)
 have hln : (a ++ b).length = a.length + b.length := List.length_append ..
 refine RX.enter Tryd.func22 rfl 24 rfl [(0, .pointer (some ⟨d1, 0, none⟩)), (1, .pointer (some ⟨d2, 0, none⟩))] rfl (by kernel_rfl) (fun R_ hR_ => ?_)
 refine sq (rg (xe0 2 [(0, pw d1 0), (1, pw d2 0)] ?_))
 refine nl (sq (rg (xc 35 ent35 [] (bnew_any _) ?_)))
 rintro e w_1 ⟨g, rfl, hg_2, hk_3, hb_4⟩; refine ⟨_, rfl, ?_⟩
 have hgw_ : w.heap.size ≤ g := Nat.le_trans (Nat.le_refl _) hg_2
 refine xr0 1 [(6, pw g 0)] [9] ?_
 refine nl (sq (sq (rg (xr0 2 [(10, pw g 0), (11, pw d1 0)] [0] ?_))))
 refine xc 40 ent40 [.pointer (some ⟨g, 0, none⟩), .pointer (some ⟨d1, 0, none⟩)] (mpush_any d1 0 (a ++ b) a w g none 0 _ hb_4 hgw_ hk_3 (Kd.R_nil _ _ _ _ _) hd1 hb1 hn1 hz1 (fun _ h_ => getD_front h_) (by omega) h0 hfi ht (by omega) hT es hE) ?_
 rintro e w_7 ⟨A_5, c_6, rfl, hk_8, hr_9, hb_10⟩; refine ⟨_, rfl, ?_⟩
 rw [Nat.zero_add] at hk_8 hr_9
 refine xr0 1 [(7, .nilIface)] [10, 11, 12] ?_
 refine nl (sq (rg (xr0 2 [(14, .bool false)] [] ?_)))
 refine nl (cf (sk (sq (sq (rg (xr0 2 [(16, pw g 0), (17, pw d2 0)] [1, 7, 14] ?_))))))
 refine xc 40 ent40 [.pointer (some ⟨g, 0, none⟩), .pointer (some ⟨d2, 0, none⟩)] (mpush_any d2 a.length (a ++ b) b w g A_5 c_6 _ hb_10 hgw_ hk_8 hr_9 hd2 hb2 hn2 hz2 (fun _ _ => getD_back) (by omega) h0 hfi ht (by omega) hT es hE) ?_
 rintro e w_13 ⟨A_11, c_12, rfl, hk_14, hr_15, hb_16⟩; refine ⟨_, rfl, ?_⟩
 refine xe0 1 [(6, pw g 0), (8, .nilIface)] ?_
 refine nl (sq (rg (xr0 2 [(20, .bool false)] [] ?_)))
 refine nl (cf (sk (sq (rg (xe0 1 [(22, pw g 0)] ?_)))))
 have hall_ : (a ++ b).take (a.length + b.length) = a ++ b := List.take_of_length_le (by omega)
 rw [hall_] at hk_14 hr_15
 have hup := B.bOf_ok h0
 have hiv := B.run_ok (a ++ b) hup.1 hup.2.1
 have hgn := B.inv_gone hiv hup.2.1
 have hrl := B.run_len (a ++ b)
 have hL_ : B.L = 1099511627776 := rfl
 refine xc 37 ent37 [.pointer (some ⟨g, 0, none⟩)] (bdelta_any w g _ _ (B.run (a ++ b)) _ _ _ (hb_16).size hk_14 hr_15 ⟨hiv.g0, hgn⟩ hiv.good (by omega)) ?_
 rintro e w_19 ⟨d, A_17, c_18, rfl, hd_20, hk_21, hr_22, hsp_23, hb_24⟩; refine ⟨_, rfl, ?_⟩
 refine xe0 2 [(4, pw d 0), (5, .nilIface)] ?_
 refine nl (X_ret (rk [.pointer (some ⟨d, 0, none⟩), .nilIface] (hR_ _ _ ?_)))
 exact ⟨d, A_17, c_18, rfl, ⟨(Nat.le_trans (hb_16).size hd_20), hk_21, hr_22⟩, (bt hb_16 hb_24)⟩
end Go.Proofs.YtgphmfnkeolbcaaDoor
/- Cells as elements and as arguments. No condition. -/

set_option linter.unusedVariables false
set_option linter.unusedSimpArgs false
set_option maxRecDepth 100000
namespace Go.Proofs.YtgphmfnkeolbcaaDoor.RX
open Go Go.RowKit Go.Proofs.YtgphmfnkeolbcaaDoorW.PrintWords

structure CellA where
  rune : Int
  kind : ByteArray
  vk : Int
  vn : Int
  vt : ByteArray
  attrs : List At
def cell0 : CellA := ⟨0, ByteArray.empty, 0, 0, ByteArray.empty, []⟩
/-- a cell's cells -/
abbrev c6L (x : CellA) (v : Value) : List Value := [.int .i32 x.rune, .string x.kind, .int .i64 x.vk, .int .i64 x.vn, .string x.vt, v]
abbrev c6A (x : CellA) (v : Value) : Array Value := #[.int .i32 x.rune, .string x.kind, .int .i64 x.vk, .int .i64 x.vn, .string x.vt, v]
def CellA.tup (o : CellA) : Int × ByteArray × (Int × Int × ByteArray) × List At := (o.rune, o.kind, (o.vk, o.vn, o.vt), o.attrs)
def kCell : Kd CellA := Kd.comap CellA.tup (Kd.pair (Kd.int .i32) (Kd.pair Kd.string (Kd.pair (Kd.pair (Kd.int .i64) (Kd.pair (Kd.int .i64) Kd.string)) kAttrs)))
def cellV (x : CellA) (A : Option Addr) (c : Nat) : List Value := [.int .i32 x.rune, .string x.kind, .int .i64 x.vk, .int .i64 x.vn, .string x.vt, .slice A x.attrs.length c]
theorem kCell_K {w : World} {x : CellA} {cs : List Value} (h : kCell.K w x cs) : ∃ A c, cs = cellV x A c ∧ x.attrs.length ≤ c ∧ kAttr.C w A x.attrs.length x.attrs := by
  obtain ⟨_, _, rfl, rfl, _, _, rfl, rfl, _, _, rfl, ⟨_, _, rfl, rfl, _, _, rfl, rfl, rfl⟩, A, c, rfl, hl, hC⟩ := h
  exact ⟨A, c, rfl, hl, hC⟩
theorem kCell_K_of {w : World} {x : CellA} {A : Option Addr} {c : Nat} (hl : x.attrs.length ≤ c) (hC : kAttr.C w A x.attrs.length x.attrs) : kCell.K w x (cellV x A c) :=
  ⟨[.int .i32 x.rune], _, rfl, rfl, [.string x.kind], _, rfl, rfl, [.int .i64 x.vk, .int .i64 x.vn, .string x.vt], _, rfl, ⟨[.int .i64 x.vk], _, rfl, rfl, [.int .i64 x.vn], _, rfl, rfl, rfl⟩, A, c, rfl, hl, hC⟩
theorem Kd.atCell {w : World} {A : Option Addr} {n : Nat} {xs : List CellA} (h : kCell.C w A n xs) {i : Int} (h0 : 0 ≤ i) (h1 : i < n) : ∃ ad B c, A = some ad ∧ CellsAt w (ad.add (i.toNat * 6)) (cellV (xs.getD i.toNat cell0) B c) ∧ (xs.getD i.toNat cell0).attrs.length ≤ c ∧ kAttr.C w B (xs.getD i.toNat cell0).attrs.length (xs.getD i.toNat cell0).attrs := by
  obtain ⟨ad, cs, e, hK, hc⟩ := Kd.atC h cell0 h0 h1
  obtain ⟨B, c, rfl, hl, hC⟩ := kCell_K hK
  exact ⟨ad, B, c, e, hc, hl, hC⟩
theorem kCell_M {w : World} {base : Nat} {ok : Nat → Prop} {x : CellA} {B : Option Addr} {c : Nat} (h : kAttrs.M w base ok x.attrs [.slice B x.attrs.length c]) : kCell.M w base ok x (cellV x B c) :=
  ⟨[.int .i32 x.rune], _, rfl, rfl, [.string x.kind], _, rfl, rfl, [.int .i64 x.vk, .int .i64 x.vn, .string x.vt], _, rfl, ⟨[.int .i64 x.vk], _, rfl, rfl, [.int .i64 x.vn], _, rfl, rfl, rfl⟩, h⟩
theorem kCell_M0 {w : World} {base : Nat} {ok : Nat → Prop} (x : CellA) (h : x.attrs = []) : kCell.M w base ok x (cellV x none 0) := by
  obtain ⟨a, b, c, d, e, at9⟩ := x
  obtain rfl : at9 = [] := h
  exact kCell_M kAttrs_nil
theorem repsCell0 {w : World} {base : Nat} {ok : Nat → Prop} : Reps (kCell.M w base ok) 6 [] [] := Reps.none _ _
/-- a walk over a string's scalars has moved: a row is no such walk -/
theorem Kd.R_iter {α : Type} {d : Kd α} {e : Nat} {w w1 : World} {base : Nat} {ok : Nat → Prop} {v : Value} {xs : List α} {g p : Nat} {s : ByteArray} (h : d.R e w base ok v xs) (hg : w.heap[g]? = some (.stringIter s p)) (k : w.grownBy w1 (some g)) : d.R e w1 base ok v xs := by
  have h2 := Kd.R_bound h
  refine Kd.R_mono (Kd.R_grown h2 k (fun j hj e1 => ?_)) (fun j hj => hj.1)
  obtain ⟨_, _, _, q, _, cells, hc⟩ := hj
  obtain rfl : j = g := by injection e1
  rw [hg] at hc
  cases hc
theorem Kd.iter_kept {α : Type} {d : Kd α} {e : Nat} {w w1 : World} {base : Nat} {ok : Nat → Prop} {A : Option Addr} {n c : Nat} {xs : List α} {g p : Nat} {s : ByteArray} (hg : w.heap[g]? = some (.stringIter s p)) (h : d.R e w base ok (.slice A n c) xs) (k : w.grownBy w1 (A.map (·.block))) : w1.heap[g]? = some (.stringIter s p) := by
  obtain ⟨_, _, _, _, hk⟩ := k
  refine (hk g (Array.getElem?_eq_some_iff.1 hg).1 fun e1 => ?_).trans hg
  obtain ⟨inner, ho⟩ := Kd.R_own h
  obtain ⟨cells, hc⟩ := own_typed ho g (by rw [ownB]; exact e1.symm)
  rw [hg] at hc
  cases hc
end Go.Proofs.YtgphmfnkeolbcaaDoor.RX
