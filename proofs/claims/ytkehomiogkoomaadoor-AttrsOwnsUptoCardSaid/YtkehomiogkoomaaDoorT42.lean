/- attrs.Of: attributes in any order, put in their places. Conditions: sizes, the tables of utf8, the errors' variables. -/
import Derived.Test.YtkehomiogkoomaaDoorT41
import Derived.Test.YtkehomiogkoomaaDoorR1
set_option linter.unusedVariables false
set_option linter.unusedSimpArgs false
set_option maxRecDepth 100000
namespace Go.Proofs.YtkehomiogkoomaaDoor
open Go Go.RowKit Go.Proofs.YtkehomiogkoomaaDoorW.PrintWords RX
theorem ent34 : Ent Tryd.prog 34 := ent_of Tryd.func34 (by kernel_rfl) rfl
theorem insert_any (A : Option Addr) (c vb i : Nat) (xs : List At) (x : At) (wB w : World) (hB : wB.heap.size ≤ w.heap.size) (hR : kAttr.R 71 w wB.heap.size (OkFrom wB.heap.size) (.slice A xs.length c) xs) (hv : RX.Blk w vb 71 (atV x).toArray) (hne : A.map (·.block) ≠ some vb) (hi : i ≤ xs.length) (hl : xs.length ≤ 1000000000) :
  Calls Tryd.prog 102 #[.slice A xs.length c, .int .i64 (i : Int), .slice (some ⟨vb, 0, none⟩) 1 1] w fun e w' => ∃ A' c', e = .returned (.slice A' (xs.take i ++ x :: xs.drop i).length c') ∧ kAttr.R 71 w' wB.heap.size (OkFrom wB.heap.size) (.slice A' (xs.take i ++ x :: xs.drop i).length c') (xs.take i ++ x :: xs.drop i) ∧ w.grownBy w' (A.map (·.block)) := by
 by_cases h : i = xs.length
 ·subst h
  refine (insEnd_any A c vb xs x wB w hB hR hv hl).mono ?_
  rintro e w' ⟨A', c', rfl, h1, h2⟩
  rw [List.take_length, List.drop_length]
  exact ⟨A', c', rfl, h1, h2⟩
 obtain ⟨g, cur, rfl, h1, h2, h3, h4, h5, h6⟩ := attr_blk hR (by omega)
 have hne' : vb ≠ g := fun e => hne (by rw [e]; rfl)
 refine (insMid_any g c vb i xs.length xs x cur w rfl (by omega) h2 h3 h4 h5 h6 hv hne' hl).mono ?_
 rintro e w' ⟨g', c', cur', rfl, k1, k2, k3, k4, k5, k6, k7⟩
 have hlen : (xs.take i ++ x :: xs.drop i).length = xs.length + 1 := by simp only [List.length_append, List.length_cons, List.length_take, List.length_drop]; omega
 refine ⟨some ⟨g', 0, none⟩, c', by rw [hlen], ?_, k6⟩
 rw [hlen]
 exact attr_of_blk (by omega) k1 hlen k2 k3 k4 k5
theorem aof_any (A : Option Addr) (c : Nat) (xs : List At) (w : World) (hx : kAttr.C w A xs.length xs) (hl : xs.length ≤ 1000000) (hsz : ∀ i, i < xs.length → (xs.getD i at0).1.size ≤ 9223372036854775807 ∧ (xs.getD i at0).2.2.2.size ≤ 9223372036854775807) (hT : Tabs w) (es : List Addr) (hE : ErrsA w es) :
  Calls Tryd.prog 34 #[.slice A xs.length c] w fun e w' => ∃ A' c' ys, ys = (if pE xs = 0 then ofA xs else []) ∧ e = .returned (.tuple #[.slice A' ys.length c', errV es (pE xs)]) ∧ ys.length ≤ c' ∧ kAttr.R 71 w' w.heap.size (OkFrom w.heap.size) (.slice A' ys.length c') ys ∧ Below w.heap.size w w' := by
 refine RX.enter Tryd.func34 rfl 40 rfl [(0, .slice A xs.length c)] rfl (by kernel_rfl) (fun R_ hR_ => ?_)
 refine sq (rg (xe0 2 [(0, .slice A xs.length c)] ?_))
 refine nl (sq (rg (xr0 1 [(4, .slice none 0 0)] [] ?_)))
 refine nl (sq (sq (rg (xr0 3 [(10, .slice A xs.length c), (11, .int .i64 (xs.length : Int)), (12, .int .i64 0)] [0] ?_))))
 refine nl (bk (X_loop (ι := Nat × Option Addr × Nat × Nat × List At) (fun ⟨i, A2, c2, n, out⟩ => [(4, .slice A2 n c2), (10, .slice A xs.length c), (11, .int .i64 (xs.length : Int)), (12, .int .i64 (i : Int))]) (fun ⟨i, A2, c2, n, out⟩ wl => i ≤ xs.length ∧ (∀ t, t < i → pairErr (xs.getD t at0) = 0) ∧ n = out.length ∧ out = ofA (xs.take i) ∧ kAttr.R 71 wl w.heap.size (OkFrom w.heap.size) (.slice A2 n c2) out ∧ Below w.heap.size w wl) (fun ⟨i, A2, c2, n, out⟩ => xs.length - i) (0, none, 0, 0, []) ⟨by omega, fun t ht => by omega, rfl, rfl, Kd.R_nil _ _ _ _ _, (Below.refl _ _)⟩ (by kernel_rfl) ?_))
 rintro ⟨i, A2, c2, n, out⟩ wl ⟨hi, h0, rfl, ho, hR2, HB⟩
 have hol : out.length ≤ i := by have h_ := ofA_len (xs.take i); rw [List.length_take, ← ho] at h_; omega
 have hor : Ris out := ho ▸ ofA_ris _
 refine sq (X_region ?_)
 by_cases c_1 : (i : Int) < (xs.length : Int)
 ·refine xr 1 [(13, .eq (.bool true))] [(4, .slice A2 out.length c2), (13, .bool true)] [] [Value.bool (decide ((i : Int) < (xs.length : Int))) = Value.bool true] ⟨congrArg Value.bool (decide_eq_true (c_1)), trivial⟩ ?_
  refine nl (sq (ct (sk (sq (bk (sq (X_region ?_)))))))
  obtain ⟨ad_2, ha_3, hc_4⟩ := Kd.atAttr (Kd.C_below hx HB) (i := (i : Int)) (by omega) (by omega)
  replace hc_4 : CellsAt wl (ad_2.add ((i : Int).toNat * 4)) [.string ((xs.getD i at0).1), .int .i64 ((xs.getD i at0).2.1), .int .i64 ((xs.getD i at0).2.2.1), .string ((xs.getD i at0).2.2.2)] := hc_4
  refine xw 3 [(14, .idx ad_2), (15, .load (.agg #[.string ((xs.getD i at0).1), .int .i64 ((xs.getD i at0).2.1), .int .i64 ((xs.getD i at0).2.2.1), .string ((xs.getD i at0).2.2.2)]))] [(6, pw wl.heap.size 0), (15, .agg #[.string ((xs.getD i at0).1), .int .i64 ((xs.getD i at0).2.1), .int .i64 ((xs.getD i at0).2.2.1), .string ((xs.getD i at0).2.2.2)])] [13] (wl.alloc (.cells #[.string ByteArray.empty, .int .i64 0, .int .i64 0, .string ByteArray.empty] 71)) [A = some ad_2, (0 : Int) ≤ (i : Int), (i : Int) < (xs.length : Int), LoadsAs Tryd.prog 71 (ad_2.add ((i : Int).toNat * 4)) (.agg #[.string ((xs.getD i at0).1), .int .i64 ((xs.getD i at0).2.1), .int .i64 ((xs.getD i at0).2.2.1), .string ((xs.getD i at0).2.2.2)]) wl] ⟨ha_3, (by omega), (by omega), loadsE rfl rfl hc_4 0 ⟨by kernel_rfl, by kernel_rfl⟩, trivial⟩ ?_
  obtain ⟨w_5, hw_9, hb_6, hk_7, hz_8⟩ := new_world wl #[.string ByteArray.empty, .int .i64 0, .int .i64 0, .string ByteArray.empty] 71
  rw [hw_9]
  refine xst (.agg #[.string ((xs.getD i at0).1), .int .i64 ((xs.getD i at0).2.1), .int .i64 ((xs.getD i at0).2.2.1), .string ((xs.getD i at0).2.2.2)]) hk_7 0 #[.string ((xs.getD i at0).1), .int .i64 ((xs.getD i at0).2.1), .int .i64 ((xs.getD i at0).2.2.1), .string ((xs.getD i at0).2.2.2)] (fun w_10 hg_11 hk_12 hz_13 => ?_)
  refine nl (sq (sq (rg (xr 1 [(16, .load (.agg #[.string ((xs.getD i at0).1), .int .i64 ((xs.getD i at0).2.1), .int .i64 ((xs.getD i at0).2.2.1), .string ((xs.getD i at0).2.2.2)]))] [(16, .agg #[.string ((xs.getD i at0).1), .int .i64 ((xs.getD i at0).2.1), .int .i64 ((xs.getD i at0).2.2.1), .string ((xs.getD i at0).2.2.2)])] [15] [LoadsAs Tryd.prog 71 (⟨wl.heap.size, 0, none⟩) (.agg #[.string ((xs.getD i at0).1), .int .i64 ((xs.getD i at0).2.1), .int .i64 ((xs.getD i at0).2.2.1), .string ((xs.getD i at0).2.2.2)]) w_10] ⟨loadsB rfl rfl hk_12 0 ⟨by kernel_rfl, by kernel_rfl⟩, trivial⟩ ?_))))
  refine xc 98 ent98 [.agg #[.string ((xs.getD i at0).1), .int .i64 ((xs.getD i at0).2.1), .int .i64 ((xs.getD i at0).2.2.1), .string ((xs.getD i at0).2.2.2)]] (pair_any (xs.getD i at0) _ (hsz i (by omega)).1 (hsz i (by omega)).2 (hT.below (bg (bt HB hb_6) hg_11 (HB).size)) es (hE.below (bg (bt HB hb_6) hg_11 (HB).size))) ?_
  rintro e w_14 ⟨rfl, hb_15⟩; refine ⟨_, rfl, ?_⟩
  refine xr0 1 [(7, errV es (pairErr (xs.getD i at0)))] [16, 17] ?_
  refine nl (sq (rg (xr0 1 [(18, errV es (pairErr (xs.getD i at0)))] [] ?_)))
  by_cases c_16 : (pairErr (xs.getD i at0)) = 0
  ·rw [show errV es (pairErr (xs.getD i at0)) = .nilIface from by rw [c_16]; rfl]
   refine xe0 1 [(4, .slice A2 out.length c2), (6, pw wl.heap.size 0), (7, .nilIface), (10, .slice A xs.length c), (11, .int .i64 (xs.length : Int)), (12, nv i), (19, .bool false)] ?_
   refine nl (cf (sk (sq (rg (xr 3 [(24, .load (.string ((xs.getD i at0).1)))] [(22, .slice A2 out.length c2), (24, .string ((xs.getD i at0).1))] [7, 19] [LoadsAs Tryd.prog 9 (⟨wl.heap.size, 0, none⟩) (.string ((xs.getD i at0).1)) w_14] ⟨loads1 rfl (Blk.cell (Blk.below hk_12 hb_15) 0 _ rfl), trivial⟩ ?_)))))
   have hB_17 : Below wl.heap.size wl w_14 := (bt (bg hb_6 hg_11 (Nat.le_refl _)) hb_15)
   refine xc 101 ent101 [.slice A2 out.length c2, .string ((xs.getD i at0).1)] (place_any _ _ out (xs.getD i at0).1 _ (Kd.R_C (Kd.R_below hR2 hB_17)) (by omega) hor) ?_
   rintro e w_18 ⟨q, hP, rfl, hb_19⟩; refine ⟨_, rfl, ?_⟩
   have hqle := hP.le
   refine xr0 5 [(8, nv q), (9, .bool (decide (q < out.length ∧ (out.getD q at0).1 = (xs.getD i at0).1)))] [22, 24, 25] ?_
   refine nl (sq (rg (xr0 1 [(28, .bool (decide (q < out.length ∧ (out.getD q at0).1 = (xs.getD i at0).1)))] [9] ?_)))
   refine nl ?_
   by_cases c_20 : decide (q < out.length ∧ (out.getD q at0).1 = (xs.getD i at0).1) = true
   ·rw [show (decide (q < out.length ∧ (out.getD q at0).1 = (xs.getD i at0).1) : Bool) = true from by simpa using c_20]
    refine ct (X_region ?_)
    obtain ⟨hq1, hq2⟩ := of_decide_eq_true c_20
    refine xr 3 [(31, .load (.agg #[.string ((xs.getD i at0).1), .int .i64 ((xs.getD i at0).2.1), .int .i64 ((xs.getD i at0).2.2.1), .string ((xs.getD i at0).2.2.2)]))] [(29, .slice A2 out.length c2), (30, nv q), (31, .agg #[.string ((xs.getD i at0).1), .int .i64 ((xs.getD i at0).2.1), .int .i64 ((xs.getD i at0).2.2.1), .string ((xs.getD i at0).2.2.2)])] [6, 8, 28] [LoadsAs Tryd.prog 71 (⟨wl.heap.size, 0, none⟩) (.agg #[.string ((xs.getD i at0).1), .int .i64 ((xs.getD i at0).2.1), .int .i64 ((xs.getD i at0).2.2.1), .string ((xs.getD i at0).2.2.2)]) w_18] ⟨loadsB rfl rfl (Blk.below hk_12 (bt hb_15 hb_19)) 0 ⟨by kernel_rfl, by kernel_rfl⟩, trivial⟩ ?_
    obtain ⟨ad_21, ha_22, hc_23⟩ := Kd.atAttr (Kd.R_C (Kd.R_below hR2 (bt hB_17 hb_19))) (i := (q : Int)) (by omega) (by omega)
    replace hc_23 : CellsAt w_18 (ad_21.add ((q : Int).toNat * 4)) [.string ((out.getD q at0).1), .int .i64 ((out.getD q at0).2.1), .int .i64 ((out.getD q at0).2.2.1), .string ((out.getD q at0).2.2.2)] := hc_23
    refine xr 1 [(32, .idx ad_21)] [(32, .pointer (some (ad_21.add ((q : Int).toNat * 4))))] [29, 30] [A2 = some ad_21, (0 : Int) ≤ (q : Int), (q : Int) < (out.length : Int)] ⟨ha_22, (by omega), (by omega), trivial⟩ ?_
    refine XL_rowset kAttr rfl rfl rfl w.heap.size 71 (ad := ad_21) (i := (q : Int)) (v := .agg #[.string ((xs.getD i at0).1), .int .i64 ((xs.getD i at0).2.1), .int .i64 ((xs.getD i at0).2.2.1), .string ((xs.getD i at0).2.2.2)]) out ((xs.getD i at0).1, (xs.getD i at0).2.1, (xs.getD i at0).2.2.1, (xs.getD i at0).2.2.2) (by kernel_rfl) ha_22 (Kd.R_below hR2 (bt hB_17 hb_19)) (by omega) (by omega) [.string ((xs.getD i at0).1), .int .i64 ((xs.getD i at0).2.1), .int .i64 ((xs.getD i at0).2.2.1), .string ((xs.getD i at0).2.2.2)] ⟨by kernel_rfl, by kernel_rfl⟩ (by kernel_rfl) (kAttr_M _ _ _ _) ?_
    intro w_24 hr_25 hg_26 hl_27
    refine nl (rg (xe 2 [(38, .eq (.int .i64 ((i : Int) + 1)))] [(4, .slice A2 out.length c2), (10, .slice A xs.length c), (11, .int .i64 (xs.length : Int)), (12, .int .i64 ((i : Int) + 1))] [Value.int .i64 (IntKind.i64.wrap ((i : Int) + 1)) = Value.int .i64 ((i : Int) + 1)] ⟨wr_i64 (by omega) (by omega), trivial⟩ ?_))
    refine nl ?_
    have hB_28 : Below w.heap.size w w_24 := (bgo (bt (bt (bg (bt HB hb_6) hg_11 (HB).size) hb_15) hb_19) hg_26 hl_27 (Nat.le_refl _))
    refine ⟨(i + 1, A2, c2, out.length, (out.set (q : Int).toNat ((xs.getD i at0).1, (xs.getD i at0).2.1, (xs.getD i at0).2.2.1, (xs.getD i at0).2.2.2))), by kernel_rfl, ?_, ?_⟩
    ·exact ⟨by omega, (fun t ht => by by_cases e_ : t = i; (· subst e_; exact c_16); (· exact h0 t (by omega))), (by rw [List.length_set]), (by rw [ofA_take (by omega), ← ho]; exact (put_there hP hq1 hq2).symm), hr_25, hB_28⟩
    (try dsimp only); omega
   rw [show (decide (q < out.length ∧ (out.getD q at0).1 = (xs.getD i at0).1) : Bool) = false from by simpa using c_20]
   refine cf (X_region ?_)
   have hqn := Bool.eq_false_iff.2 c_20
   refine xw 4 [(35, .load (.agg #[.string ((xs.getD i at0).1), .int .i64 ((xs.getD i at0).2.1), .int .i64 ((xs.getD i at0).2.2.1), .string ((xs.getD i at0).2.2.2)]))] [(33, .slice A2 out.length c2), (34, nv q), (36, .slice (some ⟨w_18.heap.size, 0, none⟩) 1 1)] [4, 6, 8, 28] (w_18.alloc (.cells #[.string ((xs.getD i at0).1), .int .i64 ((xs.getD i at0).2.1), .int .i64 ((xs.getD i at0).2.2.1), .string ((xs.getD i at0).2.2.2)] 71)) [LoadsAs Tryd.prog 71 (⟨wl.heap.size, 0, none⟩) (.agg #[.string ((xs.getD i at0).1), .int .i64 ((xs.getD i at0).2.1), .int .i64 ((xs.getD i at0).2.2.1), .string ((xs.getD i at0).2.2.2)]) w_18] ⟨loadsB rfl rfl (Blk.below hk_12 (bt hb_15 hb_19)) 0 ⟨by kernel_rfl, by kernel_rfl⟩, trivial⟩ ?_
   obtain ⟨w_29, hw_33, hb_30, hk_31, hz_32⟩ := new_world w_18 #[.string ((xs.getD i at0).1), .int .i64 ((xs.getD i at0).2.1), .int .i64 ((xs.getD i at0).2.2.1), .string ((xs.getD i at0).2.2.2)] 71
   rw [hw_33]
   have hB_40 : Below w.heap.size w w_29 := (bt (bt (bt (bg (bt HB hb_6) hg_11 (HB).size) hb_15) hb_19) hb_30)
   refine xc 102 ent102 [.slice A2 out.length c2, .int .i64 (q : Int), .slice (some ⟨w_18.heap.size, 0, none⟩) 1 1] (insert_any _ _ _ q out (xs.getD i at0) w _ (hB_40).size (Kd.R_below hR2 (bt (bt hB_17 hb_19) hb_30)) hk_31 (fun e_ => by have h_ := (RX.Kd.R_lt (Kd.R_below hR2 (bt hB_17 hb_19))) _ e_; omega) hqle (by omega)) ?_
   rintro e w_34 ⟨A_36, c_37, rfl, hr_38, hg_35⟩; refine ⟨_, rfl, ?_⟩
   have hl_39 := RX.Kd.R_ge (Kd.R_below hR2 (bt (bt hB_17 hb_19) hb_30))
   refine xr0 1 [(4, .slice A_36 ((out.take q ++ (xs.getD i at0) :: out.drop q).length) c_37)] [33, 34, 36, 37] ?_
   refine nl (rg (xe 2 [(38, .eq (.int .i64 ((i : Int) + 1)))] [(4, .slice A_36 ((out.take q ++ (xs.getD i at0) :: out.drop q).length) c_37), (10, .slice A xs.length c), (11, .int .i64 (xs.length : Int)), (12, .int .i64 ((i : Int) + 1))] [Value.int .i64 (IntKind.i64.wrap ((i : Int) + 1)) = Value.int .i64 ((i : Int) + 1)] ⟨wr_i64 (by omega) (by omega), trivial⟩ ?_))
   refine nl ?_
   refine ⟨(i + 1, A_36, c_37, (out.take q ++ (xs.getD i at0) :: out.drop q).length, (out.take q ++ (xs.getD i at0) :: out.drop q)), by kernel_rfl, ?_, ?_⟩
   ·exact ⟨by omega, (fun t ht => by by_cases e_ : t = i; (· subst e_; exact c_16); (· exact h0 t (by omega))), rfl, (by rw [ofA_take (by omega), ← ho]; exact (put_new hP (of_decide_eq_false hqn)).symm), hr_38, (bgo hB_40 hg_35 hl_39 (Nat.le_refl _))⟩
   (try dsimp only); omega
  rw [errV_pos es (pairErr (xs.getD i at0)) (Nat.pos_of_ne_zero c_16)]
  refine xe0 1 [(4, .slice A2 out.length c2), (6, pw wl.heap.size 0), (7, .iface 235 (.pointer (some (errAt es (pairErr (xs.getD i at0)))))), (10, .slice A xs.length c), (11, .int .i64 (xs.length : Int)), (12, nv i), (19, .bool true)] ?_
  refine nl (ct (sq (rg (xe0 3 [(2, .slice none 0 0), (3, .iface 235 (.pointer (some (errAt es (pairErr (xs.getD i at0))))))] ?_))))
  refine nl (X_ret (rk [.slice none 0 0, .iface 235 (.pointer (some (errAt es (pairErr (xs.getD i at0)))))] (hR_ _ _ ?_)))
  have hB_41 : Below w.heap.size w w_14 := (bt (bg (bt HB hb_6) hg_11 (HB).size) hb_15)
  have he_ := pE_take (show i < xs.length by omega) h0 c_16
  refine ⟨none, 0, [], by rw [if_neg (by rw [he_]; exact c_16)], by rw [he_, errV_pos es _ (Nat.pos_of_ne_zero c_16)]; rfl, Nat.le_refl _, Kd.R_nil _ _ _ _ _, hB_41⟩
 refine xr 1 [(13, .eq (.bool false))] [(4, .slice A2 out.length c2), (13, .bool false)] [] [Value.bool (decide ((i : Int) < (xs.length : Int))) = Value.bool false] ⟨congrArg Value.bool (decide_eq_false (c_1)), trivial⟩ ?_
 refine nl (sq (cf (X_exit (sq (rg (xe0 3 [(2, .slice A2 out.length c2), (3, .nilIface)] ?_))))))
 refine nl (X_ret (rk [.slice A2 out.length c2, .nilIface] (hR_ _ _ ?_)))
 obtain rfl : i = xs.length := by omega
 have hz_ := pE_zero h0
 rw [List.take_length] at ho
 exact ⟨A2, c2, out, by rw [if_pos hz_]; exact ho, by rw [hz_]; rfl, (RX.Kd.R_len hR2).2, hR2, HB⟩
end Go.Proofs.YtkehomiogkoomaaDoor
