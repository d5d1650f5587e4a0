import Derived.Test.YtkehomiogkoomaaDoorT42
import Derived.Test.YtkehomiogkoomaaDoorR1
import Derived.Test.YtkehomiogkoomaaDoorCap2
import Derived.Test.YtkehomiogkoomaaDoorO1
import Derived.Test.YtkehomiogkoomaaDoorRef3
import Derived.Test.YtkehomiogkoomaaDoorPat
/- A key's value; going over a list's keys and values. Conditions: sizes, the tables of utf8, the errors' variables. -/
set_option linter.unusedVariables false
set_option linter.unusedSimpArgs false
set_option maxRecDepth 100000
namespace Go.Proofs.YtkehomiogkoomaaDoor
open Go Go.RowKit Go.Proofs.YtkehomiogkoomaaDoorW.PrintWords RX
theorem ent40 : Ent Tryd.prog 40 := ent_of Tryd.func40 (by kernel_rfl) rfl
theorem ent106 : Ent Tryd.prog 106 := ent_of Tryd.func106 (by kernel_rfl) rfl
theorem pairErr_plain {x : At} (h : pairErr x = 0) : plainErr x.2.1 x.2.2.1 x.2.2.2 = 0 := by
 unfold pairErr at h
 split at h
 ·cases h
 split at h
 ·cases h
 exact h
/-- what Each goes over -/
noncomputable def eachA (xs : List At) : List At := if chkA true xs = 0 then xs else []
theorem aeach_any (A : Option Addr) (c : Nat) (xs : List At) (w : World) (hx : kAttr.C w A xs.length xs) (hl : xs.length ≤ 1000000) (hsz : ∀ i, i < xs.length → (xs.getD i at0).1.size ≤ 9223372036854775807 ∧ (xs.getD i at0).2.2.2.size ≤ 9223372036854775807) (hT : Tabs w) (es : List Addr) (hE : ErrsA w es) :
  Calls Tryd.prog 40 #[.slice A xs.length c] w fun e w' => ∃ g A' c', e = .returned (.func (.func 106) #[] #[.pointer (some ⟨g, 0, none⟩)]) ∧ w.heap.size ≤ g ∧ RX.Blk w' g 45 #[.slice A' (eachA xs).length c'] ∧ kAttr.R 71 w' w.heap.size (OkFrom w.heap.size) (.slice A' (eachA xs).length c') (eachA xs) ∧ Below w.heap.size w w' := by
 refine RX.enter Tryd.func40 rfl 10 rfl [(0, .slice A xs.length c)] rfl (by kernel_rfl) (fun R_ hR_ => ?_)
 refine sq (rg (xe0 1 [(0, .slice A xs.length c)] ?_))
 refine nl (sq (rg (xw 1 [] [(3, pw w.heap.size 0)] [] (w.alloc (.cells #[.slice none 0 0] 45)) [] trivial ?_)))
 obtain ⟨w_1, hw_5, hb_2, hk_3, hz_4⟩ := new_world w #[.slice none 0 0] 45
 rw [hw_5]
 refine nl (sq (sq (rg (xr0 1 [(4, .slice A xs.length c)] [] ?_))))
 refine xc 32 ent32 [.slice A xs.length c, .bool true] (acheck_any _ _ xs true _ (Kd.C_below hx hb_2) hsz (hT.below hb_2) es (hE.below hb_2)) ?_
 rintro e w_6 ⟨rfl, hb_7⟩; refine ⟨_, rfl, ?_⟩
 by_cases c_8 : (chkA true xs) = 0
 ·rw [show errV es (chkA true xs) = .nilIface from by rw [c_8]; rfl]
  refine xr0 1 [(6, .bool true)] [4, 5] ?_
  refine nl (ct (rg (xr0 1 [(7, .slice A xs.length c)] [0, 6] ?_)))
  refine xc 105 ent105 [.slice A xs.length c] (clone_any _ _ xs _ (Kd.C_below hx (bt hb_2 hb_7)) (by omega)) ?_
  rintro e w_11 ⟨A_9, c_10, rfl, hl_13, hr_14, hb_12⟩; refine ⟨_, rfl, ?_⟩
  refine xst (.slice A_9 xs.length c_10) (Blk.below hk_3 (bt hb_7 hb_12)) 0 #[.slice A_9 xs.length c_10] (fun w_15 hg_16 hk_17 hz_18 => ?_)
  have hr_19 := Kd.R_off hr_14 (Blk.below hk_3 (bt hb_7 hb_12)) (by decide) hg_16
  refine nl (sq (rg (xe0 2 [(2, .func (.func 106) #[] #[pw w.heap.size 0])] ?_)))
  refine nl (X_ret (rk [.func (.func 106) #[] #[.pointer (some ⟨w.heap.size, 0, none⟩)]] (hR_ _ _ ?_)))
  have hB_20 : Below w.heap.size w w_15 := (bg (bt (bt hb_2 hb_7) hb_12) hg_16 (Nat.le_refl _))
  rw [show eachA xs = xs from if_pos c_8]
  exact ⟨_, _, _, rfl, (Nat.le_refl _), hk_17, (RX.Kd.R_low hr_19 ((bt hb_2 hb_7)).size), hB_20⟩
 rw [errV_pos es (chkA true xs) (Nat.pos_of_ne_zero c_8)]
 refine xr0 1 [(6, .bool false)] [4, 5] ?_
 refine nl (cf (sk (sq (rg (xe0 2 [(2, .func (.func 106) #[] #[pw w.heap.size 0])] ?_)))))
 refine nl (X_ret (rk [.func (.func 106) #[] #[.pointer (some ⟨w.heap.size, 0, none⟩)]] (hR_ _ _ ?_)))
 rw [show eachA xs = [] from if_neg c_8]
 exact ⟨_, none, 0, rfl, (Nat.le_refl _), (Blk.below hk_3 hb_7), Kd.R_nil _ _ _ _ _, (bt hb_2 hb_7)⟩
end Go.Proofs.YtkehomiogkoomaaDoor
/- What attrs.Each goes over. Conditions: sizes, the tables of utf8, the errors' variables. -/

set_option linter.unusedVariables false
set_option linter.unusedSimpArgs false
set_option maxRecDepth 100000
namespace Go.Proofs.YtkehomiogkoomaaDoor
open Go Go.RowKit Go.Proofs.YtkehomiogkoomaaDoorW.PrintWords RX
set_option maxHeartbeats 1000000 in
theorem aeach_seq (L : List At) (A : Option Addr) (c g : Nat) (w w1 w0 : World) (hl : L.length ≤ 1000000) (hw : Below w.heap.size w w1) (hb0 : Below w1.heap.size w1 w0) (hk1 : RX.Blk w1 g 45 #[.slice A L.length c]) (hC1 : kAttr.C w1 A L.length L)
  (hG : ∀ i, i < L.length → plainErr (L.getD i at0).2.1 (L.getD i at0).2.2.1 (L.getD i at0).2.2.2 = 0) (hsz : ∀ i, i < L.length → (L.getD i at0).2.2.2.size ≤ 9223372036854775807) (hT : Tabs w) (es : List Addr) (hE : ErrsA w es) :
  SeqStopsK Fence.wide 2 Tryd.prog 106 #[.pointer (some ⟨g, 0, none⟩)] (fun (x : At) => #[.string x.1, valV x.2]) (Below w1.heap.size) (fun xs => xs = L) (fun pre => pre = L.take pre.length ∧ pre.length ≤ L.length) L.length w0 := by
 intro lp J Jx W hW hJ hJx hY hJ0
 have hB1 : Below w1.heap.size w1 W := hb0.trans (bel_lo hW hb0.size)
 have hBW : Below w.heap.size w W := bt hw hB1
 have hkW : RX.Blk W g 45 #[.slice A L.length c] := Blk.below hk1 hB1
 have hCW := Kd.C_below hC1 hB1
 have hgl := hk1.lt
 refine callsIn_wide.2 ?_
 rw [show (#[Value.func (.yield lp) #[] #[]] ++ #[Value.pointer (some ⟨g, 0, none⟩)] : Array Value) = #[.func (.yield lp) #[] #[], .pointer (some ⟨g, 0, none⟩)] from rfl]
 refine RX.enter Tryd.func106 rfl 30 rfl [(0, .func (.yield lp) #[] #[]), (1, .pointer (some ⟨g, 0, none⟩))] rfl (by kernel_rfl) (fun R_ hR_ => ?_)
 refine sq (rg (xe 3 [(7, .load (.slice A L.length c))] [(0, .func (.yield lp) #[] #[]), (7, .slice A L.length c), (8, .int .i64 (L.length : Int)), (9, .int .i64 0)] [LoadsAs Tryd.prog 45 (⟨g, 0, none⟩) (.slice A L.length c) W] ⟨loads1 rfl (Blk.cell hkW 0 _ rfl), trivial⟩ ?_))
 refine nl (bk (X_loop (ι := Nat) (fun i => [(0, .func (.yield lp) #[] #[]), (7, .slice A L.length c), (8, .int .i64 (L.length : Int)), (9, .int .i64 (i : Int))]) (fun i wl => i ≤ L.length ∧ J (L.take i) wl ∧ Below w1.heap.size w1 wl) (fun i => L.length - i) 0 ⟨by omega, hJ0, hB1⟩ (by kernel_rfl) ?_))
 rintro i wl ⟨hi_, hJ1, HB⟩
 refine sq (X_region ?_)
 by_cases c_1 : (i : Int) < (L.length : Int)
 ·refine xr 1 [(10, .eq (.bool true))] [(10, .bool true)] [] [Value.bool (decide ((i : Int) < (L.length : Int))) = Value.bool true] ⟨congrArg Value.bool (decide_eq_true (c_1)), trivial⟩ ?_
  refine nl (sq (ct (sk (sq (bk (sq (X_region ?_)))))))
  obtain ⟨ad_2, ha_3, hc_4⟩ := Kd.atAttr (Kd.C_below hC1 HB) (i := (i : Int)) (by omega) (by omega)
  replace hc_4 : CellsAt wl (ad_2.add ((i : Int).toNat * 4)) [.string ((L.getD i at0).1), .int .i64 ((L.getD i at0).2.1), .int .i64 ((L.getD i at0).2.2.1), .string ((L.getD i at0).2.2.2)] := hc_4
  refine xw 3 [(11, .idx ad_2), (12, .load (.agg #[.string ((L.getD i at0).1), .int .i64 ((L.getD i at0).2.1), .int .i64 ((L.getD i at0).2.2.1), .string ((L.getD i at0).2.2.2)]))] [(4, pw wl.heap.size 0), (12, .agg #[.string ((L.getD i at0).1), .int .i64 ((L.getD i at0).2.1), .int .i64 ((L.getD i at0).2.2.1), .string ((L.getD i at0).2.2.2)])] [10] (wl.alloc (.cells #[.string ByteArray.empty, .int .i64 0, .int .i64 0, .string ByteArray.empty] 71)) [A = some ad_2, (0 : Int) ≤ (i : Int), (i : Int) < (L.length : Int), LoadsAs Tryd.prog 71 (ad_2.add ((i : Int).toNat * 4)) (.agg #[.string ((L.getD i at0).1), .int .i64 ((L.getD i at0).2.1), .int .i64 ((L.getD i at0).2.2.1), .string ((L.getD i at0).2.2.2)]) wl] ⟨ha_3, (by omega), (by omega), loadsE rfl rfl hc_4 0 ⟨by kernel_rfl, by kernel_rfl⟩, trivial⟩ ?_
  obtain ⟨w_5, hw_9, hb_6, hk_7, hz_8⟩ := new_world wl #[.string ByteArray.empty, .int .i64 0, .int .i64 0, .string ByteArray.empty] 71
  rw [hw_9]
  refine xst (.agg #[.string ((L.getD i at0).1), .int .i64 ((L.getD i at0).2.1), .int .i64 ((L.getD i at0).2.2.1), .string ((L.getD i at0).2.2.2)]) hk_7 0 #[.string ((L.getD i at0).1), .int .i64 ((L.getD i at0).2.1), .int .i64 ((L.getD i at0).2.2.1), .string ((L.getD i at0).2.2.2)] (fun w_10 hg_11 hk_12 hz_13 => ?_)
  refine nl (sq (rg (xr 2 [(15, .load (.agg #[.int .i64 ((L.getD i at0).2.1), .int .i64 ((L.getD i at0).2.2.1), .string ((L.getD i at0).2.2.2)]))] [(15, .agg #[.int .i64 ((L.getD i at0).2.1), .int .i64 ((L.getD i at0).2.2.1), .string ((L.getD i at0).2.2.2)])] [12] [LoadsAs Tryd.prog 44 (⟨wl.heap.size, 1, none⟩) (.agg #[.int .i64 ((L.getD i at0).2.1), .int .i64 ((L.getD i at0).2.2.1), .string ((L.getD i at0).2.2.2)]) w_10] ⟨loadsB rfl rfl hk_12 1 ⟨by kernel_rfl, by kernel_rfl⟩, trivial⟩ ?_)))
  have hB_14 : Below w.heap.size w w_10 := (bg (bt (bt hw HB) hb_6) hg_11 ((bt hw HB)).size)
  refine xc 104 ent104 [.agg #[.int .i64 ((L.getD i at0).2.1), .int .i64 ((L.getD i at0).2.2.1), .string ((L.getD i at0).2.2.2)]] (vof_any (L.getD i at0).2.1 (L.getD i at0).2.2.1 (L.getD i at0).2.2.2 _ (hsz i (by omega)) (hT.below hB_14) es (hE.below hB_14)) ?_
  rintro e w_15 ⟨rfl, hb_16⟩; refine ⟨_, rfl, ?_⟩
  rw [if_pos (hG i (by omega)), hG i (by omega)]
  refine xr0 5 [(5, valV ((L.getD i at0).2.1, (L.getD i at0).2.2.1, (L.getD i at0).2.2.2)), (6, .nilIface)] [15, 16] ?_
  refine nl (sq (X_regionI ?_))
  refine XLI_pre 7 (by kernel_rfl) (fun _ _ h_ => h_) ?_
  refine xr 7 [(24, .load (.string ((L.getD i at0).1)))] [(21, .bool false), (22, .func (.yield lp) #[] #[]), (24, .string ((L.getD i at0).1)), (25, valV ((L.getD i at0).2.1, (L.getD i at0).2.2.1, (L.getD i at0).2.2.2))] [4, 5, 6] [LoadsAs Tryd.prog 9 (⟨wl.heap.size, 0, none⟩) (.string ((L.getD i at0).1)) w_15] ⟨loads1 rfl (Blk.cell (Blk.below hk_12 hb_16) 0 _ rfl), trivial⟩ ?_
  refine nl ?_
  have hB_18 : Below wl.heap.size wl w_15 := (bt (bg hb_6 hg_11 (Nat.le_refl _)) hb_16)
  refine XLI_yield rfl rfl rfl rfl [.string ((L.getD i at0).1), valV ((L.getD i at0).2.1, (L.getD i at0).2.2.1, (L.getD i at0).2.2.2)] (by kernel_rfl) (hY (L.take i) (L.getD i at0) _ (abides_below hJ hB_18 hJ1) (by rw [List.length_take]; omega)) ?_
  rintro e w_17 (⟨rfl, hJ2, hK2⟩ | ⟨rfl, hJ2⟩)
  ·refine ⟨_, rfl, ?_⟩
   have hB_19 : Below w1.heap.size w1 w_15 := (bt (bg (bt HB hb_6) hg_11 (HB).size) hb_16)
   have hB2 : Below w1.heap.size w1 w_17 := hB_19.trans hK2
   refine XLI_of (by kernel_rfl) (fun _ _ h_ => h_) ?_
   refine xe0 2 [(0, .func (.yield lp) #[] #[]), (7, .slice A L.length c), (8, .int .i64 (L.length : Int)), (9, nv i), (28, .bool false)] ?_
   refine nl (cf (sk (rg (xr 2 [(29, .eq (.int .i64 ((i : Int) + 1)))] [(9, .int .i64 ((i : Int) + 1))] [28] [Value.int .i64 (IntKind.i64.wrap ((i : Int) + 1)) = Value.int .i64 ((i : Int) + 1)] ⟨wr_i64 (by omega) (by omega), trivial⟩ ?_))))
   refine nl ?_
   refine ⟨(i + 1), by kernel_rfl, ?_, ?_⟩
   ·have hj_ := hJ2
    rw [← atake_snoc (by omega)] at hj_
    exact ⟨by omega, hj_, hB2⟩
   (try dsimp only); omega
  refine ⟨_, rfl, ?_⟩
  refine XLI_of (by kernel_rfl) (fun _ _ h_ => h_) ?_
  refine xe0 2 [(0, .func (.yield lp) #[] #[]), (7, .slice A L.length c), (8, .int .i64 (L.length : Int)), (9, nv i), (28, .bool true)] ?_
  refine nl (ct (X_ret (rk [] (hR_ _ _ ?_))))
  refine ⟨⟨_, rfl⟩, .inr ⟨_, ⟨?_, ?_⟩, hJ2⟩⟩
  ·rw [← atake_snoc (by omega), List.length_take, Nat.min_eq_left (by omega)]
  rw [← atake_snoc (by omega), List.length_take]; omega
 refine xr 1 [(10, .eq (.bool false))] [(10, .bool false)] [] [Value.bool (decide ((i : Int) < (L.length : Int))) = Value.bool false] ⟨congrArg Value.bool (decide_eq_false (c_1)), trivial⟩ ?_
 refine nl (sq (cf (X_exit (ek [] (hR_ _ _ ?_)))))
 obtain rfl : i = L.length := by omega
 have hj_ := hJ1
 rw [List.take_length] at hj_
 exact ⟨⟨_, rfl⟩, .inl ⟨_, rfl, hj_⟩⟩
end Go.Proofs.YtkehomiogkoomaaDoor
