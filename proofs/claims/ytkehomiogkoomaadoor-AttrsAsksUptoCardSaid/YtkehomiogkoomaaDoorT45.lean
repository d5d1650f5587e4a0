/- What attrs.Each goes over. Conditions: sizes, the tables of utf8, the errors' variables. -/
import Derived.Test.YtkehomiogkoomaaDoorT44
set_option linter.unusedVariables false
set_option linter.unusedSimpArgs false
set_option maxRecDepth 100000
namespace Go.Proofs.YtkehomiogkoomaaDoor
open Go Go.RowKit Go.Proofs.YtkehomiogkoomaaDoorW.PrintWords RX
set_option maxHeartbeats 1000000 in
theorem aeach_seq (L : List At) (A : Option Addr) (c g : Nat) (w w1 w0 : World) (hl : L.length ≤ 1000000) (hw : Below w.heap.size w w1) (hb0 : Below w1.heap.size w1 w0) (hk1 : RX.Blk w1 g 45 #[.slice A L.length c]) (hC1 : kAttr.C w1 A L.length L)
  (hG : ∀ i, i < L.length → plainErr (L.getD i at0).2.1 (L.getD i at0).2.2.1 (L.getD i at0).2.2.2 = 0) (hsz : ∀ i, i < L.length → (L.getD i at0).2.2.2.size ≤ 9223372036854775807) (hT : Tabs w) (es : List Addr) (hE : ErrsA w es) :
  SeqStopsK Fence.wide 2 Tryd.prog 106 #[.pointer (some ⟨g, 0, none⟩)] (fun (x : At) => #[.string x.1, valV x.2]) (Below w1.heap.size) (fun xs => xs = L) (fun pre => pre = L.take pre.length ∧ pre.length ≤ L.length) L.length w0 := by
 intro lp J Jx W hW hJ hJx hY hJ0
 have hB1 : Below w1.heap.size w1 W := hb0.trans (bel_lo hW hb0.size)
 have hBW : Below w.heap.size w W := bt hw hB1
 have hkW : RX.Blk W g 45 #[.slice A L.length c] := Blk.below hk1 hB1
 have hCW := Kd.C_below hC1 hB1
 have hgl := hk1.lt
 refine callsIn_wide.2 ?_
 rw [show (#[Value.func (.yield lp) #[] #[]] ++ #[Value.pointer (some ⟨g, 0, none⟩)] : Array Value) = #[.func (.yield lp) #[] #[], .pointer (some ⟨g, 0, none⟩)] from rfl]
 refine RX.enter Tryd.func106 rfl 30 rfl [(0, .func (.yield lp) #[] #[]), (1, .pointer (some ⟨g, 0, none⟩))] rfl (by kernel_rfl) (fun R_ hR_ => ?_)
 refine sq (rg (xe 3 [(7, .load (.slice A L.length c))] [(0, .func (.yield lp) #[] #[]), (7, .slice A L.length c), (8, .int .i64 (L.length : Int)), (9, .int .i64 0)] [LoadsAs Tryd.prog 45 (⟨g, 0, none⟩) (.slice A L.length c) W] ⟨loads1 rfl (Blk.cell hkW 0 _ rfl), trivial⟩ ?_))
 refine nl (bk (X_loop (ι := Nat) (fun i => [(0, .func (.yield lp) #[] #[]), (7, .slice A L.length c), (8, .int .i64 (L.length : Int)), (9, .int .i64 (i : Int))]) (fun i wl => i ≤ L.length ∧ J (L.take i) wl ∧ Below w1.heap.size w1 wl) (fun i => L.length - i) 0 ⟨by omega, hJ0, hB1⟩ (by kernel_rfl) ?_))
 rintro i wl ⟨hi_, hJ1, HB⟩
 refine sq (X_region ?_)
 by_cases c_1 : (i : Int) < (L.length : Int)
 ·refine xr 1 [(10, .eq (.bool true))] [(10, .bool true)] [] [Value.bool (decide ((i : Int) < (L.length : Int))) = Value.bool true] ⟨congrArg Value.bool (decide_eq_true (c_1)), trivial⟩ ?_
  refine nl (sq (ct (sk (sq (bk (sq (X_region ?_)))))))
  obtain ⟨ad_2, ha_3, hc_4⟩ := Kd.atAttr (Kd.C_below hC1 HB) (i := (i : Int)) (by omega) (by omega)
  replace hc_4 : CellsAt wl (ad_2.add ((i : Int).toNat * 4)) [.string ((L.getD i at0).1), .int .i64 ((L.getD i at0).2.1), .int .i64 ((L.getD i at0).2.2.1), .string ((L.getD i at0).2.2.2)] := hc_4
  refine xw 3 [(11, .idx ad_2), (12, .load (.agg #[.string ((L.getD i at0).1), .int .i64 ((L.getD i at0).2.1), .int .i64 ((L.getD i at0).2.2.1), .string ((L.getD i at0).2.2.2)]))] [(4, pw wl.heap.size 0), (12, .agg #[.string ((L.getD i at0).1), .int .i64 ((L.getD i at0).2.1), .int .i64 ((L.getD i at0).2.2.1), .string ((L.getD i at0).2.2.2)])] [10] (wl.alloc (.cells #[.string ByteArray.empty, .int .i64 0, .int .i64 0, .string ByteArray.empty] 71)) [A = some ad_2, (0 : Int) ≤ (i : Int), (i : Int) < (L.length : Int), LoadsAs Tryd.prog 71 (ad_2.add ((i : Int).toNat * 4)) (.agg #[.string ((L.getD i at0).1), .int .i64 ((L.getD i at0).2.1), .int .i64 ((L.getD i at0).2.2.1), .string ((L.getD i at0).2.2.2)]) wl] ⟨ha_3, (by omega), (by omega), loadsE rfl rfl hc_4 0 ⟨by kernel_rfl, by kernel_rfl⟩, trivial⟩ ?_
  obtain ⟨w_5, hw_9, hb_6, hk_7, hz_8⟩ := new_world wl #[.string ByteArray.empty, .int .i64 0, .int .i64 0, .string ByteArray.empty] 71
  rw [hw_9]
  refine xst (.agg #[.string ((L.getD i at0).1), .int .i64 ((L.getD i at0).2.1), .int .i64 ((L.getD i at0).2.2.1), .string ((L.getD i at0).2.2.2)]) hk_7 0 #[.string ((L.getD i at0).1), .int .i64 ((L.getD i at0).2.1), .int .i64 ((L.getD i at0).2.2.1), .string ((L.getD i at0).2.2.2)] (fun w_10 hg_11 hk_12 hz_13 => ?_)
  refine nl (sq (rg (xr 2 [(15, .load (.agg #[.int .i64 ((L.getD i at0).2.1), .int .i64 ((L.getD i at0).2.2.1), .string ((L.getD i at0).2.2.2)]))] [(15, .agg #[.int .i64 ((L.getD i at0).2.1), .int .i64 ((L.getD i at0).2.2.1), .string ((L.getD i at0).2.2.2)])] [12] [LoadsAs Tryd.prog 44 (⟨wl.heap.size, 1, none⟩) (.agg #[.int .i64 ((L.getD i at0).2.1), .int .i64 ((L.getD i at0).2.2.1), .string ((L.getD i at0).2.2.2)]) w_10] ⟨loadsB rfl rfl hk_12 1 ⟨by kernel_rfl, by kernel_rfl⟩, trivial⟩ ?_)))
  have hB_14 : Below w.heap.size w w_10 := (bg (bt (bt hw HB) hb_6) hg_11 ((bt hw HB)).size)
  refine xc 104 ent104 [.agg #[.int .i64 ((L.getD i at0).2.1), .int .i64 ((L.getD i at0).2.2.1), .string ((L.getD i at0).2.2.2)]] (vof_any (L.getD i at0).2.1 (L.getD i at0).2.2.1 (L.getD i at0).2.2.2 _ (hsz i (by omega)) (hT.below hB_14) es (hE.below hB_14)) ?_
  rintro e w_15 ⟨rfl, hb_16⟩; refine ⟨_, rfl, ?_⟩
  rw [if_pos (hG i (by omega)), hG i (by omega)]
  refine xr0 5 [(5, valV ((L.getD i at0).2.1, (L.getD i at0).2.2.1, (L.getD i at0).2.2.2)), (6, .nilIface)] [15, 16] ?_
  refine nl (sq (X_regionI ?_))
  refine XLI_pre 7 (by kernel_rfl) (fun _ _ h_ => h_) ?_
  refine xr 7 [(24, .load (.string ((L.getD i at0).1)))] [(21, .bool false), (22, .func (.yield lp) #[] #[]), (24, .string ((L.getD i at0).1)), (25, valV ((L.getD i at0).2.1, (L.getD i at0).2.2.1, (L.getD i at0).2.2.2))] [4, 5, 6] [LoadsAs Tryd.prog 9 (⟨wl.heap.size, 0, none⟩) (.string ((L.getD i at0).1)) w_15] ⟨loads1 rfl (Blk.cell (Blk.below hk_12 hb_16) 0 _ rfl), trivial⟩ ?_
  refine nl ?_
  have hB_18 : Below wl.heap.size wl w_15 := (bt (bg hb_6 hg_11 (Nat.le_refl _)) hb_16)
  refine XLI_yield rfl rfl rfl rfl [.string ((L.getD i at0).1), valV ((L.getD i at0).2.1, (L.getD i at0).2.2.1, (L.getD i at0).2.2.2)] (by kernel_rfl) (hY (L.take i) (L.getD i at0) _ (abides_below hJ hB_18 hJ1) (by rw [List.length_take]; omega)) ?_
  rintro e w_17 (⟨rfl, hJ2, hK2⟩ | ⟨rfl, hJ2⟩)
  ·refine ⟨_, rfl, ?_⟩
   have hB_19 : Below w1.heap.size w1 w_15 := (bt (bg (bt HB hb_6) hg_11 (HB).size) hb_16)
   have hB2 : Below w1.heap.size w1 w_17 := hB_19.trans hK2
   refine XLI_of (by kernel_rfl) (fun _ _ h_ => h_) ?_
   refine xe0 2 [(0, .func (.yield lp) #[] #[]), (7, .slice A L.length c), (8, .int .i64 (L.length : Int)), (9, nv i), (28, .bool false)] ?_
   refine nl (cf (sk (rg (xr 2 [(29, .eq (.int .i64 ((i : Int) + 1)))] [(9, .int .i64 ((i : Int) + 1))] [28] [Value.int .i64 (IntKind.i64.wrap ((i : Int) + 1)) = Value.int .i64 ((i : Int) + 1)] ⟨wr_i64 (by omega) (by omega), trivial⟩ ?_))))
   refine nl ?_
   refine ⟨(i + 1), by kernel_rfl, ?_, ?_⟩
   ·have hj_ := hJ2
    rw [← atake_snoc (by omega)] at hj_
    exact ⟨by omega, hj_, hB2⟩
   (try dsimp only); omega
  refine ⟨_, rfl, ?_⟩
  refine XLI_of (by kernel_rfl) (fun _ _ h_ => h_) ?_
  refine xe0 2 [(0, .func (.yield lp) #[] #[]), (7, .slice A L.length c), (8, .int .i64 (L.length : Int)), (9, nv i), (28, .bool true)] ?_
  refine nl (ct (X_ret (rk [] (hR_ _ _ ?_))))
  refine ⟨⟨_, rfl⟩, .inr ⟨_, ⟨?_, ?_⟩, hJ2⟩⟩
  ·rw [← atake_snoc (by omega), List.length_take, Nat.min_eq_left (by omega)]
  rw [← atake_snoc (by omega), List.length_take]; omega
 refine xr 1 [(10, .eq (.bool false))] [(10, .bool false)] [] [Value.bool (decide ((i : Int) < (L.length : Int))) = Value.bool false] ⟨congrArg Value.bool (decide_eq_false (c_1)), trivial⟩ ?_
 refine nl (sq (cf (X_exit (ek [] (hR_ _ _ ?_)))))
 obtain rfl : i = L.length := by omega
 have hj_ := hJ1
 rw [List.take_length] at hj_
 exact ⟨⟨_, rfl⟩, .inl ⟨_, rfl, hj_⟩⟩
end Go.Proofs.YtkehomiogkoomaaDoor
