/- vellumref06.Of. Conditions: sizes, the tables of utf8. -/
import Derived.Test.YtkehomiogkoomaaDoorT16
import Derived.Test.YtkehomiogkoomaaDoorT7
import Derived.Test.YtkehomiogkoomaaDoorT14
set_option linter.unusedVariables false
set_option linter.unusedSimpArgs false
set_option maxRecDepth 100000
namespace Go.Proofs.YtkehomiogkoomaaDoor
open Go Go.RowKit Go.Proofs.YtkehomiogkoomaaDoorW.PrintWords RX
theorem ent59 : Ent Tryd.prog 59 := ent_of Tryd.func59 (by kernel_rfl) rfl
theorem RX.MixK.spoilt {α : Type} {d : Kd α} {z : α} {e Bs lo hi : Nat} {W0 w w1 : World} {A : Option Addr} {n c : Nat} {xs : List α} (h : RX.MixK d z e Bs W0 w A n c xs) (hs : Spoilt lo hi w w1) (hb : hi ≤ Bs) : RX.MixK d z e Bs W0 w1 A n c xs := by
 obtain ⟨vs, hR, hl, hK⟩ := h
 exact ⟨vs, Kd.R_spoilt hR hs hb, hl, hK⟩
set_option maxHeartbeats 4000000 in
theorem r6of_any (A : Option Addr) (c : Nat) (xs : List OpA) (W0 w : World) (hW : Below W0.heap.size W0 w) (hx : kOp.C W0 A xs.length xs) (hn : xs.length ≤ 1048576) (hz : ∀ i, i < xs.length → opSz (xs.getD i op0)) (ht : B.txS xs ≤ 50000000) (hT : Tabs w) :
  Calls Tryd.prog 59 #[.slice A xs.length c] w fun e w' => Below w.heap.size w w' ∧ (((B.bOf xs).2 = 0 ∧ ∃ A1 c1, e = .returned (.tuple #[.slice A1 (B.can xs).length c1, .int .i64 0, .int .i64 0]) ∧ MixK kOp op0 47 w.heap.size W0 w' A1 (B.can xs).length c1 (B.can xs)) ∨ ((B.bOf xs).2 ≠ 0 ∧ e = .returned (.tuple #[.slice none 0 0, .int .i64 ((B.bOf xs).1 : Int), .int .i64 ((B.bOf xs).2 : Int)]))) := by
 have hpl : xs.length ≤ 9223372036854775807 := hx.2.1
 have hL_ : B.L = 1099511627776 := rfl
 refine RX.enter Tryd.func59 rfl 49 rfl [(0, .slice A xs.length c)] rfl (by kernel_rfl) (fun R_ hR_ => ?_)
 refine sq (rg (xe0 3 [(0, .slice A xs.length c)] ?_))
 refine nl (sq (rg (xr0 2 [(5, .int .i64 0), (6, .int .i64 0)] [] ?_)))
 refine nl (sq (sq (rg (xr0 3 [(11, .slice A xs.length c), (12, .int .i64 (xs.length : Int)), (13, .int .i64 0)] [] ?_))))
 refine nl (bk (X_loop (ι := Nat × Int × Int) (fun ⟨i, b, r⟩ => [(0, .slice A xs.length c), (5, .int .i64 b), (6, .int .i64 r), (11, .slice A xs.length c), (12, .int .i64 (xs.length : Int)), (13, .int .i64 (i : Int))]) (fun ⟨i, b, r⟩ wl => i ≤ xs.length ∧ (∀ j, j < i → B.bE xs j = 0) ∧ b = sB (xs.take i) ∧ r = sR (xs.take i) ∧ Below w.heap.size w wl) (fun ⟨i, b, r⟩ => xs.length - i) (0, 0, 0) ⟨Nat.zero_le _, fun _ h_ => absurd h_ (Nat.not_lt_zero _), rfl, rfl, (Below.refl _ _)⟩ (by kernel_rfl) ?_))
 rintro ⟨i, b, r⟩ wl ⟨hi, hb0, hbb, hrr, HB⟩
 have hup := B.bE_upto hi hb0
 have hsB0 := sB_ok hup.1
 have hsR0 := sR_ok hup.1
 refine sq (X_region ?_)
 by_cases c_1 : (i : Int) < (xs.length : Int)
 ·refine xr 1 [(14, .eq (.bool true))] [(14, .bool true)] [] [Value.bool (decide ((i : Int) < (xs.length : Int))) = Value.bool true] ⟨congrArg Value.bool (decide_eq_true (c_1)), trivial⟩ ?_
  refine nl (sq (ct (sk (sq (bk (sq (rg (xr0 1 [(15, nv i)] [14] ?_))))))))
  obtain ⟨ad_2, B_5, c_6, ha_3, hc_4, hl_7, hC_8⟩ := Kd.atOp (Kd.C_below hx (bt hW HB)) (i := (i : Int)) (by omega) (by omega)
  replace hc_4 : CellsAt wl (ad_2.add ((i : Int).toNat * 7)) [.int .i64 ((xs.getD i op0).kind), .string ((xs.getD i op0).text), .int .i64 ((xs.getD i op0).vk), .int .i64 ((xs.getD i op0).vn), .string ((xs.getD i op0).vt), .int .i64 ((xs.getD i op0).count), .slice B_5 ((xs.getD i op0).attrs.length) c_6] := hc_4
  replace hl_7 : (xs.getD i op0).attrs.length ≤ c_6 := hl_7
  replace hC_8 : kAttr.C wl B_5 ((xs.getD i op0).attrs.length) (xs.getD i op0).attrs := hC_8
  refine xw 3 [(16, .idx ad_2), (17, .load (.agg #[.int .i64 ((xs.getD i op0).kind), .string ((xs.getD i op0).text), .int .i64 ((xs.getD i op0).vk), .int .i64 ((xs.getD i op0).vn), .string ((xs.getD i op0).vt), .int .i64 ((xs.getD i op0).count), .slice B_5 ((xs.getD i op0).attrs.length) c_6]))] [(8, pw wl.heap.size 0), (17, .agg #[.int .i64 ((xs.getD i op0).kind), .string ((xs.getD i op0).text), .int .i64 ((xs.getD i op0).vk), .int .i64 ((xs.getD i op0).vn), .string ((xs.getD i op0).vt), .int .i64 ((xs.getD i op0).count), .slice B_5 ((xs.getD i op0).attrs.length) c_6])] [] (wl.alloc (.cells #[.int .i64 0, .string ByteArray.empty, .int .i64 0, .int .i64 0, .string ByteArray.empty, .int .i64 0, .slice none 0 0] 47)) [A = some ad_2, (0 : Int) ≤ (i : Int), (i : Int) < (xs.length : Int), LoadsAs Tryd.prog 47 (ad_2.add ((i : Int).toNat * 7)) (.agg #[.int .i64 ((xs.getD i op0).kind), .string ((xs.getD i op0).text), .int .i64 ((xs.getD i op0).vk), .int .i64 ((xs.getD i op0).vn), .string ((xs.getD i op0).vt), .int .i64 ((xs.getD i op0).count), .slice B_5 ((xs.getD i op0).attrs.length) c_6]) wl] ⟨ha_3, (by omega), (by omega), loadsE rfl rfl hc_4 0 ⟨by kernel_rfl, by kernel_rfl⟩, trivial⟩ ?_
  obtain ⟨w_9, hw_13, hb_10, hk_11, hz_12⟩ := new_world wl #[.int .i64 0, .string ByteArray.empty, .int .i64 0, .int .i64 0, .string ByteArray.empty, .int .i64 0, .slice none 0 0] 47
  rw [hw_13]
  refine xr0 1 [(7, nv i)] [15] ?_
  refine xst (.agg #[.int .i64 ((xs.getD i op0).kind), .string ((xs.getD i op0).text), .int .i64 ((xs.getD i op0).vk), .int .i64 ((xs.getD i op0).vn), .string ((xs.getD i op0).vt), .int .i64 ((xs.getD i op0).count), .slice B_5 ((xs.getD i op0).attrs.length) c_6]) hk_11 0 #[.int .i64 ((xs.getD i op0).kind), .string ((xs.getD i op0).text), .int .i64 ((xs.getD i op0).vk), .int .i64 ((xs.getD i op0).vn), .string ((xs.getD i op0).vt), .int .i64 ((xs.getD i op0).count), .slice B_5 ((xs.getD i op0).attrs.length) c_6] (fun w_14 hg_15 hk_16 hz_17 => ?_)
  refine nl (sq (rg (xr 1 [(18, .load (.agg #[.int .i64 ((xs.getD i op0).kind), .string ((xs.getD i op0).text), .int .i64 ((xs.getD i op0).vk), .int .i64 ((xs.getD i op0).vn), .string ((xs.getD i op0).vt), .int .i64 ((xs.getD i op0).count), .slice B_5 ((xs.getD i op0).attrs.length) c_6]))] [(18, .agg #[.int .i64 ((xs.getD i op0).kind), .string ((xs.getD i op0).text), .int .i64 ((xs.getD i op0).vk), .int .i64 ((xs.getD i op0).vn), .string ((xs.getD i op0).vt), .int .i64 ((xs.getD i op0).count), .slice B_5 ((xs.getD i op0).attrs.length) c_6])] [17] [LoadsAs Tryd.prog 47 (⟨wl.heap.size, 0, none⟩) (.agg #[.int .i64 ((xs.getD i op0).kind), .string ((xs.getD i op0).text), .int .i64 ((xs.getD i op0).vk), .int .i64 ((xs.getD i op0).vn), .string ((xs.getD i op0).vt), .int .i64 ((xs.getD i op0).count), .slice B_5 ((xs.getD i op0).attrs.length) c_6]) w_14] ⟨loadsB rfl rfl hk_16 0 ⟨by kernel_rfl, by kernel_rfl⟩, trivial⟩ ?_)))
  have hszi := hz i (by omega)
  have hsci := U.sc_le (xs.getD i op0).text
  have hszt := hszi.1
  have hol : opLen (xs.getD i op0) = (if (xs.getD i op0).kind = 1 then ((U.sc (xs.getD i op0).text).length : Int) else if (xs.getD i op0).kind = 2 then 1 else (xs.getD i op0).count) := rfl
  have hob : opB (xs.getD i op0) = (if (xs.getD i op0).kind = 3 ∨ (xs.getD i op0).kind = 4 then opLen (xs.getD i op0) else 0) := rfl
  have hor : opR (xs.getD i op0) = (if (xs.getD i op0).kind = 4 then 0 else opLen (xs.getD i op0)) := rfl
  have hst1 := B.sB_take (show i < xs.length by omega)
  have hst2 := B.sR_take (show i < xs.length by omega)
  refine xc 124 ent124 [.agg #[.int .i64 ((xs.getD i op0).kind), .string ((xs.getD i op0).text), .int .i64 ((xs.getD i op0).vk), .int .i64 ((xs.getD i op0).vn), .string ((xs.getD i op0).vt), .int .i64 ((xs.getD i op0).count), .slice B_5 ((xs.getD i op0).attrs.length) c_6]] (r5check_any (xs.getD i op0) _ _ _ (Kd.C_below hC_8 (bg hb_10 hg_15 (Nat.le_refl _))) hszi (hT.below (bg (bt HB hb_10) hg_15 (HB).size))) ?_
  rintro e w_18 ⟨rfl, hb_19⟩; refine ⟨_, rfl, ?_⟩
  refine xe0 1 [(0, .slice A xs.length c), (5, .int .i64 b), (6, .int .i64 r), (7, nv i), (8, pw wl.heap.size 0), (9, .int .i64 (pErr (xs.getD i op0) : Int)), (11, .slice A xs.length c), (12, .int .i64 (xs.length : Int)), (13, nv i)] ?_
  refine nl (sq (sq (rg (xr0 1 [(20, .int .i64 (pErr (xs.getD i op0) : Int))] [] ?_))))
  by_cases c_20 : (pErr (xs.getD i op0) : Int) = 0
  ·have hpe : pErr (xs.getD i op0) = 0 := by omega
   have hki := kind_of_ok hpe
   have hcni := fun hk_ => count_of_ok hpe hk_
   have hol0 := opLen_ok hpe
   have hol1 : opLen (xs.getD i op0) ≤ 1099511627776 := by rw [hol]; split; (· omega); (· split; (· omega); (· exact (hcni (by omega)).2))
   refine xr 1 [(21, .eq (.bool false))] [(21, .bool false)] [20] [Value.bool ((pErr (xs.getD i op0) : Int) != 0) = Value.bool false] ⟨congrArg Value.bool (bneF (c_20)), trivial⟩ ?_
   refine nl (cf (sk (sq (rg (xr 1 [(24, .load (.agg #[.int .i64 ((xs.getD i op0).kind), .string ((xs.getD i op0).text), .int .i64 ((xs.getD i op0).vk), .int .i64 ((xs.getD i op0).vn), .string ((xs.getD i op0).vt), .int .i64 ((xs.getD i op0).count), .slice B_5 ((xs.getD i op0).attrs.length) c_6]))] [(24, .agg #[.int .i64 ((xs.getD i op0).kind), .string ((xs.getD i op0).text), .int .i64 ((xs.getD i op0).vk), .int .i64 ((xs.getD i op0).vn), .string ((xs.getD i op0).vt), .int .i64 ((xs.getD i op0).count), .slice B_5 ((xs.getD i op0).attrs.length) c_6])] [9, 21] [LoadsAs Tryd.prog 47 (⟨wl.heap.size, 0, none⟩) (.agg #[.int .i64 ((xs.getD i op0).kind), .string ((xs.getD i op0).text), .int .i64 ((xs.getD i op0).vk), .int .i64 ((xs.getD i op0).vn), .string ((xs.getD i op0).vt), .int .i64 ((xs.getD i op0).count), .slice B_5 ((xs.getD i op0).attrs.length) c_6]) w_18] ⟨loadsB rfl rfl (Blk.below hk_16 hb_19) 0 ⟨by kernel_rfl, by kernel_rfl⟩, trivial⟩ ?_)))))
   have hB_21 : Below wl.heap.size wl w_18 := (bt (bg hb_10 hg_15 (Nat.le_refl _)) hb_19)
   refine xc 51 ent51 [.agg #[.int .i64 ((xs.getD i op0).kind), .string ((xs.getD i op0).text), .int .i64 ((xs.getD i op0).vk), .int .i64 ((xs.getD i op0).vn), .string ((xs.getD i op0).vt), .int .i64 ((xs.getD i op0).count), .slice B_5 ((xs.getD i op0).attrs.length) c_6]] (r6len_any (xs.getD i op0) _ _ _ (Kd.C_below hC_8 hB_21) (ok_utf hpe) hszi) ?_
   rintro e w_22 ⟨rfl, hb_23⟩; refine ⟨_, rfl, ?_⟩
   refine xr 2 [(26, .eq (.int .i64 (min (opLen (xs.getD i op0)) 1099511627777)))] [(10, .int .i64 (min (opLen (xs.getD i op0)) 1099511627777))] [24, 25] [Value.int .i64 (if 1099511627777 < opLen (xs.getD i op0) then 1099511627777 else opLen (xs.getD i op0)) = Value.int .i64 (min (opLen (xs.getD i op0)) 1099511627777)] ⟨congrArg (Value.int .i64) (min_eq _ _), trivial⟩ ?_
   refine nl (sq (sq (rg (xr 1 [(27, .load (.agg #[.int .i64 ((xs.getD i op0).kind), .string ((xs.getD i op0).text), .int .i64 ((xs.getD i op0).vk), .int .i64 ((xs.getD i op0).vn), .string ((xs.getD i op0).vt), .int .i64 ((xs.getD i op0).count), .slice B_5 ((xs.getD i op0).attrs.length) c_6]))] [(27, .agg #[.int .i64 ((xs.getD i op0).kind), .string ((xs.getD i op0).text), .int .i64 ((xs.getD i op0).vk), .int .i64 ((xs.getD i op0).vn), .string ((xs.getD i op0).vt), .int .i64 ((xs.getD i op0).count), .slice B_5 ((xs.getD i op0).attrs.length) c_6])] [] [LoadsAs Tryd.prog 47 (⟨wl.heap.size, 0, none⟩) (.agg #[.int .i64 ((xs.getD i op0).kind), .string ((xs.getD i op0).text), .int .i64 ((xs.getD i op0).vk), .int .i64 ((xs.getD i op0).vn), .string ((xs.getD i op0).vt), .int .i64 ((xs.getD i op0).count), .slice B_5 ((xs.getD i op0).attrs.length) c_6]) w_22] ⟨loadsB rfl rfl (Blk.below hk_16 (bt hb_19 hb_23)) 0 ⟨by kernel_rfl, by kernel_rfl⟩, trivial⟩ ?_))))
   refine xc 28 ent28 [.agg #[.int .i64 ((xs.getD i op0).kind), .string ((xs.getD i op0).text), .int .i64 ((xs.getD i op0).vk), .int .i64 ((xs.getD i op0).vn), .string ((xs.getD i op0).vt), .int .i64 ((xs.getD i op0).count), .slice B_5 ((xs.getD i op0).attrs.length) c_6]] (r6ins_any (xs.getD i op0) _ _ _ (Kd.C_below hC_8 (bt hB_21 hb_23))) ?_
   rintro e w_24 ⟨rfl, hb_25⟩; refine ⟨_, rfl, ?_⟩
   by_cases c_26 : decide (insO (xs.getD i op0)) = true
   ·have hin : ((xs.getD i op0).kind = 1 ∨ (xs.getD i op0).kind = 2) := of_decide_eq_true c_26
    rw [show (decide (insO (xs.getD i op0)) : Bool) = true from by simpa using c_26]
    refine xe0 1 [(0, .slice A xs.length c), (5, .int .i64 b), (6, .int .i64 r), (7, nv i), (8, pw wl.heap.size 0), (10, .int .i64 (min (opLen (xs.getD i op0)) 1099511627777)), (11, .slice A xs.length c), (12, .int .i64 (xs.length : Int)), (13, nv i), (29, .bool false)] ?_
    refine nl (cf (sk (sq (sq (rg (xr 2 [(34, .load (.int .i64 ((xs.getD i op0).kind)))] [(34, .int .i64 ((xs.getD i op0).kind))] [8, 29] [LoadsAs Tryd.prog 3 (⟨wl.heap.size, 0, none⟩) (.int .i64 ((xs.getD i op0).kind)) w_24] ⟨loads1 rfl (Blk.cell (Blk.below hk_16 (bt (bt hb_19 hb_23) hb_25)) 0 _ rfl), trivial⟩ ?_))))))
    by_cases c_27 : (xs.getD i op0).kind = 4
    ·refine xr 1 [(35, .eq (.bool false))] [(35, .bool false)] [34] [Value.bool ((xs.getD i op0).kind != 4) = Value.bool false] ⟨congrArg Value.bool (bneF (c_27)), trivial⟩ ?_
     refine nl (cf (sk (sq (rg (xr0 1 [(39, .int .i64 b)] [10, 35] ?_)))))
     by_cases c_28 : b > 1099511627776
     ·refine xr 5 [(40, .eq (.bool true))] [(44, .bool true)] [39] [Value.bool (decide (b > 1099511627776)) = Value.bool true] ⟨congrArg Value.bool (decide_eq_true (c_28)), trivial⟩ ?_
      refine nl (ct (sq (rg (xe0 4 [(2, .slice none 0 0), (3, nv i), (4, .int .i64 11)] ?_))))
      refine nl (X_ret (rk [.slice none 0 0, .int .i64 (i : Int), .int .i64 11] (hR_ _ _ ?_)))
      have hB_29 : Below w.heap.size w w_24 := (bt (bt (bt (bg (bt HB hb_10) hg_15 (HB).size) hb_19) hb_23) hb_25)
      have hbi : B.bE xs i = 11 := by unfold B.bE; rw [if_neg (by omega), if_pos (by omega)]
      have hbn : B.bE xs i ≠ 0 := by omega
      have hfo : B.bOf xs = (i, B.bE xs i) := B.first_at hb0 hbn (show i < xs.length by omega)
      rw [hfo, hbi]
      exact ⟨hB_29, .inr ⟨by (try dsimp only); omega, rfl⟩⟩
     refine xr 3 [(40, .eq (.bool false))] [(41, .bool false), (42, .int .i64 r)] [39] [Value.bool (decide (b > 1099511627776)) = Value.bool false] ⟨congrArg Value.bool (decide_eq_false (c_28)), trivial⟩ ?_
     by_cases c_30 : r > 1099511627776
     ·refine xr 2 [(43, .eq (.bool true))] [(44, .bool true)] [41, 42] [Value.bool (decide (r > 1099511627776)) = Value.bool true] ⟨congrArg Value.bool (decide_eq_true (c_30)), trivial⟩ ?_
      refine nl (ct (sq (rg (xe0 4 [(2, .slice none 0 0), (3, nv i), (4, .int .i64 11)] ?_))))
      refine nl (X_ret (rk [.slice none 0 0, .int .i64 (i : Int), .int .i64 11] (hR_ _ _ ?_)))
      have hB_31 : Below w.heap.size w w_24 := (bt (bt (bt (bg (bt HB hb_10) hg_15 (HB).size) hb_19) hb_23) hb_25)
      have hbi : B.bE xs i = 11 := by unfold B.bE; rw [if_neg (by omega), if_pos (by omega)]
      have hbn : B.bE xs i ≠ 0 := by omega
      have hfo : B.bOf xs = (i, B.bE xs i) := B.first_at hb0 hbn (show i < xs.length by omega)
      rw [hfo, hbi]
      exact ⟨hB_31, .inr ⟨by (try dsimp only); omega, rfl⟩⟩
     refine xr 2 [(43, .eq (.bool false))] [(44, .bool false)] [41, 42] [Value.bool (decide (r > 1099511627776)) = Value.bool false] ⟨congrArg Value.bool (decide_eq_false (c_30)), trivial⟩ ?_
     refine nl (cf (sk (rg (xe 2 [(46, .eq (.int .i64 ((i : Int) + 1)))] [(0, .slice A xs.length c), (5, .int .i64 b), (6, .int .i64 r), (11, .slice A xs.length c), (12, .int .i64 (xs.length : Int)), (13, .int .i64 ((i : Int) + 1))] [Value.int .i64 (IntKind.i64.wrap ((i : Int) + 1)) = Value.int .i64 ((i : Int) + 1)] ⟨wr_i64 (by omega) (by omega), trivial⟩ ?_))))
     refine nl ?_
     have hB_32 : Below w.heap.size w w_24 := (bt (bt (bt (bg (bt HB hb_10) hg_15 (HB).size) hb_19) hb_23) hb_25)
     refine ⟨(i + 1, b, r), by kernel_rfl, ?_, ?_⟩
     ·have hbi : B.bE xs i = 0 := by unfold B.bE; rw [if_neg (by omega), if_neg (by omega)]
      exact ⟨by omega, fun j_ hj_ => (by by_cases h_ : j_ < i; (· exact hb0 j_ h_); (· obtain rfl : j_ = i := (by omega); exact hbi)), by omega, by omega, hB_32⟩
     (try dsimp only); omega
    refine xr 1 [(35, .eq (.bool true))] [(35, .bool true)] [34] [Value.bool ((xs.getD i op0).kind != 4) = Value.bool true] ⟨congrArg Value.bool (bneT (c_27)), trivial⟩ ?_
    refine nl (ct (rg (xr 4 [(38, .eq (.int .i64 (r + (min (opLen (xs.getD i op0)) 1099511627777))))] [(6, .int .i64 (r + (min (opLen (xs.getD i op0)) 1099511627777)))] [10, 35] [Value.int .i64 (IntKind.i64.wrap (r + (min (opLen (xs.getD i op0)) 1099511627777))) = Value.int .i64 (r + (min (opLen (xs.getD i op0)) 1099511627777))] ⟨wr_i64 (by omega) (by omega), trivial⟩ ?_)))
    refine nl (sq (rg (xr0 1 [(39, .int .i64 b)] [] ?_)))
    by_cases c_33 : b > 1099511627776
    ·refine xr 5 [(40, .eq (.bool true))] [(44, .bool true)] [39] [Value.bool (decide (b > 1099511627776)) = Value.bool true] ⟨congrArg Value.bool (decide_eq_true (c_33)), trivial⟩ ?_
     refine nl (ct (sq (rg (xe0 4 [(2, .slice none 0 0), (3, nv i), (4, .int .i64 11)] ?_))))
     refine nl (X_ret (rk [.slice none 0 0, .int .i64 (i : Int), .int .i64 11] (hR_ _ _ ?_)))
     have hB_34 : Below w.heap.size w w_24 := (bt (bt (bt (bg (bt HB hb_10) hg_15 (HB).size) hb_19) hb_23) hb_25)
     have hbi : B.bE xs i = 11 := by unfold B.bE; rw [if_neg (by omega), if_pos (by omega)]
     have hbn : B.bE xs i ≠ 0 := by omega
     have hfo : B.bOf xs = (i, B.bE xs i) := B.first_at hb0 hbn (show i < xs.length by omega)
     rw [hfo, hbi]
     exact ⟨hB_34, .inr ⟨by (try dsimp only); omega, rfl⟩⟩
    refine xr 3 [(40, .eq (.bool false))] [(41, .bool false), (42, .int .i64 (r + (min (opLen (xs.getD i op0)) 1099511627777)))] [39] [Value.bool (decide (b > 1099511627776)) = Value.bool false] ⟨congrArg Value.bool (decide_eq_false (c_33)), trivial⟩ ?_
    by_cases c_35 : r + (min (opLen (xs.getD i op0)) 1099511627777) > 1099511627776
    ·refine xe 2 [(43, .eq (.bool true))] [(0, .slice A xs.length c), (5, .int .i64 b), (6, .int .i64 (r + (min (opLen (xs.getD i op0)) 1099511627777))), (7, nv i), (11, .slice A xs.length c), (12, .int .i64 (xs.length : Int)), (13, nv i), (44, .bool true)] [Value.bool (decide (r + (min (opLen (xs.getD i op0)) 1099511627777) > 1099511627776)) = Value.bool true] ⟨congrArg Value.bool (decide_eq_true (c_35)), trivial⟩ ?_
     refine nl (ct (sq (rg (xe0 4 [(2, .slice none 0 0), (3, nv i), (4, .int .i64 11)] ?_))))
     refine nl (X_ret (rk [.slice none 0 0, .int .i64 (i : Int), .int .i64 11] (hR_ _ _ ?_)))
     have hB_36 : Below w.heap.size w w_24 := (bt (bt (bt (bg (bt HB hb_10) hg_15 (HB).size) hb_19) hb_23) hb_25)
     have hbi : B.bE xs i = 11 := by unfold B.bE; rw [if_neg (by omega), if_pos (by omega)]
     have hbn : B.bE xs i ≠ 0 := by omega
     have hfo : B.bOf xs = (i, B.bE xs i) := B.first_at hb0 hbn (show i < xs.length by omega)
     rw [hfo, hbi]
     exact ⟨hB_36, .inr ⟨by (try dsimp only); omega, rfl⟩⟩
    refine xe 2 [(43, .eq (.bool false))] [(0, .slice A xs.length c), (5, .int .i64 b), (6, .int .i64 (r + (min (opLen (xs.getD i op0)) 1099511627777))), (7, nv i), (11, .slice A xs.length c), (12, .int .i64 (xs.length : Int)), (13, nv i), (44, .bool false)] [Value.bool (decide (r + (min (opLen (xs.getD i op0)) 1099511627777) > 1099511627776)) = Value.bool false] ⟨congrArg Value.bool (decide_eq_false (c_35)), trivial⟩ ?_
    refine nl (cf (sk (rg (xr 2 [(46, .eq (.int .i64 ((i : Int) + 1)))] [(13, .int .i64 ((i : Int) + 1))] [7, 44] [Value.int .i64 (IntKind.i64.wrap ((i : Int) + 1)) = Value.int .i64 ((i : Int) + 1)] ⟨wr_i64 (by omega) (by omega), trivial⟩ ?_))))
    refine nl ?_
    have hB_37 : Below w.heap.size w w_24 := (bt (bt (bt (bg (bt HB hb_10) hg_15 (HB).size) hb_19) hb_23) hb_25)
    refine ⟨(i + 1, b, r + (min (opLen (xs.getD i op0)) 1099511627777)), by kernel_rfl, ?_, ?_⟩
    ·have hbi : B.bE xs i = 0 := by unfold B.bE; rw [if_neg (by omega), if_neg (by omega)]
     exact ⟨by omega, fun j_ hj_ => (by by_cases h_ : j_ < i; (· exact hb0 j_ h_); (· obtain rfl : j_ = i := (by omega); exact hbi)), by omega, by omega, hB_37⟩
    (try dsimp only); omega
   have hin : ¬ ((xs.getD i op0).kind = 1 ∨ (xs.getD i op0).kind = 2) := (of_decide_eq_false (Bool.eq_false_iff.2 c_26))
   rw [show (decide (insO (xs.getD i op0)) : Bool) = false from by simpa using c_26]
   refine xe0 1 [(0, .slice A xs.length c), (5, .int .i64 b), (6, .int .i64 r), (7, nv i), (8, pw wl.heap.size 0), (10, .int .i64 (min (opLen (xs.getD i op0)) 1099511627777)), (11, .slice A xs.length c), (12, .int .i64 (xs.length : Int)), (13, nv i), (29, .bool true)] ?_
   refine nl (ct (rg (xr 4 [(32, .eq (.int .i64 (b + (min (opLen (xs.getD i op0)) 1099511627777))))] [(5, .int .i64 (b + (min (opLen (xs.getD i op0)) 1099511627777)))] [29] [Value.int .i64 (IntKind.i64.wrap (b + (min (opLen (xs.getD i op0)) 1099511627777))) = Value.int .i64 (b + (min (opLen (xs.getD i op0)) 1099511627777))] ⟨wr_i64 (by omega) (by omega), trivial⟩ ?_)))
   refine nl (sq (sq (rg (xr 2 [(34, .load (.int .i64 ((xs.getD i op0).kind)))] [(34, .int .i64 ((xs.getD i op0).kind))] [8] [LoadsAs Tryd.prog 3 (⟨wl.heap.size, 0, none⟩) (.int .i64 ((xs.getD i op0).kind)) w_24] ⟨loads1 rfl (Blk.cell (Blk.below hk_16 (bt (bt hb_19 hb_23) hb_25)) 0 _ rfl), trivial⟩ ?_))))
   by_cases c_38 : (xs.getD i op0).kind = 4
   ·refine xr 1 [(35, .eq (.bool false))] [(35, .bool false)] [34] [Value.bool ((xs.getD i op0).kind != 4) = Value.bool false] ⟨congrArg Value.bool (bneF (c_38)), trivial⟩ ?_
    refine nl (cf (sk (sq (rg (xr0 1 [(39, .int .i64 (b + (min (opLen (xs.getD i op0)) 1099511627777)))] [10, 35] ?_)))))
    by_cases c_39 : b + (min (opLen (xs.getD i op0)) 1099511627777) > 1099511627776
    ·refine xr 5 [(40, .eq (.bool true))] [(44, .bool true)] [39] [Value.bool (decide (b + (min (opLen (xs.getD i op0)) 1099511627777) > 1099511627776)) = Value.bool true] ⟨congrArg Value.bool (decide_eq_true (c_39)), trivial⟩ ?_
     refine nl (ct (sq (rg (xe0 4 [(2, .slice none 0 0), (3, nv i), (4, .int .i64 11)] ?_))))
     refine nl (X_ret (rk [.slice none 0 0, .int .i64 (i : Int), .int .i64 11] (hR_ _ _ ?_)))
     have hB_40 : Below w.heap.size w w_24 := (bt (bt (bt (bg (bt HB hb_10) hg_15 (HB).size) hb_19) hb_23) hb_25)
     have hbi : B.bE xs i = 11 := by unfold B.bE; rw [if_neg (by omega), if_pos (by omega)]
     have hbn : B.bE xs i ≠ 0 := by omega
     have hfo : B.bOf xs = (i, B.bE xs i) := B.first_at hb0 hbn (show i < xs.length by omega)
     rw [hfo, hbi]
     exact ⟨hB_40, .inr ⟨by (try dsimp only); omega, rfl⟩⟩
    refine xr 3 [(40, .eq (.bool false))] [(41, .bool false), (42, .int .i64 r)] [39] [Value.bool (decide (b + (min (opLen (xs.getD i op0)) 1099511627777) > 1099511627776)) = Value.bool false] ⟨congrArg Value.bool (decide_eq_false (c_39)), trivial⟩ ?_
    by_cases c_41 : r > 1099511627776
    ·refine xe 2 [(43, .eq (.bool true))] [(0, .slice A xs.length c), (5, .int .i64 (b + (min (opLen (xs.getD i op0)) 1099511627777))), (6, .int .i64 r), (7, nv i), (11, .slice A xs.length c), (12, .int .i64 (xs.length : Int)), (13, nv i), (44, .bool true)] [Value.bool (decide (r > 1099511627776)) = Value.bool true] ⟨congrArg Value.bool (decide_eq_true (c_41)), trivial⟩ ?_
     refine nl (ct (sq (rg (xe0 4 [(2, .slice none 0 0), (3, nv i), (4, .int .i64 11)] ?_))))
     refine nl (X_ret (rk [.slice none 0 0, .int .i64 (i : Int), .int .i64 11] (hR_ _ _ ?_)))
     have hB_42 : Below w.heap.size w w_24 := (bt (bt (bt (bg (bt HB hb_10) hg_15 (HB).size) hb_19) hb_23) hb_25)
     have hbi : B.bE xs i = 11 := by unfold B.bE; rw [if_neg (by omega), if_pos (by omega)]
     have hbn : B.bE xs i ≠ 0 := by omega
     have hfo : B.bOf xs = (i, B.bE xs i) := B.first_at hb0 hbn (show i < xs.length by omega)
     rw [hfo, hbi]
     exact ⟨hB_42, .inr ⟨by (try dsimp only); omega, rfl⟩⟩
    refine xe 2 [(43, .eq (.bool false))] [(0, .slice A xs.length c), (5, .int .i64 (b + (min (opLen (xs.getD i op0)) 1099511627777))), (6, .int .i64 r), (7, nv i), (11, .slice A xs.length c), (12, .int .i64 (xs.length : Int)), (13, nv i), (44, .bool false)] [Value.bool (decide (r > 1099511627776)) = Value.bool false] ⟨congrArg Value.bool (decide_eq_false (c_41)), trivial⟩ ?_
    refine nl (cf (sk (rg (xr 2 [(46, .eq (.int .i64 ((i : Int) + 1)))] [(13, .int .i64 ((i : Int) + 1))] [7, 44] [Value.int .i64 (IntKind.i64.wrap ((i : Int) + 1)) = Value.int .i64 ((i : Int) + 1)] ⟨wr_i64 (by omega) (by omega), trivial⟩ ?_))))
    refine nl ?_
    have hB_43 : Below w.heap.size w w_24 := (bt (bt (bt (bg (bt HB hb_10) hg_15 (HB).size) hb_19) hb_23) hb_25)
    refine ⟨(i + 1, b + (min (opLen (xs.getD i op0)) 1099511627777), r), by kernel_rfl, ?_, ?_⟩
    ·have hbi : B.bE xs i = 0 := by unfold B.bE; rw [if_neg (by omega), if_neg (by omega)]
     exact ⟨by omega, fun j_ hj_ => (by by_cases h_ : j_ < i; (· exact hb0 j_ h_); (· obtain rfl : j_ = i := (by omega); exact hbi)), by omega, by omega, hB_43⟩
    (try dsimp only); omega
   refine xr 1 [(35, .eq (.bool true))] [(35, .bool true)] [34] [Value.bool ((xs.getD i op0).kind != 4) = Value.bool true] ⟨congrArg Value.bool (bneT (c_38)), trivial⟩ ?_
   refine nl (ct (rg (xr 4 [(38, .eq (.int .i64 (r + (min (opLen (xs.getD i op0)) 1099511627777))))] [(6, .int .i64 (r + (min (opLen (xs.getD i op0)) 1099511627777)))] [10, 35] [Value.int .i64 (IntKind.i64.wrap (r + (min (opLen (xs.getD i op0)) 1099511627777))) = Value.int .i64 (r + (min (opLen (xs.getD i op0)) 1099511627777))] ⟨wr_i64 (by omega) (by omega), trivial⟩ ?_)))
   refine nl (sq (rg (xr0 1 [(39, .int .i64 (b + (min (opLen (xs.getD i op0)) 1099511627777)))] [] ?_)))
   by_cases c_44 : b + (min (opLen (xs.getD i op0)) 1099511627777) > 1099511627776
   ·refine xe 5 [(40, .eq (.bool true))] [(0, .slice A xs.length c), (5, .int .i64 (b + (min (opLen (xs.getD i op0)) 1099511627777))), (6, .int .i64 (r + (min (opLen (xs.getD i op0)) 1099511627777))), (7, nv i), (11, .slice A xs.length c), (12, .int .i64 (xs.length : Int)), (13, nv i), (44, .bool true)] [Value.bool (decide (b + (min (opLen (xs.getD i op0)) 1099511627777) > 1099511627776)) = Value.bool true] ⟨congrArg Value.bool (decide_eq_true (c_44)), trivial⟩ ?_
    refine nl (ct (sq (rg (xe0 4 [(2, .slice none 0 0), (3, nv i), (4, .int .i64 11)] ?_))))
    refine nl (X_ret (rk [.slice none 0 0, .int .i64 (i : Int), .int .i64 11] (hR_ _ _ ?_)))
    have hB_45 : Below w.heap.size w w_24 := (bt (bt (bt (bg (bt HB hb_10) hg_15 (HB).size) hb_19) hb_23) hb_25)
    have hbi : B.bE xs i = 11 := by unfold B.bE; rw [if_neg (by omega), if_pos (by omega)]
    have hbn : B.bE xs i ≠ 0 := by omega
    have hfo : B.bOf xs = (i, B.bE xs i) := B.first_at hb0 hbn (show i < xs.length by omega)
    rw [hfo, hbi]
    exact ⟨hB_45, .inr ⟨by (try dsimp only); omega, rfl⟩⟩
   refine xe 3 [(40, .eq (.bool false))] [(0, .slice A xs.length c), (5, .int .i64 (b + (min (opLen (xs.getD i op0)) 1099511627777))), (6, .int .i64 (r + (min (opLen (xs.getD i op0)) 1099511627777))), (7, nv i), (11, .slice A xs.length c), (12, .int .i64 (xs.length : Int)), (13, nv i), (41, .bool false), (42, .int .i64 (r + (min (opLen (xs.getD i op0)) 1099511627777)))] [Value.bool (decide (b + (min (opLen (xs.getD i op0)) 1099511627777) > 1099511627776)) = Value.bool false] ⟨congrArg Value.bool (decide_eq_false (c_44)), trivial⟩ ?_
   by_cases c_46 : r + (min (opLen (xs.getD i op0)) 1099511627777) > 1099511627776
   ·refine xr 2 [(43, .eq (.bool true))] [(44, .bool true)] [41, 42] [Value.bool (decide (r + (min (opLen (xs.getD i op0)) 1099511627777) > 1099511627776)) = Value.bool true] ⟨congrArg Value.bool (decide_eq_true (c_46)), trivial⟩ ?_
    refine nl (ct (sq (rg (xe0 4 [(2, .slice none 0 0), (3, nv i), (4, .int .i64 11)] ?_))))
    refine nl (X_ret (rk [.slice none 0 0, .int .i64 (i : Int), .int .i64 11] (hR_ _ _ ?_)))
    have hB_47 : Below w.heap.size w w_24 := (bt (bt (bt (bg (bt HB hb_10) hg_15 (HB).size) hb_19) hb_23) hb_25)
    have hbi : B.bE xs i = 11 := by unfold B.bE; rw [if_neg (by omega), if_pos (by omega)]
    have hbn : B.bE xs i ≠ 0 := by omega
    have hfo : B.bOf xs = (i, B.bE xs i) := B.first_at hb0 hbn (show i < xs.length by omega)
    rw [hfo, hbi]
    exact ⟨hB_47, .inr ⟨by (try dsimp only); omega, rfl⟩⟩
   refine xr 2 [(43, .eq (.bool false))] [(44, .bool false)] [41, 42] [Value.bool (decide (r + (min (opLen (xs.getD i op0)) 1099511627777) > 1099511627776)) = Value.bool false] ⟨congrArg Value.bool (decide_eq_false (c_46)), trivial⟩ ?_
   refine nl (cf (sk (rg (xr 2 [(46, .eq (.int .i64 ((i : Int) + 1)))] [(13, .int .i64 ((i : Int) + 1))] [7, 44] [Value.int .i64 (IntKind.i64.wrap ((i : Int) + 1)) = Value.int .i64 ((i : Int) + 1)] ⟨wr_i64 (by omega) (by omega), trivial⟩ ?_))))
   refine nl ?_
   have hB_48 : Below w.heap.size w w_24 := (bt (bt (bt (bg (bt HB hb_10) hg_15 (HB).size) hb_19) hb_23) hb_25)
   refine ⟨(i + 1, b + (min (opLen (xs.getD i op0)) 1099511627777), r + (min (opLen (xs.getD i op0)) 1099511627777)), by kernel_rfl, ?_, ?_⟩
   ·have hbi : B.bE xs i = 0 := by unfold B.bE; rw [if_neg (by omega), if_neg (by omega)]
    exact ⟨by omega, fun j_ hj_ => (by by_cases h_ : j_ < i; (· exact hb0 j_ h_); (· obtain rfl : j_ = i := (by omega); exact hbi)), by omega, by omega, hB_48⟩
   (try dsimp only); omega
  refine xr 1 [(21, .eq (.bool true))] [(21, .bool true)] [20] [Value.bool ((pErr (xs.getD i op0) : Int) != 0) = Value.bool true] ⟨congrArg Value.bool (bneT (c_20)), trivial⟩ ?_
  refine nl (ct (sq (rg (xe0 5 [(2, .slice none 0 0), (3, nv i), (4, .int .i64 (pErr (xs.getD i op0) : Int))] ?_))))
  refine nl (X_ret (rk [.slice none 0 0, .int .i64 (i : Int), .int .i64 (pErr (xs.getD i op0) : Int)] (hR_ _ _ ?_)))
  have hB_49 : Below w.heap.size w w_18 := (bt (bg (bt HB hb_10) hg_15 (HB).size) hb_19)
  have hbi : B.bE xs i = pErr (xs.getD i op0) := by unfold B.bE; rw [if_pos (by omega)]
  have hbn : B.bE xs i ≠ 0 := by omega
  have hfo : B.bOf xs = (i, B.bE xs i) := B.first_at hb0 hbn (show i < xs.length by omega)
  rw [hfo, hbi]
  exact ⟨hB_49, .inr ⟨by (try dsimp only); omega, rfl⟩⟩
 refine xr 1 [(14, .eq (.bool false))] [(14, .bool false)] [] [Value.bool (decide ((i : Int) < (xs.length : Int))) = Value.bool false] ⟨congrArg Value.bool (decide_eq_false (c_1)), trivial⟩ ?_
 refine nl (sq (cf (X_exit (sq (rg (xe0 1 [(47, .slice A xs.length c)] ?_))))))
 have hbf : B.bOf xs = (0, 0) := B.first_none fun j_ hj_ => hb0 j_ (by omega)
 have hgd := B.bOf_ok (xs := xs) (by rw [hbf])
 refine xc 54 ent54 [.slice A xs.length c] (r6canonical_any A c xs W0 _ (bt hW HB) hx hgd.1 hgd.2.1 hn hz ht) ?_
 rintro e w_52 ⟨A_50, c_51, rfl, hm_53, hb_54⟩; refine ⟨_, rfl, ?_⟩
 refine xe0 3 [(2, .slice A_50 ((B.can xs).length) c_51), (3, .int .i64 0), (4, .int .i64 0)] ?_
 refine nl (X_ret (rk [.slice A_50 ((B.can xs).length) c_51, .int .i64 0, .int .i64 0] (hR_ _ _ ?_)))
 rw [hbf]
 exact ⟨(bt HB hb_54), .inl ⟨rfl, A_50, c_51, rfl, (MixK.low hm_53 (HB).size)⟩⟩
theorem RX.shapeO_op {e' base : Nat} {w : World} {A : Option Addr} {n c : Nat} {xs : List OpA} {ok : Nat → Prop} (h : kOp.R e' w base (OkFrom base) (.slice A n c) xs) (hm : ∀ j, j < xs.length → (xs.getD j op0).attrs.length ≤ 50000000) (hok : ∀ g, base ≤ g → g < w.heap.size → ok g) : RX.ShapeO e' 71 ok w A n c 0 := by
 have hb := Kd.R_bound h
 refine ⟨RX.LiesO.of_R (d := kOp) hb fun k h1 _ h3 => hok k h1 h3, fun j _ hj => ?_⟩
 obtain ⟨hn, hc⟩ := Kd.R_len h
 obtain ⟨vss, hR, hl, hM⟩ := Kd.R_raw op0 hb
 obtain ⟨ad, cc, hA, hK, hcc⟩ := Kd.atC (Kd.R_C hR) [] (i := (j : Int)) (by omega) (by omega)
 have hMj := hM j (by omega)
 obtain ⟨_, _, e1, rfl, _, _, rfl, rfl, _, _, rfl, ⟨_, _, rfl, rfl, _, _, rfl, rfl, rfl⟩, _, _, rfl, rfl, v, rfl, hv⟩ := hMj
 obtain ⟨B, c2, rfl⟩ := Kd.R_slice hv
 obtain rfl : cc = vss.getD (j : Int).toNat [] := hK.1
 have h9 : CellsAt w (ad.add (j * 7)) (vss.getD j []) := hcc
 rw [e1] at h9
 exact ⟨ad, [_, _, _, _, _, _], B, _, c2, hA, h9, rfl, RX.LiesO.of_R (d := kAttr) hv fun k h1 _ h3 => hok k h1 h3, Nat.le_trans (hm j (by omega)) (by decide)⟩
end Go.Proofs.YtkehomiogkoomaaDoor
