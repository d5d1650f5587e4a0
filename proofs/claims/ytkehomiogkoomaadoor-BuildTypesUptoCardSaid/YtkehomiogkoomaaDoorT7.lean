/- The laws of layer build: their fixed fact, what is large. Conditions: sizes, the tables of utf8, the errors' variables. -/
import Derived.Test.YtkehomiogkoomaaDoorT6
set_option linter.unusedVariables false
set_option linter.unusedSimpArgs false
set_option maxRecDepth 100000
namespace Go.Proofs.YtkehomiogkoomaaDoor
open Go Go.RowKit Go.Proofs.YtkehomiogkoomaaDoorW.PrintWords RX
theorem ent64 : Ent Tryd.prog 64 := ent_of Tryd.func64 (by kernel_rfl) rfl
theorem ent95 : Ent Tryd.prog 95 := ent_of Tryd.func95 (by kernel_rfl) rfl
theorem ent24 : Ent Tryd.prog 24 := ent_of Tryd.func24 (by kernel_rfl) rfl
theorem ent25 : Ent Tryd.prog 25 := ent_of Tryd.func25 (by kernel_rfl) rfl
theorem ltext_any (t : ByteArray) (w : World) : Calls Tryd.prog 64 #[.string t] w fun e w' => e = .returned (.agg #[.int .i64 1, .string t, .int .i64 0, .int .i64 0, .string ByteArray.empty, .int .i64 0, .slice none 0 0]) ∧ Below w.heap.size w w' := by
 refine RX.enter Tryd.func64 rfl 5 rfl [(0, .string t)] rfl (by kernel_rfl) (fun R_ hR_ => ?_)
 refine sq (rg (xwe 1 [] [(0, .string t), (2, pw w.heap.size 0)] (w.alloc (.cells #[.int .i64 0, .string ByteArray.empty, .int .i64 0, .int .i64 0, .string ByteArray.empty, .int .i64 0, .slice none 0 0] 47)) [] trivial ?_))
 obtain ⟨w_1, hw_5, hb_2, hk_3, hz_4⟩ := new_world w #[.int .i64 0, .string ByteArray.empty, .int .i64 0, .int .i64 0, .string ByteArray.empty, .int .i64 0, .slice none 0 0] 47
 rw [hw_5]
 refine nl (sq (rg (xr0 2 [(4, .agg #[.int .i64 1, .string t, .int .i64 0, .int .i64 0, .string ByteArray.empty, .int .i64 0, .slice none 0 0])] [0] ?_)))
 refine xst (.agg #[.int .i64 1, .string t, .int .i64 0, .int .i64 0, .string ByteArray.empty, .int .i64 0, .slice none 0 0]) hk_3 0 #[.int .i64 1, .string t, .int .i64 0, .int .i64 0, .string ByteArray.empty, .int .i64 0, .slice none 0 0] (fun w_6 hg_7 hk_8 hz_9 => ?_)
 refine nl (X_ret (RX.ret_cell (P := Tryd.prog) (fn := Tryd.f64) (N := 5) (R := R_) (c := 2) (t := 47) (p := ⟨w.heap.size, 0, none⟩) (v := .agg #[.int .i64 1, .string t, .int .i64 0, .int .i64 0, .string ByteArray.empty, .int .i64 0, .slice none 0 0]) rfl rfl (loadsB rfl rfl hk_8 0 ⟨by kernel_rfl, by kernel_rfl⟩) (hR_ _ _ ?_)))
 exact ⟨rfl, (bg hb_2 hg_7 (Nat.le_refl _))⟩
theorem lgone_any (n : Int) (w : World) : Calls Tryd.prog 95 #[.int .i64 n] w fun e w' => e = .returned (.agg #[.int .i64 4, .string ByteArray.empty, .int .i64 0, .int .i64 0, .string ByteArray.empty, .int .i64 n, .slice none 0 0]) ∧ Below w.heap.size w w' := by
 refine RX.enter Tryd.func95 rfl 5 rfl [(0, .int .i64 n)] rfl (by kernel_rfl) (fun R_ hR_ => ?_)
 refine sq (rg (xwe 1 [] [(0, .int .i64 n), (2, pw w.heap.size 0)] (w.alloc (.cells #[.int .i64 0, .string ByteArray.empty, .int .i64 0, .int .i64 0, .string ByteArray.empty, .int .i64 0, .slice none 0 0] 47)) [] trivial ?_))
 obtain ⟨w_1, hw_5, hb_2, hk_3, hz_4⟩ := new_world w #[.int .i64 0, .string ByteArray.empty, .int .i64 0, .int .i64 0, .string ByteArray.empty, .int .i64 0, .slice none 0 0] 47
 rw [hw_5]
 refine nl (sq (rg (xr0 2 [(4, .agg #[.int .i64 4, .string ByteArray.empty, .int .i64 0, .int .i64 0, .string ByteArray.empty, .int .i64 n, .slice none 0 0])] [0] ?_)))
 refine xst (.agg #[.int .i64 4, .string ByteArray.empty, .int .i64 0, .int .i64 0, .string ByteArray.empty, .int .i64 n, .slice none 0 0]) hk_3 0 #[.int .i64 4, .string ByteArray.empty, .int .i64 0, .int .i64 0, .string ByteArray.empty, .int .i64 n, .slice none 0 0] (fun w_6 hg_7 hk_8 hz_9 => ?_)
 refine nl (X_ret (RX.ret_cell (P := Tryd.prog) (fn := Tryd.f95) (N := 5) (R := R_) (c := 2) (t := 47) (p := ⟨w.heap.size, 0, none⟩) (v := .agg #[.int .i64 4, .string ByteArray.empty, .int .i64 0, .int .i64 0, .string ByteArray.empty, .int .i64 n, .slice none 0 0]) rfl rfl (loadsB rfl rfl hk_8 0 ⟨by kernel_rfl, by kernel_rfl⟩) (hR_ _ _ ?_)))
 exact ⟨rfl, (bg hb_2 hg_7 (Nat.le_refl _))⟩
def lgS : List OpA → Nat
 | [] => 0
 | o :: r => (o.text.size + 10 * o.attrs.length + 10) + lgS r
theorem lgS_append : ∀ xs ys : List OpA, lgS (xs ++ ys) = lgS xs + lgS ys
 | [], ys => by simp [lgS]
 | o :: r, ys => by simp only [List.cons_append, lgS, lgS_append r ys]; omega
theorem lgS_take {xs : List OpA} {i : Nat} (h : i < xs.length) : lgS (xs.take (i + 1)) = lgS (xs.take i) + ((xs.getD i op0).text.size + 10 * (xs.getD i op0).attrs.length + 10) := by rw [take_snocD op0 xs i h, lgS_append]; simp [lgS]
theorem lgS_bd : ∀ xs : List OpA, B.txS xs ≤ lgS xs ∧ 10 * xs.length ≤ lgS xs
 | [] => ⟨Nat.le_refl _, Nat.le_refl _⟩
 | o :: r => by have := lgS_bd r; simp only [B.txS, lgS, List.length_cons]; omega
theorem llarge_any (A : Option Addr) (c : Nat) (xs : List OpA) (w : World) (hx : kOp.C w A xs.length xs) (hn : xs.length ≤ 1048576) (hz : ∀ i, i < xs.length → opSz (xs.getD i op0)) : Calls Tryd.prog 25 #[.slice A xs.length c] w fun e w' => e = .returned (.bool (decide (60000 < lgS xs))) ∧ Below w.heap.size w w' := by
 have hpl : xs.length ≤ 9223372036854775807 := hx.2.1
 refine RX.enter Tryd.func25 rfl 26 rfl [(0, .slice A xs.length c)] rfl (by kernel_rfl) (fun R_ hR_ => ?_)
 refine sq (rg (xe0 1 [(0, .slice A xs.length c)] ?_))
 refine nl (sq (rg (xr0 1 [(3, .int .i64 0)] [] ?_)))
 refine nl (sq (sq (rg (xr0 3 [(6, .slice A xs.length c), (7, .int .i64 (xs.length : Int)), (8, .int .i64 0)] [0] ?_))))
 refine nl (bk (X_loop (ι := Nat) (fun i => [(3, .int .i64 (lgS (xs.take i) : Int)), (6, .slice A xs.length c), (7, .int .i64 (xs.length : Int)), (8, .int .i64 (i : Int))]) (fun i wl => i ≤ xs.length ∧ lgS (xs.take i) ≤ i * 70000000 ∧ Below w.heap.size w wl) (fun i => xs.length - i) 0 ⟨Nat.zero_le _, Nat.le_refl _, (Below.refl _ _)⟩ (by kernel_rfl) ?_))
 rintro i wl ⟨hi, hsz, HB⟩
 have hzi := fun (h_ : i < xs.length) => hz i h_
 have hlt := fun (h_ : i < xs.length) => lgS_take h_
 refine sq (X_region ?_)
 by_cases c_1 : (i : Int) < (xs.length : Int)
 ·refine xr 1 [(9, .eq (.bool true))] [(9, .bool true)] [] [Value.bool (decide ((i : Int) < (xs.length : Int))) = Value.bool true] ⟨congrArg Value.bool (decide_eq_true (c_1)), trivial⟩ ?_
  refine nl (sq (ct (sk (sq (bk (sq (X_region ?_)))))))
  obtain ⟨ad_2, B_5, c_6, ha_3, hc_4, hl_7, hC_8⟩ := Kd.atOp (Kd.C_below hx HB) (i := (i : Int)) (by omega) (by omega)
  replace hc_4 : CellsAt wl (ad_2.add ((i : Int).toNat * 7)) [.int .i64 ((xs.getD i op0).kind), .string ((xs.getD i op0).text), .int .i64 ((xs.getD i op0).vk), .int .i64 ((xs.getD i op0).vn), .string ((xs.getD i op0).vt), .int .i64 ((xs.getD i op0).count), .slice B_5 ((xs.getD i op0).attrs.length) c_6] := hc_4
  replace hl_7 : (xs.getD i op0).attrs.length ≤ c_6 := hl_7
  replace hC_8 : kAttr.C wl B_5 ((xs.getD i op0).attrs.length) (xs.getD i op0).attrs := hC_8
  refine xw 3 [(10, .idx ad_2), (11, .load (.agg #[.int .i64 ((xs.getD i op0).kind), .string ((xs.getD i op0).text), .int .i64 ((xs.getD i op0).vk), .int .i64 ((xs.getD i op0).vn), .string ((xs.getD i op0).vt), .int .i64 ((xs.getD i op0).count), .slice B_5 ((xs.getD i op0).attrs.length) c_6]))] [(5, pw wl.heap.size 0), (11, .agg #[.int .i64 ((xs.getD i op0).kind), .string ((xs.getD i op0).text), .int .i64 ((xs.getD i op0).vk), .int .i64 ((xs.getD i op0).vn), .string ((xs.getD i op0).vt), .int .i64 ((xs.getD i op0).count), .slice B_5 ((xs.getD i op0).attrs.length) c_6])] [9] (wl.alloc (.cells #[.int .i64 0, .string ByteArray.empty, .int .i64 0, .int .i64 0, .string ByteArray.empty, .int .i64 0, .slice none 0 0] 47)) [A = some ad_2, (0 : Int) ≤ (i : Int), (i : Int) < (xs.length : Int), LoadsAs Tryd.prog 47 (ad_2.add ((i : Int).toNat * 7)) (.agg #[.int .i64 ((xs.getD i op0).kind), .string ((xs.getD i op0).text), .int .i64 ((xs.getD i op0).vk), .int .i64 ((xs.getD i op0).vn), .string ((xs.getD i op0).vt), .int .i64 ((xs.getD i op0).count), .slice B_5 ((xs.getD i op0).attrs.length) c_6]) wl] ⟨ha_3, (by omega), (by omega), loadsE rfl rfl hc_4 0 ⟨by kernel_rfl, by kernel_rfl⟩, trivial⟩ ?_
  obtain ⟨w_9, hw_13, hb_10, hk_11, hz_12⟩ := new_world wl #[.int .i64 0, .string ByteArray.empty, .int .i64 0, .int .i64 0, .string ByteArray.empty, .int .i64 0, .slice none 0 0] 47
  rw [hw_13]
  refine xst (.agg #[.int .i64 ((xs.getD i op0).kind), .string ((xs.getD i op0).text), .int .i64 ((xs.getD i op0).vk), .int .i64 ((xs.getD i op0).vn), .string ((xs.getD i op0).vt), .int .i64 ((xs.getD i op0).count), .slice B_5 ((xs.getD i op0).attrs.length) c_6]) hk_11 0 #[.int .i64 ((xs.getD i op0).kind), .string ((xs.getD i op0).text), .int .i64 ((xs.getD i op0).vk), .int .i64 ((xs.getD i op0).vn), .string ((xs.getD i op0).vt), .int .i64 ((xs.getD i op0).count), .slice B_5 ((xs.getD i op0).attrs.length) c_6] (fun w_14 hg_15 hk_16 hz_17 => ?_)
  refine nl (rg (xr0 2 [(12, .int .i64 (lgS (xs.take i) : Int)), (13, pw wl.heap.size 1)] [3, 11] ?_))
  have hszi := hzi (by omega)
  have hs1 := hszi.1
  have hs3 := hszi.2.2.1
  have hlg := hlt (by omega)
  refine xr 10 [(14, .load (.string ((xs.getD i op0).text))), (17, .load (.slice B_5 ((xs.getD i op0).attrs.length) c_6)), (19, .eq (.int .i64 (10 * ((xs.getD i op0).attrs.length : Int)))), (20, .eq (.int .i64 ((((xs.getD i op0).text).size : Int) + (10 * ((xs.getD i op0).attrs.length : Int))))), (21, .eq (.int .i64 (((((xs.getD i op0).text).size : Int) + (10 * ((xs.getD i op0).attrs.length : Int))) + 10))), (22, .eq (.int .i64 (lgS (xs.take (i + 1)) : Int)))] [(3, .int .i64 (lgS (xs.take (i + 1)) : Int))] [5, 12, 13] [LoadsAs Tryd.prog 9 (⟨wl.heap.size, 1, none⟩) (.string ((xs.getD i op0).text)) w_14, LoadsAs Tryd.prog 45 (⟨wl.heap.size, 6, none⟩) (.slice B_5 ((xs.getD i op0).attrs.length) c_6) w_14, Value.int .i64 (IntKind.i64.wrap (10 * ((xs.getD i op0).attrs.length : Int))) = Value.int .i64 (10 * ((xs.getD i op0).attrs.length : Int)), Value.int .i64 (IntKind.i64.wrap ((((xs.getD i op0).text).size : Int) + (10 * ((xs.getD i op0).attrs.length : Int)))) = Value.int .i64 ((((xs.getD i op0).text).size : Int) + (10 * ((xs.getD i op0).attrs.length : Int))), Value.int .i64 (IntKind.i64.wrap (((((xs.getD i op0).text).size : Int) + (10 * ((xs.getD i op0).attrs.length : Int))) + 10)) = Value.int .i64 (((((xs.getD i op0).text).size : Int) + (10 * ((xs.getD i op0).attrs.length : Int))) + 10), Value.int .i64 (IntKind.i64.wrap ((lgS (xs.take i) : Int) + (((((xs.getD i op0).text).size : Int) + (10 * ((xs.getD i op0).attrs.length : Int))) + 10))) = Value.int .i64 (lgS (xs.take (i + 1)) : Int)] ⟨loads1 rfl (Blk.cell hk_16 1 _ rfl), loads1 rfl (Blk.cell hk_16 6 _ rfl), wr_i64 (by omega) (by omega), wr_i64 (by omega) (by omega), wr_i64 (by omega) (by omega), (by rw [show (lgS (xs.take i) : Int) + ((((xs.getD i op0).text.size : Int) + 10 * ((xs.getD i op0).attrs.length : Int)) + 10) = (lgS (xs.take (i + 1)) : Int) from by omega]; exact wr_i64 (by omega) (by omega)), trivial⟩ ?_
  refine nl (rg (xr 2 [(23, .eq (.int .i64 ((i : Int) + 1)))] [(8, .int .i64 ((i : Int) + 1))] [] [Value.int .i64 (IntKind.i64.wrap ((i : Int) + 1)) = Value.int .i64 ((i : Int) + 1)] ⟨wr_i64 (by omega) (by omega), trivial⟩ ?_))
  refine nl ?_
  refine ⟨(i + 1), by kernel_rfl, ?_, ?_⟩
  ·exact ⟨by omega, by have h_ := hlt (by omega); omega, (bg (bt HB hb_10) hg_15 (HB).size)⟩
  (try dsimp only); omega
 refine xr 1 [(9, .eq (.bool false))] [(9, .bool false)] [] [Value.bool (decide ((i : Int) < (xs.length : Int))) = Value.bool false] ⟨congrArg Value.bool (decide_eq_false (c_1)), trivial⟩ ?_
 refine nl (sq (cf (X_exit (sq (rg (xe0 1 [(24, .int .i64 (lgS (xs.take i) : Int))] ?_))))))
 by_cases c_18 : (lgS (xs.take i) : Int) > 60000
 ·refine xe 2 [(25, .eq (.bool true))] [(2, .bool true)] [Value.bool (decide ((lgS (xs.take i) : Int) > 60000)) = Value.bool true] ⟨congrArg Value.bool (decide_eq_true (c_18)), trivial⟩ ?_
  refine nl (X_ret (rk [.bool true] (hR_ _ _ ?_)))
  have hxi : xs.take i = xs := List.take_of_length_le (by omega)
  rw [show decide (60000 < lgS xs) = true from decide_eq_true (by rw [← hxi]; omega)]
  exact ⟨rfl, HB⟩
 refine xe 2 [(25, .eq (.bool false))] [(2, .bool false)] [Value.bool (decide ((lgS (xs.take i) : Int) > 60000)) = Value.bool false] ⟨congrArg Value.bool (decide_eq_false (c_18)), trivial⟩ ?_
 refine nl (X_ret (rk [.bool false] (hR_ _ _ ?_)))
 have hxi : xs.take i = xs := List.take_of_length_le (by omega)
 rw [show decide (60000 < lgS xs) = false from decide_eq_false (by rw [← hxi]; omega)]
 exact ⟨rfl, HB⟩
theorem can_facts {xs : List OpA} (h : (B.bOf xs).2 = 0) (hn : xs.length ≤ 500000) (hz : ∀ i, i < xs.length → opSz (xs.getD i op0)) (ht : B.txS xs ≤ 50000000) : badE (B.can xs) = 0 ∧ (B.can xs).length ≤ 1100000 ∧ (∀ i, i < (B.can xs).length → opSz ((B.can xs).getD i op0)) ∧ Can (B.can xs) := by
 obtain ⟨c1, c2⟩ := B.bOf_canOk h
 have hl := B.can_len xs
 have hs := B.can_sz (xs := xs) (fun o ho => by
  obtain ⟨i, hi, rfl⟩ := List.getElem_of_mem ho
  have := hz i hi
  rw [List.getD_eq_getElem?_getD, List.getElem?_eq_getElem hi] at this
  exact B.fine_of this) ht
 exact ⟨c2, by omega, fun i hi => hs _ (getD_mem op0 hi), c1⟩
theorem bof_ok (A : Option Addr) (c : Nat) (xs : List OpA) (w : World) (h0 : (B.bOf xs).2 = 0) (hx : kOp.C w A xs.length xs) (hxc : xs.length ≤ c) (hn : xs.length ≤ 1100000) (hz : ∀ i, i < xs.length → opSz (xs.getD i op0)) (ht : B.txS xs ≤ 50000000) (hT : Tabs w) (es : List Addr) (hE : ErrsO w es) :
  Calls Tryd.prog 58 #[.slice A xs.length c] w fun e w' => ∃ d A' c', e = .returned (.tuple #[.pointer (some ⟨d, 0, none⟩), .int .i64 0, .nilIface]) ∧ DeltaR w' w.heap.size d A' c' (B.can xs) ∧ Below w.heap.size w w' :=
 (bof_any A c xs w hx hxc hn hz ht hT es hE).mono fun e w' ⟨hb, h⟩ => by
  rcases h with ⟨_, d, A', c', h1, h2⟩ | ⟨h1, _⟩
  ·exact ⟨d, A', c', h1, h2, hb⟩
  exact absurd h0 h1
def lv5 : List OpA := [(⟨4, ByteArray.empty, 0, 0, ByteArray.empty, 1, []⟩ : OpA), (⟨1, (⟨#[97]⟩ : ByteArray), 0, 0, ByteArray.empty, 0, []⟩ : OpA), (⟨4, ByteArray.empty, 0, 0, ByteArray.empty, 2, []⟩ : OpA), (⟨1, (⟨#[98]⟩ : ByteArray), 0, 0, ByteArray.empty, 0, []⟩ : OpA), (⟨3, ByteArray.empty, 0, 0, ByteArray.empty, 3, []⟩ : OpA)]
def lv2 : List OpA := [(⟨1, (⟨#[97, 98]⟩ : ByteArray), 0, 0, ByteArray.empty, 0, []⟩ : OpA), (⟨4, ByteArray.empty, 0, 0, ByteArray.empty, 3, []⟩ : OpA)]
theorem lv5_can : B.can lv5 = lv2 := by kernel_rfl
theorem lv5_bad : badE lv5 = 0 := by kernel_rfl
theorem lv5_sums : sB lv5 ≤ B.L ∧ sR lv5 ≤ B.L := by
 have h1 := U.sc_le (⟨#[97]⟩ : ByteArray)
 have h2 := U.sc_le (⟨#[98]⟩ : ByteArray)
 have e1 : ByteArray.size (⟨#[97]⟩ : ByteArray) = 1 := rfl
 have e2 : ByteArray.size (⟨#[98]⟩ : ByteArray) = 1 := rfl
 refine ⟨show sumI opB lv5 ≤ 1099511627776 from ?_, show sumI opR lv5 ≤ 1099511627776 from ?_⟩
 ·simp only [lv5, sumI, opB, opLen]; simp
 simp only [lv5, sumI, opR, opLen]; simp; omega
theorem lv5_ok : (B.bOf lv5).2 = 0 := by rw [B.bOf_of lv5_bad lv5_sums.1 lv5_sums.2]
theorem sz_lit {t : ByteArray} {k n : Int} (h : t.size ≤ 100) : opSz ⟨k, t, 0, 0, ByteArray.empty, n, []⟩ := ⟨Nat.le_trans h (by decide), Nat.zero_le _, Nat.zero_le _, fun i hi => absurd hi (Nat.not_lt_zero _)⟩
theorem lv5_sz : ∀ i, i < lv5.length → opSz (lv5.getD i op0) := by
 intro i hi
 match i, hi with
 | 0, _ => exact sz_lit (by decide)
 | 1, _ => exact sz_lit (by decide)
 | 2, _ => exact sz_lit (by decide)
 | 3, _ => exact sz_lit (by decide)
 | 4, _ => exact sz_lit (by decide)
 | k + 5, h => exact absurd h (by show ¬ k + 5 < 5; omega)
set_option maxHeartbeats 2000000 in
theorem lives6_any (w : World) (hT : Tabs w) (es : List Addr) (hE : ErrsO w es) : Calls Tryd.prog 24 #[] w fun e w' => e = .returned (.bool true) ∧ Below w.heap.size w w' := by
 obtain ⟨hcb, hcn, hcz, _⟩ := can_facts lv5_ok (by decide) lv5_sz (by decide)
 refine RX.enter Tryd.func24 rfl 36 rfl [] rfl (by kernel_rfl) (fun R_ hR_ => ?_)
 refine sq (rg (xe0 1 [] ?_))
 refine nl (sq (rg (xc 95 ent95 [.int .i64 1] (lgone_any _ _) ?_)))
 rintro e w_1 ⟨rfl, hb_2⟩; refine ⟨_, rfl, ?_⟩
 refine xc 64 ent64 [.string (⟨#[97]⟩ : ByteArray)] (ltext_any _ _) ?_
 rintro e w_3 ⟨rfl, hb_4⟩; refine ⟨_, rfl, ?_⟩
 refine xc 95 ent95 [.int .i64 2] (lgone_any _ _) ?_
 rintro e w_5 ⟨rfl, hb_6⟩; refine ⟨_, rfl, ?_⟩
 refine xc 64 ent64 [.string (⟨#[98]⟩ : ByteArray)] (ltext_any _ _) ?_
 rintro e w_7 ⟨rfl, hb_8⟩; refine ⟨_, rfl, ?_⟩
 refine xwe 2 [] [(10, .slice (some ⟨w_7.heap.size, 0, none⟩) 5 5)] (w_7.alloc (.cells #[.int .i64 4, .string ByteArray.empty, .int .i64 0, .int .i64 0, .string ByteArray.empty, .int .i64 1, .slice none 0 0, .int .i64 1, .string (⟨#[97]⟩ : ByteArray), .int .i64 0, .int .i64 0, .string ByteArray.empty, .int .i64 0, .slice none 0 0, .int .i64 4, .string ByteArray.empty, .int .i64 0, .int .i64 0, .string ByteArray.empty, .int .i64 2, .slice none 0 0, .int .i64 1, .string (⟨#[98]⟩ : ByteArray), .int .i64 0, .int .i64 0, .string ByteArray.empty, .int .i64 0, .slice none 0 0, .int .i64 3, .string ByteArray.empty, .int .i64 0, .int .i64 0, .string ByteArray.empty, .int .i64 3, .slice none 0 0] 47)) [] trivial ?_
 obtain ⟨w_9, hw_13, hb_10, hk_11, hz_12⟩ := new_world w_7 #[.int .i64 4, .string ByteArray.empty, .int .i64 0, .int .i64 0, .string ByteArray.empty, .int .i64 1, .slice none 0 0, .int .i64 1, .string (⟨#[97]⟩ : ByteArray), .int .i64 0, .int .i64 0, .string ByteArray.empty, .int .i64 0, .slice none 0 0, .int .i64 4, .string ByteArray.empty, .int .i64 0, .int .i64 0, .string ByteArray.empty, .int .i64 2, .slice none 0 0, .int .i64 1, .string (⟨#[98]⟩ : ByteArray), .int .i64 0, .int .i64 0, .string ByteArray.empty, .int .i64 0, .slice none 0 0, .int .i64 3, .string ByteArray.empty, .int .i64 0, .int .i64 0, .string ByteArray.empty, .int .i64 3, .slice none 0 0] 47
 rw [hw_13]
 have hr_14 := Kd.R_litB kOp (W := w_7) (e := 47) (cs := #[.int .i64 4, .string ByteArray.empty, .int .i64 0, .int .i64 0, .string ByteArray.empty, .int .i64 1, .slice none 0 0, .int .i64 1, .string (⟨#[97]⟩ : ByteArray), .int .i64 0, .int .i64 0, .string ByteArray.empty, .int .i64 0, .slice none 0 0, .int .i64 4, .string ByteArray.empty, .int .i64 0, .int .i64 0, .string ByteArray.empty, .int .i64 2, .slice none 0 0, .int .i64 1, .string (⟨#[98]⟩ : ByteArray), .int .i64 0, .int .i64 0, .string ByteArray.empty, .int .i64 0, .slice none 0 0, .int .i64 3, .string ByteArray.empty, .int .i64 0, .int .i64 0, .string ByteArray.empty, .int .i64 3, .slice none 0 0]) [(⟨4, ByteArray.empty, 0, 0, ByteArray.empty, 1, []⟩ : OpA), (⟨1, (⟨#[97]⟩ : ByteArray), 0, 0, ByteArray.empty, 0, []⟩ : OpA), (⟨4, ByteArray.empty, 0, 0, ByteArray.empty, 2, []⟩ : OpA), (⟨1, (⟨#[98]⟩ : ByteArray), 0, 0, ByteArray.empty, 0, []⟩ : OpA), (⟨3, ByteArray.empty, 0, 0, ByteArray.empty, 3, []⟩ : OpA)] hk_11 (repsOp0 [(⟨4, ByteArray.empty, 0, 0, ByteArray.empty, 1, []⟩ : OpA), (⟨1, (⟨#[97]⟩ : ByteArray), 0, 0, ByteArray.empty, 0, []⟩ : OpA), (⟨4, ByteArray.empty, 0, 0, ByteArray.empty, 2, []⟩ : OpA), (⟨1, (⟨#[98]⟩ : ByteArray), 0, 0, ByteArray.empty, 0, []⟩ : OpA), (⟨3, ByteArray.empty, 0, 0, ByteArray.empty, 3, []⟩ : OpA)] (by intro x hx; simp only [List.mem_cons, List.not_mem_nil, or_false] at hx; rcases hx with rfl | rfl | rfl | rfl | rfl <;> rfl)) (Nat.le_of_ble_eq_true (by kernel_rfl))
 have hB_20 : Below w.heap.size w w_9 := (bt (bt (bt (bt hb_2 hb_4) hb_6) hb_8) hb_10)
 refine xc 58 ent58 [.slice (some ⟨w_7.heap.size, 0, none⟩) 5 5] (bof_ok _ 5 lv5 _ lv5_ok (Kd.R_C hr_14) (Nat.le_of_ble_eq_true rfl) (Nat.le_of_ble_eq_true rfl) lv5_sz (Nat.le_of_ble_eq_true rfl) (hT.below hB_20) es (hE.below hB_20)) ?_
 rintro e w_15 ⟨d, A_16, c_17, rfl, hd_18, hb_19⟩; refine ⟨_, rfl, ?_⟩
 refine xe0 7 [(1, pw d 0), (2, .int .i64 0), (3, .nilIface)] ?_
 refine nl (sq (rg (xe0 8 [(21, .bool true), (22, pw d 0)] ?_)))
 refine xc 64 ent64 [.string (⟨#[97, 98]⟩ : ByteArray)] (ltext_any _ _) ?_
 rintro e w_21 ⟨rfl, hb_22⟩; refine ⟨_, rfl, ?_⟩
 refine xc 95 ent95 [.int .i64 3] (lgone_any _ _) ?_
 rintro e w_23 ⟨rfl, hb_24⟩; refine ⟨_, rfl, ?_⟩
 refine xw 1 [] [(25, .slice (some ⟨w_23.heap.size, 0, none⟩) 2 2)] [23, 24] (w_23.alloc (.cells #[.int .i64 1, .string (⟨#[97, 98]⟩ : ByteArray), .int .i64 0, .int .i64 0, .string ByteArray.empty, .int .i64 0, .slice none 0 0, .int .i64 4, .string ByteArray.empty, .int .i64 0, .int .i64 0, .string ByteArray.empty, .int .i64 3, .slice none 0 0] 47)) [] trivial ?_
 obtain ⟨w_25, hw_29, hb_26, hk_27, hz_28⟩ := new_world w_23 #[.int .i64 1, .string (⟨#[97, 98]⟩ : ByteArray), .int .i64 0, .int .i64 0, .string ByteArray.empty, .int .i64 0, .slice none 0 0, .int .i64 4, .string ByteArray.empty, .int .i64 0, .int .i64 0, .string ByteArray.empty, .int .i64 3, .slice none 0 0] 47
 rw [hw_29]
 have hr_30 := Kd.R_litB kOp (W := w_23) (e := 47) (cs := #[.int .i64 1, .string (⟨#[97, 98]⟩ : ByteArray), .int .i64 0, .int .i64 0, .string ByteArray.empty, .int .i64 0, .slice none 0 0, .int .i64 4, .string ByteArray.empty, .int .i64 0, .int .i64 0, .string ByteArray.empty, .int .i64 3, .slice none 0 0]) [(⟨1, (⟨#[97, 98]⟩ : ByteArray), 0, 0, ByteArray.empty, 0, []⟩ : OpA), (⟨4, ByteArray.empty, 0, 0, ByteArray.empty, 3, []⟩ : OpA)] hk_27 (repsOp0 [(⟨1, (⟨#[97, 98]⟩ : ByteArray), 0, 0, ByteArray.empty, 0, []⟩ : OpA), (⟨4, ByteArray.empty, 0, 0, ByteArray.empty, 3, []⟩ : OpA)] (by intro x hx; simp only [List.mem_cons, List.not_mem_nil, or_false] at hx; rcases hx with rfl | rfl <;> rfl)) (Nat.le_of_ble_eq_true (by kernel_rfl))
 refine xc 29 ent29 [.pointer (some ⟨d, 0, none⟩), .slice (some ⟨w_23.heap.size, 0, none⟩) 2 2] (his_any d (B.can lv5) lv2 _ _ _ (hd_18.c.below (bt (bt hb_22 hb_24) hb_26)) hcb hcn hcz (Kd.R_C hr_30)) ?_
 rintro e w_31 ⟨rfl, hb_32⟩; refine ⟨_, rfl, ?_⟩
 rw [(opsEqP_iff _ _).2 lv5_can]
 refine xe0 2 [(28, .bool true)] ?_
 refine xc 63 ent63 [] (bempty_any _) ?_
 rintro e w_34 ⟨g_33, rfl, hg_35, hk_36, hb_37⟩; refine ⟨_, rfl, ?_⟩
 refine xe0 3 [(32, .bool true)] ?_
 refine xc 52 ent52 [] (bnew_any _) ?_
 rintro e w_39 ⟨g_38, rfl, hg_40, hk_41, hb_42⟩; refine ⟨_, rfl, ?_⟩
 refine xe0 3 [(0, .bool true)] ?_
 refine nl (X_ret (rk [.bool true] (hR_ _ _ ?_)))
 have hB_43 : Below w.heap.size w w_39 := (bt (bt (bt (bt (bt (bt (bt hB_20 hb_19) hb_22) hb_24) hb_26) hb_32) hb_37) hb_42)
 exact ⟨rfl, hB_43⟩
end Go.Proofs.YtkehomiogkoomaaDoor
