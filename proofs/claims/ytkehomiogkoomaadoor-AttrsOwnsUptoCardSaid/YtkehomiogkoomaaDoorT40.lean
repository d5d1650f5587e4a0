import Derived.Test.YtkehomiogkoomaaDoorHand
import Derived.Test.YtkehomiogkoomaaDoorPut
/- Where a key stands in a rising list, or should. Condition: the list rises. -/
set_option linter.unusedVariables false
set_option linter.unusedSimpArgs false
set_option maxRecDepth 100000
namespace Go.Proofs.YtkehomiogkoomaaDoor
open Go Go.RowKit Go.Proofs.YtkehomiogkoomaaDoorW.PrintWords RX
theorem ent147 : Ent Tryd.prog 147 := ent_of Tryd.func147 (by kernel_rfl) rfl
theorem ent149 : Ent Tryd.prog 149 := ent_of Tryd.func149 (by kernel_rfl) rfl
theorem ent168 : Ent Tryd.prog 168 := ent_of Tryd.func168 (by kernel_rfl) rfl
theorem ent101 : Ent Tryd.prog 101 := ent_of Tryd.func101 (by kernel_rfl) rfl
theorem ent148 : Ent Tryd.prog 148 := ent_of Tryd.func148 (by kernel_rfl) rfl
def cmpK (a b : ByteArray) : Int := if kl a b = true then -1 else if kl b a = true then 1 else 0
theorem cmpK_lt {a b : ByteArray} : cmpK a b < 0 ↔ kl a b = true := by
 unfold cmpK
 split
 ·rename_i h; exact ⟨fun _ => h, fun _ => by decide⟩
 rename_i h; split <;> exact ⟨fun h2 => absurd h2 (by decide), fun h2 => absurd h2 h⟩
theorem cmpK_eq {a b : ByteArray} : cmpK a b = 0 ↔ a = b := by
 unfold cmpK
 split
 ·rename_i h; exact ⟨fun h2 => absurd h2 (by decide), fun e => by rw [e, kl_irrefl] at h; cases h⟩
 rename_i h; split
 ·rename_i h3; exact ⟨fun h2 => absurd h2 (by decide), fun e => by rw [e, kl_irrefl] at h3; cases h3⟩
 rename_i h3; exact ⟨fun _ => kl_tri (by simpa using h) (by simpa using h3), fun _ => rfl⟩
theorem gtr_kl (a b : ByteArray) : (!(Op.bytesLess a.toList b.toList || (a.toList == b.toList))) = kl b a := by
 by_cases h : kl a b = true
 ·have h2 := kl_asymm h
  unfold kl at h h2 ⊢
  rw [h, h2]; rfl
 have h : kl a b = false := by simpa using h
 by_cases h2 : a = b
 ·subst h2
  unfold kl at h ⊢
  rw [h]; simp
 have h3 := kl_ge (by rw [h]; simp) h2
 unfold kl at h h3 ⊢
 rw [h, h3]
 have : (a.toList == b.toList) = false := by
  apply Bool.eq_false_iff.2
  intro e
  exact h2 (bytes_ext (by simpa using e))
 rw [this]; rfl
theorem run_shr1 {P : Program} {t : TypeId} (a : Int) (w : World) : (binOp .shr t (.int .u64 a) (.int .u64 1)).run P w = .ok (.int .u64 (a / 2)) w := by
 rw [binOp_shr, shift_shr_any _ _ _ _ (by decide)]
 rfl
theorem ris_mono {xs : List At} (h : Ris xs) (k : ByteArray) {a b : Nat} (hab : a ≤ b) (hb : b < xs.length) (hk : kl (xs.getD b at0).1 k = true) : kl (xs.getD a at0).1 k = true := by
 rcases Nat.lt_or_ge a b with h1 | h1
 ·have := List.pairwise_iff_getElem.1 h a b (by omega) hb h1
  rw [getD_at xs a (by omega)]
  rw [getD_at xs b hb] at hk
  exact kl_trans this hk
 obtain rfl : a = b := by omega
 exact hk
theorem isNaN_any (s : ByteArray) (w : World) : Calls Tryd.prog 168 #[.string s] w fun e w' => e = .returned (.bool false) ∧ Below w.heap.size w w' := by
 refine RX.enter Tryd.func168 rfl 6 rfl [(0, .string s)] rfl (by kernel_rfl) (fun R_ hR_ => ?_)
 refine sq (rg (xe0 1 [(0, .string s)] ?_))
 refine nl (sq (rg (xe 4 [(5, .eq (.bool false))] [(2, .bool false)] [Value.bool (!s.toList == s.toList) = Value.bool false] ⟨congrArg Value.bool (strNeF (rfl)), trivial⟩ ?_)))
 refine nl (X_ret (rk [.bool false] (hR_ _ _ ?_)))
 exact ⟨rfl, (Below.refl _ _)⟩
theorem compare_any (a b : ByteArray) (w : World) : Calls Tryd.prog 149 #[.string a, .string b] w fun e w' => e = .returned (.int .i64 (cmpK a b)) ∧ Below w.heap.size w w' := by
 refine RX.enter Tryd.func149 rfl 20 rfl [(0, .string a), (1, .string b)] rfl (by kernel_rfl) (fun R_ hR_ => ?_)
 refine sq (rg (xe0 1 [(0, .string a), (1, .string b)] ?_))
 refine nl (sq (rg (xr0 1 [(7, .string a)] [] ?_)))
 refine xc 168 ent168 [.string a] (isNaN_any _ _) ?_
 rintro e w_1 ⟨rfl, hb_2⟩; refine ⟨_, rfl, ?_⟩
 refine xr0 1 [(5, .bool false)] [7, 8] ?_
 refine nl (sq (rg (xr0 1 [(9, .string b)] [] ?_)))
 refine xc 168 ent168 [.string b] (isNaN_any _ _) ?_
 rintro e w_3 ⟨rfl, hb_4⟩; refine ⟨_, rfl, ?_⟩
 refine xr0 1 [(6, .bool false)] [9, 10] ?_
 refine nl (sq (sq (rg (xr0 1 [(11, .bool false)] [5] ?_))))
 refine nl (cf (sk (sq (sq (rg (xe0 1 [(0, .string a), (1, .string b), (13, .bool false)] ?_))))))
 refine nl (cf (sk (sq (sq (rg (xr0 2 [(14, .string a), (15, .string b)] [13] ?_))))))
 by_cases c_5 : (Op.bytesLess a.toList b.toList) = true
 ·refine xr 1 [(16, .eq (.bool true))] [(16, .bool true)] [14, 15] [Value.bool (Op.bytesLess a.toList b.toList) = Value.bool true] ⟨congrArg Value.bool (c_5), trivial⟩ ?_
  refine nl (ct (sq (rg (xe0 1 [(4, .int .i64 (-1))] ?_))))
  refine nl (X_ret (rk [.int .i64 (-1)] (hR_ _ _ ?_)))
  have h1_ : kl a b = true := c_5
  rw [show cmpK a b = -1 from by unfold cmpK; rw [if_pos h1_]]
  exact ⟨rfl, (bt hb_2 hb_4)⟩
 refine xr 1 [(16, .eq (.bool false))] [(16, .bool false)] [14, 15] [Value.bool (Op.bytesLess a.toList b.toList) = Value.bool false] ⟨congrArg Value.bool (Bool.eq_false_iff.2 (c_5)), trivial⟩ ?_
 refine nl (cf (sk (sq (sq (rg (xe0 2 [(17, .string a), (18, .string b)] ?_))))))
 by_cases c_6 : (!(Op.bytesLess a.toList b.toList || (a.toList == b.toList))) = true
 ·refine xe 1 [(19, .eq (.bool true))] [(19, .bool true)] [Value.bool (!(Op.bytesLess a.toList b.toList || (a.toList == b.toList))) = Value.bool true] ⟨congrArg Value.bool (c_6), trivial⟩ ?_
  refine nl (ct (sq (rg (xe0 1 [(4, .int .i64 1)] ?_))))
  refine nl (X_ret (rk [.int .i64 1] (hR_ _ _ ?_)))
  have h1_ : kl a b = false := (by simpa using c_5)
  have h2_ := c_6; rw [gtr_kl] at h2_
  rw [show cmpK a b = 1 from by unfold cmpK; rw [if_neg (by rw [h1_]; simp), if_pos h2_]]
  exact ⟨rfl, (bt hb_2 hb_4)⟩
 refine xe 1 [(19, .eq (.bool false))] [(19, .bool false)] [Value.bool (!(Op.bytesLess a.toList b.toList || (a.toList == b.toList))) = Value.bool false] ⟨congrArg Value.bool (Bool.eq_false_iff.2 (c_6)), trivial⟩ ?_
 refine nl (cf (sk (sq (rg (xe0 1 [(4, .int .i64 0)] ?_)))))
 refine nl (X_ret (rk [.int .i64 0] (hR_ _ _ ?_)))
 have h1_ : kl a b = false := (by simpa using c_5)
 have h2_ := c_6; rw [gtr_kl] at h2_
 rw [show cmpK a b = 0 from by unfold cmpK; rw [if_neg (by rw [h1_]; simp), if_neg h2_]]
 exact ⟨rfl, (bt hb_2 hb_4)⟩
theorem place1_any (x : At) (k : ByteArray) (w : World) : Calls Tryd.prog 148 #[.agg #[.string x.1, .int .i64 x.2.1, .int .i64 x.2.2.1, .string x.2.2.2], .string k] w fun e w' => e = .returned (.int .i64 (cmpK x.1 k)) ∧ Below w.heap.size w w' := by
 refine RX.enter Tryd.func148 rfl 9 rfl [(0, .agg #[.string x.1, .int .i64 x.2.1, .int .i64 x.2.2.1, .string x.2.2.2]), (1, .string k)] rfl (by kernel_rfl) (fun R_ hR_ => ?_)
 refine sq (rg (xwe 1 [] [(1, .string k), (2, pw w.heap.size 0)] (w.alloc (.cells #[.string x.1, .int .i64 x.2.1, .int .i64 x.2.2.1, .string x.2.2.2] 71)) [] trivial ?_))
 obtain ⟨w_1, hw_5, hb_2, hk_3, hz_4⟩ := new_world w #[.string x.1, .int .i64 x.2.1, .int .i64 x.2.2.1, .string x.2.2.2] 71
 rw [hw_5]
 refine xr0 1 [] [] ?_
 refine nl (sq (rg (xe 3 [(6, .load (.string x.1))] [(6, .string x.1), (7, .string k)] [LoadsAs Tryd.prog 9 (⟨w.heap.size, 0, none⟩) (.string x.1) w_1] ⟨loads1 rfl (Blk.cell hk_3 0 _ rfl), trivial⟩ ?_)))
 refine xc 149 ent149 [.string x.1, .string k] (compare_any _ _ _) ?_
 rintro e w_6 ⟨rfl, hb_7⟩; refine ⟨_, rfl, ?_⟩
 refine xe0 1 [(4, .int .i64 (cmpK x.1 k))] ?_
 refine nl (X_ret (rk [.int .i64 (cmpK x.1 k)] (hR_ _ _ ?_)))
 exact ⟨rfl, (bt hb_2 hb_7)⟩
theorem bsearch_any (A : Option Addr) (c : Nat) (xs : List At) (k : ByteArray) (w : World) (hx : kAttr.C w A xs.length xs) (hl : xs.length ≤ 1000000000) (hR : Ris xs) : Calls Tryd.prog 147 #[.slice A xs.length c, .string k, .func (.func 148) #[] #[]] w fun e w' => ∃ i, Plc xs k i ∧ e = .returned (.tuple #[.int .i64 (i : Int), .bool (decide (i < xs.length ∧ (xs.getD i at0).1 = k))]) ∧ Below w.heap.size w w' := by
 refine RX.enter Tryd.func147 rfl 49 rfl [(0, .slice A xs.length c), (1, .string k), (2, .func (.func 148) #[] #[])] rfl (by kernel_rfl) (fun R_ hR_ => ?_)
 refine sq (rg (xe0 2 [(0, .slice A xs.length c), (1, .string k), (2, .func (.func 148) #[] #[])] ?_))
 refine nl (sq (rg (xr0 3 [(8, .int .i64 (xs.length : Int))] [] ?_)))
 refine nl (sq (rg (xr0 3 [(9, .int .i64 0), (10, .int .i64 (xs.length : Int))] [] ?_)))
 refine nl (sq (bk (X_loop (ι := Nat × Nat) (fun ⟨lo, hi⟩ => [(0, .slice A xs.length c), (1, .string k), (2, .func (.func 148) #[] #[]), (8, .int .i64 (xs.length : Int)), (9, .int .i64 (lo : Int)), (10, .int .i64 (hi : Int))]) (fun ⟨lo, hi⟩ wl => lo ≤ hi ∧ hi ≤ xs.length ∧ (∀ t, t < lo → kl (xs.getD t at0).1 k = true) ∧ (∀ t, hi ≤ t → t < xs.length → kl (xs.getD t at0).1 k = false) ∧ Below w.heap.size w wl) (fun ⟨lo, hi⟩ => hi - lo) (0, xs.length) ⟨by omega, by omega, fun t ht => by omega, fun t h1 h2 => by omega, (Below.refl _ _)⟩ (by kernel_rfl) ?_)))
 rintro ⟨lo, hi⟩ wl ⟨hlh, hhi, hlo, hge, HB⟩
 refine sq (sq (rg (xr0 2 [(15, nv lo), (16, nv hi)] [] ?_)))
 by_cases c_1 : (lo : Int) < (hi : Int)
 ·refine xr 1 [(17, .eq (.bool true))] [(17, .bool true)] [15, 16] [Value.bool (decide ((lo : Int) < (hi : Int))) = Value.bool true] ⟨congrArg Value.bool (decide_eq_true (c_1)), trivial⟩ ?_
  refine nl (ct (sk (bk (sq (X_region ?_)))))
  obtain ⟨md, hmd⟩ : ∃ md : Nat, md = (lo + hi) / 2 := ⟨_, rfl⟩
  refine xr 7 [(20, .eq (.int .i64 ((lo : Int) + (hi : Int)))), (21, .eq (.int .u64 ((lo : Int) + (hi : Int)))), (22, .as (.int .u64 (((lo : Int) + (hi : Int)) / 2))), (23, .eq (.int .i64 (md : Int)))] [(11, nv md)] [17] [Value.int .i64 (IntKind.i64.wrap ((lo : Int) + (hi : Int))) = Value.int .i64 ((lo : Int) + (hi : Int)), Value.int .u64 (IntKind.u64.wrap ((lo : Int) + (hi : Int))) = Value.int .u64 ((lo : Int) + (hi : Int)), RunsAs Tryd.prog [(21, .int .u64 ((lo : Int) + (hi : Int)))] (Go.Op.binOp Go.BinOp.shr 48 (Go.Operand.tmp 21) (Go.Operand.const (Go.Value.int Go.IntKind.u64 1)) 48) 48 (.int .u64 (((lo : Int) + (hi : Int)) / 2)) wl, Value.int .i64 (IntKind.i64.wrap ((((lo : Int) + (hi : Int)) / 2))) = Value.int .i64 (md : Int)] ⟨wr_i64 (by omega) (by omega), wr_u64 (by omega) (by omega), runs_bin rfl rfl rfl (run_shr1 _ _), (by rw [show ((lo : Int) + (hi : Int)) / 2 = (md : Int) from by omega]; exact wr_i64 (by omega) (by omega)), trivial⟩ ?_
  refine nl (sq (rg (xr0 3 [(24, .func (.func 148) #[] #[]), (25, .slice A xs.length c), (26, nv md)] [] ?_)))
  obtain ⟨ad_2, ha_3, hc_4⟩ := Kd.atAttr (Kd.C_below hx HB) (i := (md : Int)) (by omega) (by omega)
  replace hc_4 : CellsAt wl (ad_2.add ((md : Int).toNat * 4)) [.string ((xs.getD md at0).1), .int .i64 ((xs.getD md at0).2.1), .int .i64 ((xs.getD md at0).2.2.1), .string ((xs.getD md at0).2.2.2)] := hc_4
  refine xr 3 [(27, .idx ad_2), (28, .load (.agg #[.string ((xs.getD md at0).1), .int .i64 ((xs.getD md at0).2.1), .int .i64 ((xs.getD md at0).2.2.1), .string ((xs.getD md at0).2.2.2)]))] [(28, .agg #[.string ((xs.getD md at0).1), .int .i64 ((xs.getD md at0).2.1), .int .i64 ((xs.getD md at0).2.2.1), .string ((xs.getD md at0).2.2.2)]), (29, .string k)] [25, 26] [A = some ad_2, (0 : Int) ≤ (md : Int), (md : Int) < (xs.length : Int), LoadsAs Tryd.prog 71 (ad_2.add ((md : Int).toNat * 4)) (.agg #[.string ((xs.getD md at0).1), .int .i64 ((xs.getD md at0).2.1), .int .i64 ((xs.getD md at0).2.2.1), .string ((xs.getD md at0).2.2.2)]) wl] ⟨ha_3, (by omega), (by omega), loadsE rfl rfl hc_4 0 ⟨by kernel_rfl, by kernel_rfl⟩, trivial⟩ ?_
  refine XL_callv 148 rfl rfl rfl ent148 #[] (by kernel_rfl) [.agg #[.string ((xs.getD md at0).1), .int .i64 ((xs.getD md at0).2.1), .int .i64 ((xs.getD md at0).2.2.1), .string ((xs.getD md at0).2.2.2)], .string k] (by kernel_rfl) (place1_any (xs.getD md at0) _ _) ?_
  rintro e w_5 ⟨rfl, hb_6⟩; refine ⟨_, rfl, ?_⟩
  by_cases c_7 : (cmpK ((xs.getD md at0).1) k) < 0
  ·refine xe 1 [(31, .eq (.bool true))] [(0, .slice A xs.length c), (1, .string k), (2, .func (.func 148) #[] #[]), (8, .int .i64 (xs.length : Int)), (9, nv lo), (10, nv hi), (11, nv md), (31, .bool true)] [Value.bool (decide ((cmpK ((xs.getD md at0).1) k) < 0)) = Value.bool true] ⟨congrArg Value.bool (decide_eq_true (c_7)), trivial⟩ ?_
   refine nl (ct (rg (xr 3 [(33, .eq (.int .i64 ((md : Int) + 1)))] [(9, .int .i64 ((md : Int) + 1))] [11, 31] [Value.int .i64 (IntKind.i64.wrap ((md : Int) + 1)) = Value.int .i64 ((md : Int) + 1)] ⟨wr_i64 (by omega) (by omega), trivial⟩ ?_)))
   refine nl ?_
   refine ⟨(md + 1, hi), by kernel_rfl, ?_, ?_⟩
   ·exact ⟨by omega, hhi, fun t ht => ris_mono hR k (show t ≤ md by omega) (by omega) (cmpK_lt.1 c_7), hge, (bt HB hb_6)⟩
   (try dsimp only); omega
  refine xe 1 [(31, .eq (.bool false))] [(0, .slice A xs.length c), (1, .string k), (2, .func (.func 148) #[] #[]), (8, .int .i64 (xs.length : Int)), (9, nv lo), (10, nv hi), (11, nv md), (31, .bool false)] [Value.bool (decide ((cmpK ((xs.getD md at0).1) k) < 0)) = Value.bool false] ⟨congrArg Value.bool (decide_eq_false (c_7)), trivial⟩ ?_
  refine nl (cf (rg (xr0 2 [(10, nv md)] [11, 31] ?_)))
  refine nl ?_
  refine ⟨(lo, md), by kernel_rfl, ?_, ?_⟩
  ·exact ⟨by omega, by omega, hlo, fun t ht1 ht2 => Bool.eq_false_iff.2 fun h_ => c_7 (cmpK_lt.2 (ris_mono hR k ht1 ht2 h_)), (bt HB hb_6)⟩
  (try dsimp only); omega
 refine xr 1 [(17, .eq (.bool false))] [(17, .bool false)] [15, 16] [Value.bool (decide ((lo : Int) < (hi : Int))) = Value.bool false] ⟨congrArg Value.bool (decide_eq_false (c_1)), trivial⟩ ?_
 refine nl (cf (X_exit (sq (rg (xr0 3 [(35, nv lo), (36, nv lo), (37, .int .i64 (xs.length : Int))] [8, 10, 17] ?_)))))
 by_cases c_8 : (lo : Int) < (xs.length : Int)
 ·refine xr 5 [(38, .eq (.bool true))] [(39, .bool true), (40, .func (.func 148) #[] #[]), (41, .slice A xs.length c), (42, nv lo)] [0, 2, 9, 36, 37] [Value.bool (decide ((lo : Int) < (xs.length : Int))) = Value.bool true] ⟨congrArg Value.bool (decide_eq_true (c_8)), trivial⟩ ?_
  obtain ⟨ad_9, ha_10, hc_11⟩ := Kd.atAttr (Kd.C_below hx HB) (i := (lo : Int)) (by omega) (by omega)
  replace hc_11 : CellsAt wl (ad_9.add ((lo : Int).toNat * 4)) [.string ((xs.getD lo at0).1), .int .i64 ((xs.getD lo at0).2.1), .int .i64 ((xs.getD lo at0).2.2.1), .string ((xs.getD lo at0).2.2.2)] := hc_11
  refine xr 3 [(43, .idx ad_9), (44, .load (.agg #[.string ((xs.getD lo at0).1), .int .i64 ((xs.getD lo at0).2.1), .int .i64 ((xs.getD lo at0).2.2.1), .string ((xs.getD lo at0).2.2.2)]))] [(44, .agg #[.string ((xs.getD lo at0).1), .int .i64 ((xs.getD lo at0).2.1), .int .i64 ((xs.getD lo at0).2.2.1), .string ((xs.getD lo at0).2.2.2)]), (45, .string k)] [1, 41, 42] [A = some ad_9, (0 : Int) ≤ (lo : Int), (lo : Int) < (xs.length : Int), LoadsAs Tryd.prog 71 (ad_9.add ((lo : Int).toNat * 4)) (.agg #[.string ((xs.getD lo at0).1), .int .i64 ((xs.getD lo at0).2.1), .int .i64 ((xs.getD lo at0).2.2.1), .string ((xs.getD lo at0).2.2.2)]) wl] ⟨ha_10, (by omega), (by omega), loadsE rfl rfl hc_11 0 ⟨by kernel_rfl, by kernel_rfl⟩, trivial⟩ ?_
  refine XL_callv 148 rfl rfl rfl ent148 #[] (by kernel_rfl) [.agg #[.string ((xs.getD lo at0).1), .int .i64 ((xs.getD lo at0).2.1), .int .i64 ((xs.getD lo at0).2.2.1), .string ((xs.getD lo at0).2.2.2)], .string k] (by kernel_rfl) (place1_any (xs.getD lo at0) _ _) ?_
  rintro e w_12 ⟨rfl, hb_13⟩; refine ⟨_, rfl, ?_⟩
  by_cases c_14 : (cmpK ((xs.getD lo at0).1) k) = 0
  ·refine xe 4 [(47, .eq (.bool true))] [(6, nv lo), (7, .bool true)] [Value.bool ((cmpK ((xs.getD lo at0).1) k) == 0) = Value.bool true] ⟨congrArg Value.bool (beq_iff_eq.2 (c_14)), trivial⟩ ?_
   refine nl (X_ret (rk [.int .i64 (lo : Int), .bool true] (hR_ _ _ ?_)))
   obtain rfl : lo = hi := by omega
   exact ⟨lo, ⟨by omega, hlo, hge⟩, by rw [show decide (lo < xs.length ∧ (xs.getD lo at0).1 = k) = true from decide_eq_true ⟨by omega, cmpK_eq.1 c_14⟩]; rfl, (bt HB hb_13)⟩
  refine xe 4 [(47, .eq (.bool false))] [(6, nv lo), (7, .bool false)] [Value.bool ((cmpK ((xs.getD lo at0).1) k) == 0) = Value.bool false] ⟨congrArg Value.bool (beq_eq_false_iff_ne.2 (c_14)), trivial⟩ ?_
  refine nl (X_ret (rk [.int .i64 (lo : Int), .bool false] (hR_ _ _ ?_)))
  obtain rfl : lo = hi := by omega
  exact ⟨lo, ⟨by omega, hlo, hge⟩, by rw [show decide (lo < xs.length ∧ (xs.getD lo at0).1 = k) = false from decide_eq_false fun h_ => c_14 (cmpK_eq.2 h_.2)]; rfl, (bt HB hb_13)⟩
 refine xe 13 [(38, .eq (.bool false))] [(6, nv lo), (7, .bool false)] [Value.bool (decide ((lo : Int) < (xs.length : Int))) = Value.bool false] ⟨congrArg Value.bool (decide_eq_false (c_8)), trivial⟩ ?_
 refine nl (X_ret (rk [.int .i64 (lo : Int), .bool false] (hR_ _ _ ?_)))
 obtain rfl : lo = hi := by omega
 exact ⟨lo, ⟨by omega, hlo, hge⟩, by rw [show decide (lo < xs.length ∧ (xs.getD lo at0).1 = k) = false from decide_eq_false fun h_ => by have := h_.1; omega]; rfl, HB⟩
theorem place_any (A : Option Addr) (c : Nat) (xs : List At) (k : ByteArray) (w : World) (hx : kAttr.C w A xs.length xs) (hl : xs.length ≤ 1000000000) (hR : Ris xs) : Calls Tryd.prog 101 #[.slice A xs.length c, .string k] w fun e w' => ∃ i, Plc xs k i ∧ e = .returned (.tuple #[.int .i64 (i : Int), .bool (decide (i < xs.length ∧ (xs.getD i at0).1 = k))]) ∧ Below w.heap.size w w' := by
 refine RX.enter Tryd.func101 rfl 11 rfl [(0, .slice A xs.length c), (1, .string k)] rfl (by kernel_rfl) (fun R_ hR_ => ?_)
 refine sq (rg (xe0 2 [(0, .slice A xs.length c), (1, .string k)] ?_))
 refine nl (sq (rg (xe0 2 [(6, .slice A xs.length c), (7, .string k)] ?_)))
 refine xc 147 ent147 [.slice A xs.length c, .string k, .func (.func 148) #[] #[]] (bsearch_any _ _ xs k _ hx hl hR) ?_
 rintro e w_1 ⟨i, hP, rfl, hb_2⟩; refine ⟨_, rfl, ?_⟩
 refine xe0 4 [(4, nv i), (5, .bool (decide (i < xs.length ∧ (xs.getD i at0).1 = k)))] ?_
 refine nl (X_ret (rk [.int .i64 (i : Int), .bool (decide (i < xs.length ∧ (xs.getD i at0).1 = k))] (hR_ _ _ ?_)))
 exact ⟨i, hP, rfl, hb_2⟩
end Go.Proofs.YtkehomiogkoomaaDoor
