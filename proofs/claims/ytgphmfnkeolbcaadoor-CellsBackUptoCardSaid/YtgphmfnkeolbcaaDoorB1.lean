import Derived.Test.YtgphmfnkeolbcaaDoorUtf3
import Derived.Test.YtgphmfnkeolbcaaDoorMk
import Derived.Test.YtgphmfnkeolbcaaDoorAn
/- What scalars.Len, at, Cut, At, Width, Text, List and Pair answer. Conditions: sizes, the tables of utf8, the errors' variables. -/
set_option linter.unusedVariables false
set_option linter.unusedSimpArgs false
set_option maxRecDepth 100000
namespace Go.Proofs.YtgphmfnkeolbcaaDoor
open Go Go.RowKit Go.Proofs.YtgphmfnkeolbcaaDoorW.PrintWords RX
theorem ent85 : Ent Tryd.prog 85 := ent_of Tryd.func85 (by kernel_rfl) rfl
theorem ent52 : Ent Tryd.prog 52 := ent_of Tryd.func52 (by kernel_rfl) rfl
theorem ent57 : Ent Tryd.prog 57 := ent_of Tryd.func57 (by kernel_rfl) rfl
theorem ent88 : Ent Tryd.prog 88 := ent_of Tryd.func88 (by kernel_rfl) rfl
theorem ent89 : Ent Tryd.prog 89 := ent_of Tryd.func89 (by kernel_rfl) rfl
theorem ent77 : Ent Tryd.prog 77 := ent_of Tryd.func77 (by kernel_rfl) rfl
theorem ent73 : Ent Tryd.prog 73 := ent_of Tryd.func73 (by kernel_rfl) rfl
theorem info21 : (Tryd.prog.info? 21).map (fun i => (i.zero, i.size, i.bytes)) = some (some (.int .i32 0), 1, 4) := by kernel_rfl
theorem len_any (s : ByteArray) (w : World) (hs : s.size ≤ 1000000000) (hT : Tabs w) (es : List Addr) (hE : ErrsA w es) : Calls Tryd.prog 85 #[.string s] w fun e w' => e = .returned (.tuple #[.int .i64 ((U.lenP s).1 : Int), errV es (U.lenP s).2]) ∧ Below w.heap.size w w' := by
 refine RX.enter Tryd.func85 rfl 10 rfl [(0, .string s)] rfl (by kernel_rfl) (fun R_ hR_ => ?_)
 refine sq (rg (xe0 2 [(0, .string s)] ?_))
 refine nl (sq (sq (rg (xr0 1 [(4, .string s)] [] ?_))))
 refine xc 88 ent88 [.string s] (Tryd.utf8_ValidString s _ (by omega) (hT.below (Below.refl _ _))) ?_
 rintro e w_1 ⟨rfl, hb_2⟩; refine ⟨_, rfl, ?_⟩
 rw [U.valid_utf]
 by_cases c_3 : decide (U.tl s = []) = true
 ·rw [show (decide (U.tl s = []) : Bool) = true from by simpa using c_3]
  refine xr0 1 [(6, .bool false)] [4, 5] ?_
  refine nl (cf (sk (sq (rg (xe0 1 [(8, .string s)] ?_)))))
  refine xc 89 ent89 [.string s] (Tryd.utf8_RuneCountInString s _ (by omega)) ?_
  rintro e w_4 ⟨rfl, pos_5, hw_6⟩; refine ⟨_, rfl, ?_⟩
  have hb_7 : Below w_1.heap.size w_1 w_4 := by rw [hw_6]; exact (Below.refl _ _).alloc (Nat.le_refl _) _
  rw [U.count_utf (of_decide_eq_true (p := U.tl s = []) c_3)]
  refine xe0 2 [(2, .int .i64 ((U.sc s).length : Int)), (3, .nilIface)] ?_
  refine nl (X_ret (rk [.int .i64 ((U.sc s).length : Int), .nilIface] (hR_ _ _ ?_)))
  rw [show U.lenP s = ((U.sc s).length, 0) from if_pos (of_decide_eq_true (p := U.tl s = []) c_3)]
  exact ⟨rfl, (bt hb_2 hb_7)⟩
 rw [show (decide (U.tl s = []) : Bool) = false from by simpa using c_3]
 refine xr0 1 [(6, .bool true)] [4, 5] ?_
 refine nl (ct (sq (X_still (by kernel_rfl) (by kernel_rfl) (fun wd_8 hb_9 hh_10 => ?_))))
 refine xse 3 [(7, .load (.iface 164 (.pointer (some (errAt es 1)))))] [(2, .int .i64 0), (3, .iface 164 (.pointer (some (errAt es 1))))] [LoadsAs Tryd.prog 30 (⟨2, 0, none⟩) (.iface 164 (.pointer (some (errAt es 1)))) wd_8] ⟨loads1 rfl (((bt hb_2 hb_9).cell (World.block_lt_of_cell? _ _ (hE.load 1 2 (by decide) (by decide) rfl))).trans (hE.load 1 2 (by decide) (by decide) rfl)), trivial⟩ ?_
 refine XS_nil ?_
 refine X_ret (rk [.int .i64 0, .iface 164 (.pointer (some (errAt es 1)))] (hR_ _ _ ?_))
 rw [show U.lenP s = (0, 1) from if_neg (of_decide_eq_false (p := U.tl s = []) (Bool.eq_false_iff.2 c_3))]
 exact ⟨rfl, (bt hb_2 hb_9)⟩
theorem widthP_pos {k : Nat} (hv : U.vr k) : U.widthP (k : Int) = (U.enc k).length := by
 unfold U.widthP
 rw [if_pos (show U.vz (k : Int) from ⟨by omega, by rw [Int.toNat_natCast]; exact hv⟩), Int.toNat_natCast]
theorem widthP_neg {r : Int} (h : ¬ U.vz r) : U.widthP r = 0 := if_neg h
theorem width_eq (r : Int) : max (Lib.runeLen r) 0 = (U.widthP r : Int) := by
 by_cases h0 : r < 0
 ·rw [widthP_neg (fun h => by have := h.1; omega)]
  unfold Lib.runeLen
  rw [if_pos h0]; rfl
 obtain ⟨k, rfl⟩ := Int.eq_ofNat_of_zero_le (show 0 ≤ r by omega)
 by_cases hv : U.vr k
 ·rw [widthP_pos hv]
  have hv' := hv
  unfold U.vr at hv'
  unfold Lib.runeLen
  by_cases h1 : k < 128
  ·rw [if_neg h0, if_pos (by omega), U.enc_1 h1]; rfl
  by_cases h2 : k < 2048
  ·rw [if_neg h0, if_neg (by omega), if_pos (by omega), U.enc_2 (by omega) h2]; rfl
  by_cases h3 : k < 65536
  ·rw [if_neg h0, if_neg (by omega), if_neg (by omega), if_neg (by omega), if_pos (by omega), U.enc_3 hv (by omega) h3]; rfl
  rw [if_neg h0, if_neg (by omega), if_neg (by omega), if_neg (by omega), if_neg (by omega), if_pos (by omega), U.enc_4 hv (by omega)]; rfl
 rw [widthP_neg (fun h => hv (by have := h.2; rwa [Int.toNat_natCast] at this))]
 unfold U.vr at hv
 unfold Lib.runeLen
 rw [if_neg h0, if_neg (by omega), if_neg (by omega)]
 by_cases h4 : 55296 ≤ (k : Int) ∧ (k : Int) ≤ 57343
 ·rw [if_pos h4]; rfl
 rw [if_neg h4, if_neg (by omega), if_neg (by omega)]; rfl
theorem width_any (r : Int) (w : World) : Calls Tryd.prog 52 #[.int .i32 r] w fun e w' => e = .returned (.int .i64 (U.widthP r : Int)) ∧ Below w.heap.size w w' := by
 refine RX.enter Tryd.func52 rfl 6 rfl [(0, .int .i32 r)] rfl (by kernel_rfl) (fun R_ hR_ => ?_)
 refine sq (rg (xe0 1 [(0, .int .i32 r)] ?_))
 refine nl (sq (rg (xe0 1 [(3, .int .i32 r)] ?_)))
 refine xc 73 ent73 [.int .i32 r] (Tryd.utf8_RuneLen r _) ?_
 rintro e w_1 ⟨rfl, hw_⟩; refine ⟨_, rfl, ?_⟩; rw [hw_]
 refine xe 2 [(5, .eq (.int .i64 (max (Lib.runeLen r) 0)))] [(2, .int .i64 (max (Lib.runeLen r) 0))] [Value.int .i64 (if 0 > Lib.runeLen r then 0 else Lib.runeLen r) = Value.int .i64 (max (Lib.runeLen r) 0)] ⟨congrArg (Value.int .i64) (max_eq _ _), trivial⟩ ?_
 refine nl (X_ret (rk [.int .i64 (max (Lib.runeLen r) 0)] (hR_ _ _ ?_)))
 rw [width_eq]
 exact ⟨rfl, (Below.refl _ _)⟩
theorem vrune (r : Int) : Lib.validRune r = decide (U.vz r) := by
 unfold Lib.validRune
 rw [Bool.eq_iff_iff, decide_eq_true_iff, decide_eq_true_iff]
 unfold U.vz U.vr
 omega
theorem text_any (A : Option Addr) (c : Nat) (xs : List Int) (w : World) (hx : (Kd.int .i32).C w A xs.length xs) (es : List Addr) (hE : ErrsA w es) : Calls Tryd.prog 57 #[.slice A xs.length c] w fun e w' => e = .returned (.tuple #[.string (U.textP xs).1, errV es (U.textP xs).2]) ∧ Below w.heap.size w w' := by
 have hpl : xs.length ≤ 9223372036854775807 := hx.2.1
 refine RX.enter Tryd.func57 rfl 19 rfl [(0, .slice A xs.length c)] rfl (by kernel_rfl) (fun R_ hR_ => ?_)
 refine sq (rg (xe0 2 [(0, .slice A xs.length c)] ?_))
 refine nl (sq (sq (rg (xr0 3 [(6, .slice A xs.length c), (7, .int .i64 (xs.length : Int)), (8, .int .i64 0)] [] ?_))))
 refine nl (bk (X_loop (ι := Nat) (fun i => [(0, .slice A xs.length c), (6, .slice A xs.length c), (7, .int .i64 (xs.length : Int)), (8, .int .i64 (i : Int))]) (fun i wl => i ≤ xs.length ∧ (∀ q : Nat, q < i → U.vz (rd xs (q : Int))) ∧ Below w.heap.size w wl) (fun i => xs.length - i) 0 ⟨by omega, fun q hq => by omega, (Below.refl _ _)⟩ (by kernel_rfl) ?_))
 rintro i wl ⟨hi, hq0, HB⟩
 refine sq (X_region ?_)
 by_cases c_1 : (i : Int) < (xs.length : Int)
 ·refine xr 1 [(9, .eq (.bool true))] [(9, .bool true)] [] [Value.bool (decide ((i : Int) < (xs.length : Int))) = Value.bool true] ⟨congrArg Value.bool (decide_eq_true (c_1)), trivial⟩ ?_
  refine nl (sq (ct (sk (sq (bk (sq (X_region ?_)))))))
  obtain ⟨ad_2, ha_3, hc_4⟩ := Kd.atI (Kd.C_below hx HB) (i := (i : Int)) (by omega) (by omega)
  refine xr 3 [(10, .idx ad_2), (11, .load (.int .i32 (rd xs (i : Int))))] [(5, .int .i32 (rd xs (i : Int)))] [9] [A = some ad_2, (0 : Int) ≤ (i : Int), (i : Int) < (xs.length : Int), LoadsAs Tryd.prog 21 (ad_2.add ((i : Int).toNat * 1)) (.int .i32 (rd xs (i : Int))) wl] ⟨ha_3, (by omega), (by omega), loads1 rfl (elem_cell hc_4 0 _ rfl), trivial⟩ ?_
  refine nl (sq (rg (xr0 1 [(12, .int .i32 (rd xs (i : Int)))] [5] ?_)))
  refine xc 77 ent77 [.int .i32 (rd xs (i : Int))] (Tryd.utf8_ValidRune (rd xs (i : Int)) _) ?_
  rintro e w_5 ⟨rfl, hw_⟩; refine ⟨_, rfl, ?_⟩; rw [hw_]
  rw [vrune]
  by_cases c_6 : decide (U.vz (rd xs (i : Int))) = true
  ·rw [show (decide (U.vz (rd xs (i : Int))) : Bool) = true from by simpa using c_6]
   refine xr0 1 [(14, .bool false)] [12, 13] ?_
   refine nl (cf (sk (rg (xr 2 [(16, .eq (.int .i64 ((i : Int) + 1)))] [(8, .int .i64 ((i : Int) + 1))] [14] [Value.int .i64 (IntKind.i64.wrap ((i : Int) + 1)) = Value.int .i64 ((i : Int) + 1)] ⟨wr_i64 (by omega) (by omega), trivial⟩ ?_))))
   refine nl ?_
   refine ⟨(i + 1), by kernel_rfl, ?_, ?_⟩
   ·exact ⟨by omega, fun q hq => by by_cases e : q = i; (· subst e; exact of_decide_eq_true c_6); (· exact hq0 q (by omega)), HB⟩
   (try dsimp only); omega
  rw [show (decide (U.vz (rd xs (i : Int))) : Bool) = false from by simpa using c_6]
  refine xr0 1 [(14, .bool true)] [12, 13] ?_
  refine nl (ct (sq (X_still (by kernel_rfl) (by kernel_rfl) (fun wd_7 hb_8 hh_9 => ?_))))
  refine xse 3 [(15, .load (.iface 164 (.pointer (some (errAt es 1)))))] [(2, .string (⟨#[]⟩ : ByteArray)), (3, .iface 164 (.pointer (some (errAt es 1))))] [LoadsAs Tryd.prog 30 (⟨2, 0, none⟩) (.iface 164 (.pointer (some (errAt es 1)))) wd_7] ⟨loads1 rfl (((bt HB hb_8).cell (World.block_lt_of_cell? _ _ (hE.load 1 2 (by decide) (by decide) rfl))).trans (hE.load 1 2 (by decide) (by decide) rfl)), trivial⟩ ?_
  refine XS_nil ?_
  refine X_ret (rk [.string (⟨#[]⟩ : ByteArray), .iface 164 (.pointer (some (errAt es 1)))] (hR_ _ _ ?_))
  rw [show U.textP xs = (⟨#[]⟩, 1) from if_neg (fun h => of_decide_eq_false (Bool.eq_false_iff.2 c_6) (h _ (by unfold rd; rw [Int.toNat_natCast, List.getD_eq_getElem?_getD, List.getElem?_eq_getElem (by omega)]; exact List.getElem_mem (by omega))))]
  exact ⟨rfl, (bt HB hb_8)⟩
 refine xr 1 [(9, .eq (.bool false))] [(9, .bool false)] [] [Value.bool (decide ((i : Int) < (xs.length : Int))) = Value.bool false] ⟨congrArg Value.bool (decide_eq_false (c_1)), trivial⟩ ?_
 refine nl (sq (cf (X_exit (sq (rg (xe0 1 [(17, .slice A xs.length c)] ?_))))))
 refine xe 3 [(18, .as (.string (runesBytes xs)))] [(2, .string (runesBytes xs)), (3, .nilIface)] [RunsAs Tryd.prog [(17, .slice A xs.length c)] (Go.Op.convert 114 9 (Go.Operand.tmp 17)) 9 (.string (runesBytes xs)) wl] ⟨runs_conv rfl (conv_runesC xs Tryd.underlying114 Tryd.underlying21 Tryd.underlying9 (Kd.C_below hx HB)), trivial⟩ ?_
 refine nl (X_ret (rk [.string (runesBytes xs), .nilIface] (hR_ _ _ ?_)))
 rw [show U.textP xs = (runesBytes xs, 0) from if_pos (fun r hr => by obtain ⟨q, hq, rfl⟩ := List.mem_iff_getElem.1 hr; have := hq0 q (by omega); unfold rd at this; rwa [Int.toNat_natCast, List.getD_eq_getElem?_getD, List.getElem?_eq_getElem hq] at this)]
 exact ⟨rfl, HB⟩
end Go.Proofs.YtgphmfnkeolbcaaDoor
