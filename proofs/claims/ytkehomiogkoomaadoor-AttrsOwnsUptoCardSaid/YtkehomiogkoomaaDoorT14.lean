/- What vellumhand.OverAttrs and OverOps write over. Conditions: sizes. -/
import Derived.Test.YtkehomiogkoomaaDoorT13
import Derived.Test.YtkehomiogkoomaaDoorOver2
set_option linter.unusedVariables false
set_option linter.unusedSimpArgs false
set_option maxRecDepth 100000
namespace Go.Proofs.YtkehomiogkoomaaDoor
open Go Go.RowKit Go.Proofs.YtkehomiogkoomaaDoorW.PrintWords RX
theorem ent45 : Ent Tryd.prog 45 := ent_of Tryd.func45 (by kernel_rfl) rfl
theorem over_any (B : Option Addr) (m c : Nat) (ok : Nat → Prop) (w : World) (hok : ∀ g, w.heap.size ≤ g → ok g) (hL : LiesO 71 4 ok w B m c) (hm : m ≤ 100000000) : Calls Tryd.prog 45 #[.slice B m c] w fun e w' => e = .returned (.tuple #[]) ∧ SpoilO (· = 71) ok w w' := by
 refine RX.enter Tryd.func45 rfl 26 rfl [(0, .slice B m c)] rfl (by kernel_rfl) (fun R_ hR_ => ?_)
 refine sq (sq (rg (xe0 3 [(0, .slice B m c), (6, nv m), (7, .int .i64 0)] ?_)))
 refine nl (bk (X_loop (ι := Nat) (fun i => [(0, .slice B m c), (6, .int .i64 (m : Int)), (7, .int .i64 (i : Int))]) (fun i wl => i ≤ m ∧ LiesO 71 4 ok wl B m c ∧ SpoilO (· = 71) ok w wl) (fun i => m - i) 0 ⟨Nat.zero_le _, hL, (SpoilO.refl _ _ _)⟩ (by kernel_rfl) ?_))
 rintro i wl ⟨hi, hL1, hS1⟩
 refine sq (X_region ?_)
 by_cases c_1 : (i : Int) < (m : Int)
 ·refine xr 1 [(8, .eq (.bool true))] [(8, .bool true)] [] [Value.bool (decide ((i : Int) < (m : Int))) = Value.bool true] ⟨congrArg Value.bool (decide_eq_true (c_1)), trivial⟩ ?_
  refine nl (sq (ct (sk (sq (bk (sq (rg (xr0 2 [(2, nv i)] [8] ?_))))))))
  refine nl (rg (xr0 5 [(10, .slice B m c), (11, nv i), (14, .agg #[.string (⟨#[111, 118, 101, 114]⟩ : ByteArray), .int .i64 2, nv i, .string ByteArray.empty])] [2] ?_))
  obtain ⟨g_5, cs_6, ha_3, hg_7, hk_8, hs_9⟩ := LiesO.at hL1 (by omega)
  obtain ⟨ad_2, had_10⟩ : ∃ ad_, ad_ = (⟨g_5, 0, none⟩ : Addr) := ⟨_, rfl⟩
  rw [← had_10] at ha_3
  have hc_4 : True := trivial
  refine xr 1 [(15, .idx ad_2)] [(15, .pointer (some (ad_2.add ((i : Int).toNat * 4))))] [10, 11] [B = some ad_2, (0 : Int) ≤ (i : Int), (i : Int) < (m : Int)] ⟨ha_3, (by omega), (by omega), trivial⟩ ?_
  refine XL_spoilO (v := .agg #[.string (⟨#[111, 118, 101, 114]⟩ : ByteArray), .int .i64 2, .int .i64 (i : Int), .string ByteArray.empty]) rfl rfl rfl (n := (i : Int).toNat * 4) had_10 (by kernel_rfl) hk_8 hg_7 [.string (⟨#[111, 118, 101, 114]⟩ : ByteArray), .int .i64 2, .int .i64 (i : Int), .string ByteArray.empty] ⟨by kernel_rfl, by kernel_rfl⟩ (by kernel_rfl) (by simp only [List.length_cons, List.length_nil]; omega) (fun w_11 hw_12 => ?_)
  have hL_13 := LiesO.spoil hL1 (SpoilO.of_wrote (es := (· = 71)) hw_12 rfl)
  have hS_14 := SpoilO.trans hS1 (SpoilO.of_wrote hw_12 rfl)
  refine nl (rg (xr 2 [(16, .eq (.int .i64 ((i : Int) + 1)))] [(7, .int .i64 ((i : Int) + 1))] [14, 15] [Value.int .i64 (IntKind.i64.wrap ((i : Int) + 1)) = Value.int .i64 ((i : Int) + 1)] ⟨wr_i64 (by omega) (by omega), trivial⟩ ?_))
  refine nl ?_
  refine ⟨(i + 1), by kernel_rfl, ?_, ?_⟩
  ·exact ⟨by omega, hL_13, hS_14⟩
  (try dsimp only); omega
 refine xr 1 [(8, .eq (.bool false))] [(8, .bool false)] [] [Value.bool (decide ((i : Int) < (m : Int))) = Value.bool false] ⟨congrArg Value.bool (decide_eq_false (c_1)), trivial⟩ ?_
 refine nl (sq (cf (X_exit (sq (rg (xe0 2 [(3, .slice B m c)] ?_))))))
 refine nl (sq (rg (xr0 1 [(4, .int .i64 0)] [] ?_)))
 refine nl (bk (X_loop (ι := Nat × Option Addr × Nat × Nat) (fun ⟨k, B3, m3, c3⟩ => [(3, .slice B3 m3 c3), (4, .int .i64 (k : Int))]) (fun ⟨k, B3, m3, c3⟩ wm => k ≤ 20 ∧ m3 = m + k ∧ LiesO 71 4 ok wm B3 m3 c3 ∧ SpoilO (· = 71) ok w wm) (fun ⟨k, B3, m3, c3⟩ => 20 - k) (0, B, m, c) ⟨Nat.zero_le _, rfl, hL1, hS1⟩ (by kernel_rfl) ?_))
 rintro ⟨k, B3, m3, c3⟩ wm ⟨hk, hm3, hL2, hS2⟩
 refine sq (sq (rg (xr0 1 [(18, nv k)] [] ?_)))
 by_cases c_15 : (k : Int) < 20
 ·refine xr 1 [(19, .eq (.bool true))] [(19, .bool true)] [18] [Value.bool (decide ((k : Int) < 20)) = Value.bool true] ⟨congrArg Value.bool (decide_eq_true (c_15)), trivial⟩ ?_
  refine nl (ct (sk (sq (bk (rg (xw 3 [] [(22, .slice B3 m3 c3), (24, .slice (some ⟨wm.heap.size, 0, none⟩) 1 1)] [3, 19] (wm.alloc (.cells #[.string (⟨#[109, 111, 114, 101]⟩ : ByteArray), .int .i64 0, .int .i64 0, .string ByteArray.empty] 71)) [] trivial ?_))))))
  obtain ⟨w_16, hw_20, hb_17, hk_18, hz_19⟩ := new_world wm #[.string (⟨#[109, 111, 114, 101]⟩ : ByteArray), .int .i64 0, .int .i64 0, .string ByteArray.empty] 71
  rw [hw_20]
  rw [← hw_20]
  refine XL_appendLiesO rfl rfl rfl 71 (.agg #[.string ByteArray.empty, .int .i64 0, .int .i64 0, .string ByteArray.empty]) 4 48 Tryd.underlying45 info71 rfl (by decide) [.string (⟨#[109, 111, 114, 101]⟩ : ByteArray), .int .i64 0, .int .i64 0, .string ByteArray.empty] (by kernel_rfl) (by kernel_rfl) (by kernel_rfl) (fun g_ h_ => hok g_ (Nat.le_trans (hS2).size h_)) hL2 (by omega) (by omega) (fun A_21 c_22 w_23 hw_24 hL_25 => ?_)
  have hS_27 := SpoilO.trans hS2 (SpoilO.of_wrote hw_24 rfl)
  refine xe0 1 [(3, .slice A_21 (m3 + 1) c_22), (4, nv k)] ?_
  refine nl (rg (xr 3 [(21, .eq (.int .i64 ((k : Int) + 1)))] [(4, .int .i64 ((k : Int) + 1))] [] [Value.int .i64 (IntKind.i64.wrap ((k : Int) + 1)) = Value.int .i64 ((k : Int) + 1)] ⟨wr_i64 (by omega) (by omega), trivial⟩ ?_))
  refine nl ?_
  refine ⟨(k + 1, A_21, (m3 + 1), c_22), by kernel_rfl, ?_, ?_⟩
  ·exact ⟨by omega, by omega, hL_25, hS_27⟩
  (try dsimp only); omega
 refine xr 1 [(19, .eq (.bool false))] [(19, .bool false)] [18] [Value.bool (decide ((k : Int) < 20)) = Value.bool false] ⟨congrArg Value.bool (decide_eq_false (c_15)), trivial⟩ ?_
 refine nl (cf (X_exit (ek [] (hR_ _ _ ?_))))
 exact ⟨rfl, hS2⟩
end Go.Proofs.YtkehomiogkoomaaDoor
