/- What vellumref01.decode, Breaks, List and Check answer. Conditions: sizes. -/
import Derived.Test.YtkehomiogkoomaaDoorB7
set_option linter.unusedVariables false
set_option linter.unusedSimpArgs false
set_option maxRecDepth 100000
namespace Go.Proofs.YtkehomiogkoomaaDoor
open Go Go.RowKit Go.Proofs.YtkehomiogkoomaaDoorW.PrintWords RX
set_option maxHeartbeats 2000000 in
theorem first_any (s : ByteArray) (p : Nat) (rs : List Nat) (t : List UInt8) (w : World) (hs : s.size ≤ 1000000000) (hp : p < s.size) (hbk : U.Brk ((U.bl s).drop p) rs t) : Calls Tryd.prog 141 #[.string s, .int .i64 (p : Int)] w fun e w' => e = .returned (.tuple #[.int .i32 ((U.headP rs).1 : Int), .int .i64 ((U.headP rs).2 : Int)]) ∧ Below w.heap.size w w' := by
 have hlen : ((U.bl s).drop p).length = s.size - p := by rw [List.length_drop, U.bl_size]
 have hB : U.g ((U.bl s).drop p) 0 = (s.data.toList.getD p 0).toNat := by have h_ := U.g_drop s p 0; rwa [Nat.add_zero] at h_
 have hBlt : (s.data.toList.getD p 0).toNat < 256 := UInt8.toNat_lt _
 refine RX.enter Tryd.func141 rfl 72 rfl [(0, .string s), (1, .int .i64 (p : Int))] rfl (by kernel_rfl) (fun R_ hR_ => ?_)
 refine sq (rg (xe0 2 [(0, .string s), (1, nv p)] ?_))
 refine nl (sq (X_region ?_))
 have hu_1 : (s.data.toList.getD p 0).toNat < 256 := UInt8.toNat_lt _
 refine xr 4 [(13, .as (.int .u8 ((s.data.toList.getD p 0).toNat : Int)))] [(6, .int .u8 ((s.data.toList.getD p 0).toNat : Int))] [] [RunsAs Tryd.prog [(11, .string s), (12, .int .i64 (p : Int))] (Go.Op.index 9 (Go.Operand.tmp 11) (Go.Operand.tmp 12)) 5 (.int .u8 ((s.data.toList.getD p 0).toNat : Int)) w] ⟨runs_index_s (i := (p : Int)) Tryd.underlying9 rfl rfl (by omega) (by omega), trivial⟩ ?_
 refine nl (sq (rg (xr 4 [(15, .eq (.int .i32 ((s.data.toList.getD p 0).toNat : Int)))] [(7, .int .i64 1), (8, .int .i32 ((s.data.toList.getD p 0).toNat : Int))] [] [Value.int .i32 (IntKind.i32.wrap (((s.data.toList.getD p 0).toNat : Int))) = Value.int .i32 ((s.data.toList.getD p 0).toNat : Int)] ⟨wr_i32 (by omega) (by omega), trivial⟩ ?_)))
 refine nl (X_join (ι := Nat × Int) (fun ⟨n, r⟩ => [(0, .string s), (1, .int .i64 (p : Int)), (7, .int .i64 (n : Int)), (8, .int .i32 r)]) (fun ⟨n, r⟩ wj => n = U.nOf (s.data.toList.getD p 0).toNat ∧ r = U.r0Of (s.data.toList.getD p 0).toNat ∧ Below w.heap.size w wj) ?_ ?_)
 ·refine bk (sq (rg (xr0 1 [(17, .int .u8 ((s.data.toList.getD p 0).toNat : Int))] [] ?_)))
  by_cases c_2 : ((s.data.toList.getD p 0).toNat : Int) ≥ 240
  ·refine xr 2 [(18, .eq (.bool true))] [(16, .bool true)] [17] [Value.bool (decide (((s.data.toList.getD p 0).toNat : Int) ≥ 240)) = Value.bool true] ⟨congrArg Value.bool (decide_eq_true (c_2)), trivial⟩ ?_
   refine nl (ct (rg (xr 5 [(20, .eq (.int .i32 ((s.data.toList.getD p 0).toNat : Int))), (21, .eq (.int .i32 (((s.data.toList.getD p 0).toNat : Int) - 240)))] [(7, .int .i64 4), (8, .int .i32 (((s.data.toList.getD p 0).toNat : Int) - 240))] [6, 16] [Value.int .i32 (IntKind.i32.wrap (((s.data.toList.getD p 0).toNat : Int))) = Value.int .i32 ((s.data.toList.getD p 0).toNat : Int), Value.int .i32 (IntKind.i32.wrap (((s.data.toList.getD p 0).toNat : Int) - 240)) = Value.int .i32 (((s.data.toList.getD p 0).toNat : Int) - 240)] ⟨wr_i32 (by omega) (by omega), wr_i32 (by omega) (by omega), trivial⟩ ?_)))
   refine nl ?_
   exact ⟨(4, ((s.data.toList.getD p 0).toNat : Int) - 240), by kernel_rfl, ⟨(by unfold U.nOf; split <;> (try split) <;> (try split) <;> omega), (by unfold U.r0Of; split <;> (try split) <;> (try split) <;> omega), (Below.refl _ _)⟩⟩
  refine xr 2 [(18, .eq (.bool false))] [(16, .bool false)] [17] [Value.bool (decide (((s.data.toList.getD p 0).toNat : Int) ≥ 240)) = Value.bool false] ⟨congrArg Value.bool (decide_eq_false (c_2)), trivial⟩ ?_
  refine nl (cf (sq (rg (xr0 1 [(23, .int .u8 ((s.data.toList.getD p 0).toNat : Int))] [16] ?_))))
  by_cases c_3 : ((s.data.toList.getD p 0).toNat : Int) ≥ 224
  ·refine xe 2 [(24, .eq (.bool true))] [(0, .string s), (1, nv p), (6, .int .u8 ((s.data.toList.getD p 0).toNat : Int)), (7, .int .i64 1), (8, .int .i32 ((s.data.toList.getD p 0).toNat : Int)), (22, .bool true)] [Value.bool (decide (((s.data.toList.getD p 0).toNat : Int) ≥ 224)) = Value.bool true] ⟨congrArg Value.bool (decide_eq_true (c_3)), trivial⟩ ?_
   refine nl (ct (rg (xr 5 [(26, .eq (.int .i32 ((s.data.toList.getD p 0).toNat : Int))), (27, .eq (.int .i32 (((s.data.toList.getD p 0).toNat : Int) - 224)))] [(7, .int .i64 3), (8, .int .i32 (((s.data.toList.getD p 0).toNat : Int) - 224))] [6, 22] [Value.int .i32 (IntKind.i32.wrap (((s.data.toList.getD p 0).toNat : Int))) = Value.int .i32 ((s.data.toList.getD p 0).toNat : Int), Value.int .i32 (IntKind.i32.wrap (((s.data.toList.getD p 0).toNat : Int) - 224)) = Value.int .i32 (((s.data.toList.getD p 0).toNat : Int) - 224)] ⟨wr_i32 (by omega) (by omega), wr_i32 (by omega) (by omega), trivial⟩ ?_)))
   refine nl ?_
   exact ⟨(3, ((s.data.toList.getD p 0).toNat : Int) - 224), by kernel_rfl, ⟨(by unfold U.nOf; split <;> (try split) <;> (try split) <;> omega), (by unfold U.r0Of; split <;> (try split) <;> (try split) <;> omega), (Below.refl _ _)⟩⟩
  refine xe 2 [(24, .eq (.bool false))] [(0, .string s), (1, nv p), (6, .int .u8 ((s.data.toList.getD p 0).toNat : Int)), (7, .int .i64 1), (8, .int .i32 ((s.data.toList.getD p 0).toNat : Int)), (22, .bool false)] [Value.bool (decide (((s.data.toList.getD p 0).toNat : Int) ≥ 224)) = Value.bool false] ⟨congrArg Value.bool (decide_eq_false (c_3)), trivial⟩ ?_
  refine nl (cf (sq (rg (xr0 1 [(29, .int .u8 ((s.data.toList.getD p 0).toNat : Int))] [22] ?_))))
  by_cases c_4 : ((s.data.toList.getD p 0).toNat : Int) ≥ 192
  ·refine xr 2 [(30, .eq (.bool true))] [(28, .bool true)] [29] [Value.bool (decide (((s.data.toList.getD p 0).toNat : Int) ≥ 192)) = Value.bool true] ⟨congrArg Value.bool (decide_eq_true (c_4)), trivial⟩ ?_
   refine nl (ct (rg (xr 5 [(32, .eq (.int .i32 ((s.data.toList.getD p 0).toNat : Int))), (33, .eq (.int .i32 (((s.data.toList.getD p 0).toNat : Int) - 192)))] [(7, .int .i64 2), (8, .int .i32 (((s.data.toList.getD p 0).toNat : Int) - 192))] [6, 28] [Value.int .i32 (IntKind.i32.wrap (((s.data.toList.getD p 0).toNat : Int))) = Value.int .i32 ((s.data.toList.getD p 0).toNat : Int), Value.int .i32 (IntKind.i32.wrap (((s.data.toList.getD p 0).toNat : Int) - 192)) = Value.int .i32 (((s.data.toList.getD p 0).toNat : Int) - 192)] ⟨wr_i32 (by omega) (by omega), wr_i32 (by omega) (by omega), trivial⟩ ?_)))
   refine nl ?_
   exact ⟨(2, ((s.data.toList.getD p 0).toNat : Int) - 192), by kernel_rfl, ⟨(by unfold U.nOf; split <;> (try split) <;> (try split) <;> omega), (by unfold U.r0Of; split <;> (try split) <;> (try split) <;> omega), (Below.refl _ _)⟩⟩
  refine xr 2 [(30, .eq (.bool false))] [(28, .bool false)] [29] [Value.bool (decide (((s.data.toList.getD p 0).toNat : Int) ≥ 192)) = Value.bool false] ⟨congrArg Value.bool (decide_eq_false (c_4)), trivial⟩ ?_
  refine nl (cf (X_skip ?_))
  exact ⟨(1, ((s.data.toList.getD p 0).toNat : Int)), by kernel_rfl, ⟨(by unfold U.nOf; split <;> (try split) <;> (try split) <;> omega), (by unfold U.r0Of; split <;> (try split) <;> (try split) <;> omega), (Below.refl _ _)⟩⟩
 rintro ⟨n, r⟩ wj ⟨hnn, hrr, HBj⟩
 have hn4 := U.nOf_le (s.data.toList.getD p 0).toNat
 have hr0 := U.r0_bd (s.data.toList.getD p 0).toNat hBlt
 rw [← hnn] at hn4
 rw [← hrr] at hr0
 refine sq (sq (rg (xr 5 [(36, .eq (.int .i64 ((p : Int) + (n : Int))))] [(36, .int .i64 ((p : Int) + (n : Int))), (38, .int .i64 (s.size : Int))] [] [Value.int .i64 (IntKind.i64.wrap ((p : Int) + (n : Int))) = Value.int .i64 ((p : Int) + (n : Int))] ⟨wr_i64 (by omega) (by omega), trivial⟩ ?_)))
 by_cases c_5 : (p : Int) + (n : Int) > (s.size : Int)
 ·refine xr 1 [(39, .eq (.bool true))] [(39, .bool true)] [36, 38] [Value.bool (decide ((p : Int) + (n : Int) > (s.size : Int))) = Value.bool true] ⟨congrArg Value.bool (decide_eq_true (c_5)), trivial⟩ ?_
  refine nl (ct (sq (rg (xe0 2 [(4, .int .i32 0), (5, .int .i64 0)] ?_))))
  refine nl (X_ret (rk [.int .i32 0, .int .i64 0] (hR_ _ _ ?_)))
  rw [U.first_none hbk n (by rw [hB]; exact hnn) _ rfl (fun h_ => by have h1_ := h_.1; omega)]
  exact ⟨rfl, HBj⟩
 refine xr 1 [(39, .eq (.bool false))] [(39, .bool false)] [36, 38] [Value.bool (decide ((p : Int) + (n : Int) > (s.size : Int))) = Value.bool false] ⟨congrArg Value.bool (decide_eq_false (c_5)), trivial⟩ ?_
 refine nl (cf (sk (sq (sq (rg (xr0 1 [(9, .int .i64 1)] [39] ?_))))))
 refine nl (X_block ?_)
 refine X_loop (ι := Nat × Int) (fun ⟨k, r2⟩ => [(0, .string s), (1, .int .i64 (p : Int)), (7, .int .i64 (n : Int)), (8, .int .i32 r2), (9, .int .i64 (k : Int))]) (fun ⟨k, r2⟩ wl => 1 ≤ k ∧ k ≤ n ∧ r2 = U.acc ((U.bl s).drop p) (k - 1) ∧ Below w.heap.size w wl) (fun ⟨k, r2⟩ => n - k) (1, r) ⟨by omega, by omega, by rw [hrr, ← hB]; rfl, HBj⟩ (by kernel_rfl) ?_
 rintro ⟨k, r2⟩ wl ⟨hk1, hkn, hr2, HB⟩
 have hab := U.acc_bd ((U.bl s).drop p) (k - 1) (by omega)
 rw [← hr2] at hab
 refine sq (sq (rg (xr0 2 [(40, nv k), (41, nv n)] [] ?_)))
 by_cases c_6 : (k : Int) < (n : Int)
 ·refine xr 1 [(42, .eq (.bool true))] [(42, .bool true)] [40, 41] [Value.bool (decide ((k : Int) < (n : Int))) = Value.bool true] ⟨congrArg Value.bool (decide_eq_true (c_6)), trivial⟩ ?_
  refine nl (ct (sk (sq (bk (X_region ?_)))))
  have hu_7 : (s.data.toList.getD (p + k) 0).toNat < 256 := UInt8.toNat_lt _
  refine xr 11 [(46, .eq (.int .i32 (r2 * 64))), (50, .eq (.int .i64 ((p : Int) + (k : Int)))), (51, .as (.int .u8 ((s.data.toList.getD (p + k) 0).toNat : Int))), (52, .eq (.int .i32 ((s.data.toList.getD (p + k) 0).toNat : Int))), (53, .eq (.int .i32 (((s.data.toList.getD (p + k) 0).toNat % 64 : Nat) : Int))), (54, .eq (.int .i32 ((r2 * 64) + (((s.data.toList.getD (p + k) 0).toNat % 64 : Nat) : Int))))] [(8, .int .i32 ((r2 * 64) + (((s.data.toList.getD (p + k) 0).toNat % 64 : Nat) : Int)))] [42] [Value.int .i32 (IntKind.i32.wrap (r2 * 64)) = Value.int .i32 (r2 * 64), Value.int .i64 (IntKind.i64.wrap ((p : Int) + (k : Int))) = Value.int .i64 ((p : Int) + (k : Int)), RunsAs Tryd.prog [(47, .string s), (50, .int .i64 ((p : Int) + (k : Int)))] (Go.Op.index 9 (Go.Operand.tmp 47) (Go.Operand.tmp 50)) 5 (.int .u8 ((s.data.toList.getD (p + k) 0).toNat : Int)) wl, Value.int .i32 (IntKind.i32.wrap (((s.data.toList.getD (p + k) 0).toNat : Int))) = Value.int .i32 ((s.data.toList.getD (p + k) 0).toNat : Int), Value.int .i32 (Int.tmod ((s.data.toList.getD (p + k) 0).toNat : Int) 64) = .int .i32 (((s.data.toList.getD (p + k) 0).toNat % 64 : Nat) : Int), Value.int .i32 (IntKind.i32.wrap ((r2 * 64) + (((s.data.toList.getD (p + k) 0).toNat % 64 : Nat) : Int))) = Value.int .i32 ((r2 * 64) + (((s.data.toList.getD (p + k) 0).toNat % 64 : Nat) : Int))] ⟨wr_i32 (by omega) (by omega), wr_i64 (by omega) (by omega), runs_index_s (i := (p : Int) + (k : Int)) Tryd.underlying9 rfl rfl (by omega) (by omega), wr_i32 (by omega) (by omega), tmN ((s.data.toList.getD (p + k) 0).toNat) 64, wr_i32 (by omega) (by omega), trivial⟩ ?_
  refine nl (rg (xr 3 [(44, .eq (.int .i64 ((k : Int) + 1)))] [(9, .int .i64 ((k : Int) + 1))] [] [Value.int .i64 (IntKind.i64.wrap ((k : Int) + 1)) = Value.int .i64 ((k : Int) + 1)] ⟨wr_i64 (by omega) (by omega), trivial⟩ ?_))
  refine nl ?_
  refine ⟨(k + 1, (r2 * 64) + (((s.data.toList.getD (p + k) 0).toNat % 64 : Nat) : Int)), by kernel_rfl, ?_, ?_⟩
  ·have hst := U.acc_step ((U.bl s).drop p) (k := k) (by omega)
   rw [U.g_drop, ← hr2] at hst
   exact ⟨by omega, by omega, by rw [Nat.add_sub_cancel]; exact hst.symm, HB⟩
  (try dsimp only); omega
 refine xr 1 [(42, .eq (.bool false))] [(42, .bool false)] [40, 41] [Value.bool (decide ((k : Int) < (n : Int))) = Value.bool false] ⟨congrArg Value.bool (decide_eq_false (c_6)), trivial⟩ ?_
 refine nl (cf (X_exit (sq (rg (xr0 1 [(55, .int .i32 r2)] [9, 42] ?_)))))
 refine xc 144 ent144 [.int .i32 r2] (refScalar_any r2 _) ?_
 rintro e w_8 ⟨rfl, hb_9⟩; refine ⟨_, rfl, ?_⟩
 refine xr0 1 [(10, .bool (decide (U.vz r2)))] [55, 56] ?_
 refine nl (sq (sq (X_any [4] 13 #[false, false, false, false, false, false, false, false, false, false, false, false, false] (by kernel_rfl) (by kernel_rfl) (by kernel_rfl) (fun wd_10 hb_11 hh_12 => ?_))))
 refine XA_run (fuel' := 12) [0] [] [.bool (decide (U.vz r2))] #[true, false, false, false, false, false, false, false, false, false, false, false, false] [(0, .string s), (1, .int .i64 (p : Int)), (7, .int .i64 (n : Int)), (8, .int .i32 r2), (57, .bool (decide (U.vz r2)))] [] (fun _ _ _ _ h => h) (by kernel_rfl) rfl trivial ?_
 by_cases c_13 : decide (U.vz r2) = true
 ·rw [show (decide (U.vz r2) : Bool) = true from by simpa using c_13]
  refine XA_run (fuel' := 9) [1, 2, 3] [] [.bool false, .bool false, .int .i32 r2] #[true, true, true, true, false, false, false, false, false, false, false, false, false] [(0, .string s), (1, .int .i64 (p : Int)), (7, .int .i64 (n : Int)), (8, .int .i32 r2), (59, .bool false), (60, .int .i32 r2)] [] (fun _ _ _ _ h => h) (by kernel_rfl) rfl trivial ?_
  refine XA_pure (fuel' := 3) [5, 6, 7, 8, 9, 10] [(66, .eq (.int .i64 ((p : Int) + (n : Int)))), (67, .as (.string (s.extract p (p + n))))] [.string s, .int .i64 (p : Int), .int .i64 (p : Int), .int .i64 (n : Int), .int .i64 ((p : Int) + (n : Int)), .string (s.extract p (p + n))] #[true, true, true, true, false, true, true, true, true, true, true, false, false] [(7, .int .i64 (n : Int)), (8, .int .i32 r2), (59, .bool false), (60, .int .i32 r2), (67, .string (s.extract p (p + n)))] (fun w_ => [Value.int .i64 (IntKind.i64.wrap ((p : Int) + (n : Int))) = Value.int .i64 ((p : Int) + (n : Int)), RunsAs Tryd.prog [(62, .string s), (63, .int .i64 (p : Int)), (66, .int .i64 ((p : Int) + (n : Int)))] (Go.Op.slice 9 (Go.Operand.tmp 62) (some (Go.Operand.tmp 63)) (some (Go.Operand.tmp 66)) none) 9 (.string (s.extract p (p + n))) w_]) (fun _ _ _ _ h => h) (fun w_ => by kernel_rfl) rfl (fun w_ => ⟨wr_i64 (by omega) (by omega), runs_slice_slh (i := (p : Int)) (j := (p : Int) + (n : Int)) Tryd.underlying9 rfl rfl rfl (by omega) (by omega) (by omega), trivial⟩) ?_
  refine XA_act (fuel' := 2) 4 #[true, true, true, true, true, true, true, true, true, true, true, false, false] _ rfl (by kernel_rfl) rfl (by kernel_rfl) rfl ?_
  have hvz : U.vz r2 := of_decide_eq_true c_13
  obtain ⟨m, hm⟩ := Int.eq_ofNat_of_zero_le hvz.1
  have hvm : U.vr m := by have h_ := hvz.2; rw [hm, Int.toNat_natCast] at h_; exact h_
  rw [hm]
  refine xc 145 ent145 [.int .i32 (m : Int)] (encode_any m hvm _) ?_
  rintro e w_14 ⟨rfl, hb_15⟩; refine ⟨_, rfl, ?_⟩
  refine nl ?_
  by_cases c_16 : (U.encB m) = (s.extract p (p + n))
  ·refine XA_pure (fuel' := 0) [11, 12] [(68, .eq (.bool false))] [.bool false, .bool false] #[true, true, true, true, true, true, true, true, true, true, true, true, true] [(7, .int .i64 (n : Int)), (8, .int .i32 (m : Int)), (69, .bool false)] (fun w_ => [Value.bool (!(U.encB m).toList == (s.extract p (p + n)).toList) = Value.bool false]) (fun _ _ _ _ h => h) (fun w_ => by kernel_rfl) rfl (fun w_ => ⟨congrArg Value.bool (strNeF (c_16)), trivial⟩) ?_
   refine XA_done (by kernel_rfl) ?_
   refine cf (sk (sq (rg (xe0 4 [(4, .int .i32 (m : Int)), (5, nv n)] ?_))))
   refine nl (X_ret (rk [.int .i32 (m : Int), .int .i64 (n : Int)] (hR_ _ _ ?_)))
   have hfe := (U.first_eq hbk n (by rw [hB]; exact hnn) r2 (by rw [show n - 1 = k - 1 from by omega]; exact hr2) (by omega) hvz (by rw [hm, Int.toNat_natCast, ← U.bl_encB, c_16, U.bl_extract, show p + n - p = n from by omega])).1
   rw [hm, Int.toNat_natCast] at hfe
   rw [hfe]
   exact ⟨rfl, (bt (bt (bt HB hb_9) hb_11) hb_15)⟩
  refine XA_pure (fuel' := 0) [11, 12] [(68, .eq (.bool true))] [.bool true, .bool true] #[true, true, true, true, true, true, true, true, true, true, true, true, true] [(7, .int .i64 (n : Int)), (8, .int .i32 (m : Int)), (69, .bool true)] (fun w_ => [Value.bool (!(U.encB m).toList == (s.extract p (p + n)).toList) = Value.bool true]) (fun _ _ _ _ h => h) (fun w_ => by kernel_rfl) rfl (fun w_ => ⟨congrArg Value.bool (strNeT (c_16)), trivial⟩) ?_
  refine XA_done (by kernel_rfl) ?_
  refine ct (sq (rg (xe0 2 [(4, .int .i32 0), (5, .int .i64 0)] ?_)))
  refine nl (X_ret (rk [.int .i32 0, .int .i64 0] (hR_ _ _ ?_)))
  rw [U.first_none hbk n (by rw [hB]; exact hnn) r2 (by rw [show n - 1 = k - 1 from by omega]; exact hr2) (fun h_ => c_16 (U.bl_inj (by rw [U.bl_encB, U.bl_extract, show p + n - p = n from by omega]; have h1_ := h_.2.2; rwa [hm, Int.toNat_natCast] at h1_)))]
  exact ⟨rfl, (bt (bt (bt HB hb_9) hb_11) hb_15)⟩
 rw [show (decide (U.vz r2) : Bool) = false from by simpa using c_13]
 refine XA_run (fuel' := 9) [1, 2, 3] [] [.bool true, .bool true, undef] #[true, true, true, true, false, false, false, false, false, false, false, false, false] [(0, .string s), (1, .int .i64 (p : Int)), (7, .int .i64 (n : Int)), (8, .int .i32 r2), (59, .bool true), (60, undef)] [] (fun _ _ _ _ h => h) (by kernel_rfl) rfl trivial ?_
 refine XA_pure (fuel' := 3) [5, 6, 7, 8, 9, 10] [] [undef, undef, undef, undef, undef, undef] #[true, true, true, true, false, true, true, true, true, true, true, false, false] [(7, .int .i64 (n : Int)), (8, .int .i32 r2), (59, .bool true), (60, undef), (67, undef)] (fun w_ => []) (fun _ _ _ _ h => h) (fun w_ => by kernel_rfl) rfl (fun w_ => trivial) ?_
 refine XA_pure (fuel' := 2) [4] [] [undef] #[true, true, true, true, true, true, true, true, true, true, true, false, false] [(7, .int .i64 (n : Int)), (8, .int .i32 r2), (59, .bool true), (61, undef), (67, undef)] (fun w_ => []) (fun _ _ _ _ h => h) (fun w_ => by kernel_rfl) rfl (fun w_ => trivial) ?_
 refine XA_pure (fuel' := 0) [11, 12] [] [undef, .bool true] #[true, true, true, true, true, true, true, true, true, true, true, true, true] [(7, .int .i64 (n : Int)), (8, .int .i32 r2), (69, .bool true)] (fun w_ => []) (fun _ _ _ _ h => h) (fun w_ => by kernel_rfl) rfl (fun w_ => trivial) ?_
 refine XA_done (by kernel_rfl) ?_
 refine ct (sq (rg (xe0 2 [(4, .int .i32 0), (5, .int .i64 0)] ?_)))
 refine nl (X_ret (rk [.int .i32 0, .int .i64 0] (hR_ _ _ ?_)))
 rw [U.first_none hbk n (by rw [hB]; exact hnn) r2 (by rw [show n - 1 = k - 1 from by omega]; exact hr2) (fun h_ => c_13 (decide_eq_true h_.2.1))]
 exact ⟨rfl, (bt (bt HB hb_9) hb_11)⟩
theorem head_cons (r : Nat) (rs : List Nat) : U.headP (r :: rs) = (r, (U.enc r).length) := rfl
theorem head_fit (s : ByteArray) {dn rest : List Nat} (e : U.sc s = dn ++ rest) : (U.flat dn).length + (U.headP rest).2 ≤ s.size := by
 cases hr : rest with
 | nil =>
  have h0 := U.flat_done_le s e
  have e1 : U.headP [] = (0, 0) := rfl
  rw [e1]
  simpa using h0
 | cons r rs =>
  have h := U.flat_done_le s (done := dn ++ [r]) (rest := rs) (by rw [e, hr]; simp)
  rw [U.flat_snoc] at h
  rw [head_cons]
  simp only
  exact h
theorem snoc_place (dn : List Nat) (r : Nat) (rs : List Nat) : (U.flat dn).length + (U.headP (r :: rs)).2 = (U.flat (dn ++ [(U.headP (r :: rs)).1])).length := by
 rw [head_cons]
 simp only
 exact (U.flat_snoc dn r).symm
theorem snoc_list (dn : List Nat) (r : Nat) (rs : List Nat) : dn ++ (r :: rs) = (dn ++ [(U.headP (r :: rs)).1]) ++ (r :: rs).drop 1 := by
 rw [head_cons]
 simp
set_option maxHeartbeats 2000000 in
theorem decode_any (s : ByteArray) (w : World) (hs : s.size ≤ 100000000) : Calls Tryd.prog 90 #[.string s] w fun e w' => ∃ A' c', e = .returned (.tuple #[.slice A' (U.scz s).length c', .int .i64 (U.brkAt s : Int)]) ∧ (U.scz s).length ≤ c' ∧ (Kd.int .i32).R 21 w' w.heap.size (OkFrom w.heap.size) (.slice A' (U.scz s).length c') (U.scz s) ∧ Below w.heap.size w w' := by
 have hscl := U.sc_le s
 refine RX.enter Tryd.func90 rfl 32 rfl [(0, .string s)] rfl (by kernel_rfl) (fun R_ hR_ => ?_)
 refine sq (rg (xe0 2 [(0, .string s)] ?_))
 refine nl (sq (rg (xw 1 [] [(8, .slice (some ⟨w.heap.size, 0, none⟩) 0 0)] [] (w.alloc (.cells #[] 21)) [] trivial ?_)))
 obtain ⟨w_1, hw_5, hb_2, hk_3, hz_4⟩ := new_world w #[] 21
 rw [hw_5]
 refine xr0 1 [(4, .slice (some ⟨w.heap.size, 0, none⟩) 0 0)] [8] ?_
 refine nl (sq (rg (xr0 1 [(5, .int .i64 0)] [] ?_)))
 refine nl (sq (X_block ?_))
 have hr_6 := Kd.R_litB (Kd.int .i32) (W := w) (e := 21) (cs := #[]) [] hk_3 (repsInt []) (Nat.le_of_ble_eq_true (by kernel_rfl))
 refine X_loop (ι := List Nat × List Nat × Nat × Option Addr × Nat × Nat) (fun ⟨dn, rest, p, A4, n4, c4⟩ => [(0, .string s), (4, .slice A4 n4 c4), (5, .int .i64 (p : Int))]) (fun ⟨dn, rest, p, A4, n4, c4⟩ wl => U.sc s = dn ++ rest ∧ p = (U.flat dn).length ∧ (Kd.int .i32).R 21 wl w.heap.size (OkFrom w.heap.size) (.slice A4 n4 c4) (dn.map fun (r_ : Nat) => (r_ : Int)) ∧ w.heap.size ≤ wl.heap.size ∧ Below w.heap.size w wl) (fun ⟨dn, rest, p, A4, n4, c4⟩ => rest.length) ([], U.sc s, 0, (some ⟨w.heap.size, 0, none⟩), 0, 0) ⟨rfl, rfl, hr_6, (hb_2).size, hb_2⟩ (by kernel_rfl) ?_
 rintro ⟨dn, rest, p, A4, n4, c4⟩ wl ⟨hsc, hpp, hr4, hle4, HB⟩
 have hdl := U.flat_done_le s hsc
 have hdc : dn.length ≤ (U.sc s).length := by rw [hsc, List.length_append]; omega
 have hml : (dn.map fun (r_ : Nat) => (r_ : Int)).length = dn.length := List.length_map ..
 refine sq (sq (rg (xr0 3 [(9, nv p), (11, .int .i64 (s.size : Int))] [] ?_)))
 by_cases c_7 : (p : Int) < (s.size : Int)
 ·refine xr 1 [(12, .eq (.bool true))] [(12, .bool true)] [9, 11] [Value.bool (decide ((p : Int) < (s.size : Int))) = Value.bool true] ⟨congrArg Value.bool (decide_eq_true (c_7)), trivial⟩ ?_
  refine nl (ct (sk (bk (sq (rg (xr0 2 [(14, .string s), (15, nv p)] [12] ?_))))))
  refine xc 141 ent141 [.string s, .int .i64 (p : Int)] (first_any s p rest (U.tl s) _ (by omega) (by omega) (by rw [hpp]; exact U.brk_at s hsc)) ?_
  rintro e w_8 ⟨rfl, hb_9⟩; refine ⟨_, rfl, ?_⟩
  have hh2 := head_fit s hsc
  rw [← hpp] at hh2
  refine xr0 5 [(6, .int .i32 ((U.headP rest).1 : Int)), (7, .int .i64 ((U.headP rest).2 : Int))] [14, 15, 16] ?_
  refine nl (sq (sq (rg (xr0 1 [(19, .int .i64 ((U.headP rest).2 : Int))] [] ?_))))
  by_cases c_10 : ((U.headP rest).2 : Int) = 0
  ·refine xe 1 [(20, .eq (.bool true))] [(0, .string s), (4, .slice A4 n4 c4), (5, nv p), (6, .int .i32 ((U.headP rest).1 : Int)), (7, .int .i64 ((U.headP rest).2 : Int)), (20, .bool true)] [Value.bool (((U.headP rest).2 : Int) == 0) = Value.bool true] ⟨congrArg Value.bool (beq_iff_eq.2 (c_10)), trivial⟩ ?_
   refine nl (ct (sq (rg (xe0 4 [(2, .slice A4 n4 c4), (3, nv p)] ?_))))
   refine nl (X_ret (rk [.slice A4 n4 c4, .int .i64 (p : Int)] (hR_ _ _ ?_)))
   have hre : rest = [] := U.headP_zero (by omega)
   have hdn : U.sc s = dn := by rw [hsc, hre, List.append_nil]
   have hz : U.scz s = dn.map (fun (r_ : Nat) => (r_ : Int)) := by unfold U.scz; rw [hdn]
   have hba : U.brkAt s = p := by unfold U.brkAt; rw [hdn]; exact hpp.symm
   have hn4 := (RX.Kd.R_len (Kd.R_below hr4 hb_9))
   rw [hz, hba]
   obtain rfl : n4 = (dn.map fun (r_ : Nat) => (r_ : Int)).length := hn4.1
   exact ⟨_, _, rfl, hn4.2, Kd.R_low (Kd.R_below hr4 hb_9) (Nat.le_refl _), (bt HB hb_9)⟩
  refine xe 1 [(20, .eq (.bool false))] [(0, .string s), (4, .slice A4 n4 c4), (5, nv p), (6, .int .i32 ((U.headP rest).1 : Int)), (7, .int .i64 ((U.headP rest).2 : Int)), (20, .bool false)] [Value.bool (((U.headP rest).2 : Int) == 0) = Value.bool false] ⟨congrArg Value.bool (beq_eq_false_iff_ne.2 (c_10)), trivial⟩ ?_
  refine nl (cf (sk (sq (rg (xw 3 [] [(23, .slice A4 n4 c4), (25, .slice (some ⟨w_8.heap.size, 0, none⟩) 1 1)] [4, 6, 20] (w_8.alloc (.cells #[.int .i32 ((U.headP rest).1 : Int)] 21)) [] trivial ?_)))))
  obtain ⟨w_11, hw_15, hb_12, hk_13, hz_14⟩ := new_world w_8 #[.int .i32 ((U.headP rest).1 : Int)] 21
  rw [hw_15]
  rw [← hw_15]
  refine XL_append (Kd.int .i32) rfl rfl rfl w.heap.size 21 (.int .i32 0) 4 Tryd.underlying30 info21 rfl (by decide) (by omega) (dn.map fun (r_ : Nat) => (r_ : Int)) ((U.headP rest).1 : Int) [.int .i32 ((U.headP rest).1 : Int)] (fun _ => False) (by kernel_rfl) rfl (fun _ h => h.elim) (Kd.R_below hr4 hb_9) ((bt HB hb_9)).size (by first | omega | (simp; omega)) ?_
  intro A_16 c_17 w_18 hr_19 hc_20 hg_21 hl_22 ha_23
  refine xr0 1 [(4, .slice A_16 (((dn.map fun (r_ : Nat) => (r_ : Int)) ++ [((U.headP rest).1 : Int)]).length) c_17)] [23, 25, 26] ?_
  refine nl (rg (xr 4 [(29, .eq (.int .i64 ((p : Int) + ((U.headP rest).2 : Int))))] [(5, .int .i64 ((p : Int) + ((U.headP rest).2 : Int)))] [7] [Value.int .i64 (IntKind.i64.wrap ((p : Int) + ((U.headP rest).2 : Int))) = Value.int .i64 ((p : Int) + ((U.headP rest).2 : Int))] ⟨wr_i64 (by omega) (by omega), trivial⟩ ?_))
  refine nl ?_
  have hB_24 : Below w.heap.size w w_18 := (bgo (bt HB hb_9) hg_21 hl_22 (Nat.le_refl _))
  refine ⟨(dn ++ [(U.headP rest).1], rest.drop 1, p + (U.headP rest).2, A_16, ((dn.map fun (r_ : Nat) => (r_ : Int)) ++ [((U.headP rest).1 : Int)]).length, c_17), by kernel_rfl, ?_, ?_⟩
  ·obtain ⟨r, rs, rfl⟩ : ∃ r rs, rest = r :: rs := by cases rest with | nil => exact absurd rfl c_10 | cons r rs => exact ⟨r, rs, rfl⟩
   exact ⟨by rw [hsc]; exact snoc_list dn r rs, by rw [hpp]; exact snoc_place dn r rs, by rw [List.map_append]; exact hr_19, (hB_24).size, hB_24⟩
  (try dsimp only); rw [List.length_drop]; have hrn : rest ≠ [] := (fun e_ => by subst e_; exact absurd rfl c_10); have := List.length_pos_iff.2 hrn; omega
 refine xr 1 [(12, .eq (.bool false))] [(12, .bool false)] [9, 11] [Value.bool (decide ((p : Int) < (s.size : Int))) = Value.bool false] ⟨congrArg Value.bool (decide_eq_false (c_7)), trivial⟩ ?_
 refine nl (cf (X_exit (sq (rg (xe0 4 [(2, .slice A4 n4 c4), (3, nv p)] ?_)))))
 refine nl (X_ret (rk [.slice A4 n4 c4, .int .i64 (p : Int)] (hR_ _ _ ?_)))
 have hre : rest = [] := U.done_end s hsc (by omega)
 have hdn : U.sc s = dn := by rw [hsc, hre, List.append_nil]
 have hz : U.scz s = dn.map (fun (r_ : Nat) => (r_ : Int)) := by unfold U.scz; rw [hdn]
 have hba : U.brkAt s = p := by unfold U.brkAt; rw [hdn]; exact hpp.symm
 have hn4 := (RX.Kd.R_len hr4)
 rw [hz, hba]
 obtain rfl : n4 = (dn.map fun (r_ : Nat) => (r_ : Int)).length := hn4.1
 exact ⟨_, _, rfl, hn4.2, Kd.R_low hr4 (Nat.le_refl _), HB⟩
theorem breaks_any (s : ByteArray) (w : World) (hs : s.size ≤ 100000000) : Calls Tryd.prog 88 #[.string s] w fun e w' => e = .returned (.int .i64 (U.brkAt s : Int)) ∧ Below w.heap.size w w' := by
 refine RX.enter Tryd.func88 rfl 11 rfl [(0, .string s)] rfl (by kernel_rfl) (fun R_ hR_ => ?_)
 refine sq (rg (xe0 1 [(0, .string s)] ?_))
 refine nl (sq (rg (xe0 1 [(6, .string s)] ?_)))
 refine xc 90 ent90 [.string s] (decode_any s _ (by omega)) ?_
 rintro e w_5 ⟨A_1, c_2, rfl, hl_3, hr_4, hb_6⟩; refine ⟨_, rfl, ?_⟩
 refine xe0 5 [(4, .int .i64 (U.brkAt s : Int))] ?_
 refine nl (sq (rg (xe0 2 [(2, .int .i64 (U.brkAt s : Int))] ?_)))
 refine nl (X_ret (rk [.int .i64 (U.brkAt s : Int)] (hR_ _ _ ?_)))
 exact ⟨rfl, hb_6⟩
end Go.Proofs.YtkehomiogkoomaaDoor
