import Derived.Test.YtkehomiogkoomaaDoorT33
import Derived.Test.YtkehomiogkoomaaDoorT31
import Derived.Test.YtkehomiogkoomaaDoorOver
import Derived.Test.YtkehomiogkoomaaDoorSpare
import Derived.Test.YtkehomiogkoomaaDoorMixK
import Derived.Test.YtkehomiogkoomaaDoorErr
import Derived.Test.YtkehomiogkoomaaDoorKd
/- CellsOf returns true. Conditions: sizes, the tables of utf8, the errors' variables. -/
set_option linter.unusedVariables false
set_option linter.unusedSimpArgs false
set_option maxRecDepth 100000
namespace Go.Proofs.YtkehomiogkoomaaDoor
open Go Go.RowKit Go.Proofs.YtkehomiogkoomaaDoorW.PrintWords RX
theorem cC_two {w : World} {A : Option Addr} {a b : CellA} {vs : List (List Value)} (h : (kRaw 6).C w A 2 vs) (ha : kCell.K w a (vs.getD 0 [])) (hb : kCell.K w b (vs.getD 1 [])) : kCell.C w A 2 [a, b] :=
 Kd.C_ofRaw (d := kCell) cell0 h rfl fun i hi => by
  have h2 : i = 0 ∨ i = 1 := by omega
  rcases h2 with rfl | rfl
  ·exact ha
  exact hb
set_option maxHeartbeats 4000000 in
theorem cellsLike_law (a b : CellA) (A D : Option Addr) (k d : Nat) (w : World) (hA : kAttr.C w A a.attrs.length a.attrs) (hB : kAttr.C w D b.attrs.length b.attrs) (hAk : a.attrs.length ≤ k) (hBd : b.attrs.length ≤ d) (hza : B.cellSz a) (hzb : B.cellSz b) (hT : Tabs w) (es : List Addr) (hE : ErrsO w es) : Calls Tryd.prog 14 #[.agg (c6A a (.slice A a.attrs.length k)), .agg (c6A b (.slice D b.attrs.length d))] w fun e w' => e = .returned (.bool true) ∧ Below w.heap.size w w' := by
 refine RX.enter Tryd.func14 rfl 42 rfl [(0, .agg (c6A a (.slice A a.attrs.length k))), (1, .agg (c6A b (.slice D b.attrs.length d)))] rfl (by kernel_rfl) (fun R_ hR_ => ?_)
 refine sq (rg (xwe 1 [] [(1, .agg (c6A b (.slice D b.attrs.length d))), (2, pw w.heap.size 0)] (w.alloc (.cells (c6A a (.slice A a.attrs.length k)) 126)) [] trivial ?_))
 obtain ⟨w_1, hw_5, hb_2, hk_3, hz_4⟩ := new_world w (c6A a (.slice A a.attrs.length k)) 126
 rw [hw_5]
 refine xw 1 [] [(3, pw w_1.heap.size 0)] [1] (w_1.alloc (.cells (c6A b (.slice D b.attrs.length d)) 126)) [] trivial ?_
 obtain ⟨w_6, hw_10, hb_7, hk_8, hz_9⟩ := new_world w_1 (c6A b (.slice D b.attrs.length d)) 126
 rw [hw_10]
 refine xr0 1 [] [] ?_
 refine nl (sq (rg (xc 70 ent70 [] (lives9_any _ (hT.below (bt hb_2 hb_7)) es (hE.below (bt hb_2 hb_7))) ?_)))
 rintro e w_11 ⟨rfl, hb_12⟩; refine ⟨_, rfl, ?_⟩
 refine xr0 1 [(5, .bool true)] [6] ?_
 refine nl (sq (sq (rg (xw 6 [(10, .load (.agg (c6A a (.slice A a.attrs.length k)))), (11, .load (.agg (c6A b (.slice D b.attrs.length d))))] [(9, .bool false), (12, .slice (some ⟨w_11.heap.size, 0, none⟩) 2 2)] [] (w_11.alloc (.cells #[.int .i32 a.rune, .string a.kind, .int .i64 a.vk, .int .i64 a.vn, .string a.vt, .slice A a.attrs.length k, .int .i32 b.rune, .string b.kind, .int .i64 b.vk, .int .i64 b.vn, .string b.vt, .slice D b.attrs.length d] 126)) [LoadsAs Tryd.prog 126 (⟨w.heap.size, 0, none⟩) (.agg (c6A a (.slice A a.attrs.length k))) w_11, LoadsAs Tryd.prog 126 (⟨w_1.heap.size, 0, none⟩) (.agg (c6A b (.slice D b.attrs.length d))) w_11] ⟨loadsB rfl rfl (Blk.below hk_3 (bt hb_7 hb_12)) 0 ⟨by kernel_rfl, by kernel_rfl⟩, loadsB rfl rfl (Blk.below hk_8 hb_12) 0 ⟨by kernel_rfl, by kernel_rfl⟩, trivial⟩ ?_))))
 obtain ⟨w_13, hw_17, hb_14, hk_15, hz_16⟩ := new_world w_11 #[.int .i32 a.rune, .string a.kind, .int .i64 a.vk, .int .i64 a.vn, .string a.vt, .slice A a.attrs.length k, .int .i32 b.rune, .string b.kind, .int .i64 b.vk, .int .i64 b.vn, .string b.vt, .slice D b.attrs.length d] 126
 rw [hw_17]
 have hR_18 := Kd.R_litB (kRaw 6) (W := w_11) (e := 126) (cs := #[.int .i32 a.rune, .string a.kind, .int .i64 a.vk, .int .i64 a.vn, .string a.vt, .slice A a.attrs.length k, .int .i32 b.rune, .string b.kind, .int .i64 b.vk, .int .i64 b.vn, .string b.vt, .slice D b.attrs.length d]) [(c6L a (.slice A a.attrs.length k)), (c6L b (.slice D b.attrs.length d))] hk_15 (rawL2 _ _ _ rfl rfl rfl (by kernel_rfl) (by kernel_rfl)) (Nat.le_of_ble_eq_true (by kernel_rfl))
 have hC_19 : kCell.C w_13 (some ⟨w_11.heap.size, 0, none⟩) 2 [a, b] := cC_two (Kd.R_C hR_18) (kCell_K_of (x := a) hAk (Kd.C_below hA (bt (bt (bt hb_2 hb_7) hb_12) hb_14))) (kCell_K_of (x := b) hBd (Kd.C_below hB (bt (bt (bt hb_2 hb_7) hb_12) hb_14)))
 refine xc 71 ent71 [.slice (some ⟨w_11.heap.size, 0, none⟩) 2 2] (large9_any _ _ [a, b] _ hC_19 (Nat.le_of_ble_eq_true rfl) (fun i_ hi_ => by have h_ : i_ = 0 ∨ i_ = 1 := (by simp only [List.length_cons, List.length_nil] at hi_; omega); rcases h_ with rfl | rfl; (· exact hza); (· exact hzb))) ?_
 rintro e w_20 ⟨rfl, hb_21⟩; refine ⟨_, rfl, ?_⟩
 refine xr0 1 [(14, .bool (decide (20000 < lgC [a, b])))] [9, 12, 13] ?_
 refine nl ?_
 by_cases c_22 : decide (20000 < lgC [a, b]) = true
 ·rw [show (decide (20000 < lgC [a, b]) : Bool) = true from by simpa using c_22]
  refine ct (sq (rg (xe0 2 [(4, .bool true)] ?_)))
  refine nl (X_ret (rk [.bool true] (hR_ _ _ ?_)))
  have hB_23 : Below w.heap.size w w_20 := (bt (bt (bt (bt hb_2 hb_7) hb_12) hb_14) hb_21)
  exact ⟨rfl, hB_23⟩
 rw [show (decide (20000 < lgC [a, b]) : Bool) = false from by simpa using c_22]
 refine cf (sk (sq (X_grow [] 27 #[false, false, false, false, false, false, false, false, false, false, false, false, false, false, false, false, false, false, false, false, false, false, false, false, false, false, false] (by kernel_rfl) (by kernel_rfl) (by kernel_rfl) (fun wd_24 hb_25 hh_26 => ?_))))
 refine XB_run (fuel' := 23) (Below.refl _ _) [0, 1, 3, 4] [(16, .load (.agg (c6A a (.slice A a.attrs.length k)))), (17, .load (.agg (c6A b (.slice D b.attrs.length d)))), (19, .load (.agg (c6A a (.slice A a.attrs.length k)))), (20, .load (.agg (c6A b (.slice D b.attrs.length d))))] [.agg (c6A a (.slice A a.attrs.length k)), .agg (c6A b (.slice D b.attrs.length d)), .agg (c6A a (.slice A a.attrs.length k)), .agg (c6A b (.slice D b.attrs.length d))] #[true, true, false, true, true, false, false, false, false, false, false, false, false, false, false, false, false, false, false, false, false, false, false, false, false, false, false] [(2, .pointer (some ⟨w.heap.size, 0, none⟩)), (3, .pointer (some ⟨w_1.heap.size, 0, none⟩)), (16, .agg (c6A a (.slice A a.attrs.length k))), (17, .agg (c6A b (.slice D b.attrs.length d))), (19, .agg (c6A a (.slice A a.attrs.length k))), (20, .agg (c6A b (.slice D b.attrs.length d)))] (fun w_ => [LoadsAs Tryd.prog 126 (⟨w.heap.size, 0, none⟩) (.agg (c6A a (.slice A a.attrs.length k))) w_, LoadsAs Tryd.prog 126 (⟨w_1.heap.size, 0, none⟩) (.agg (c6A b (.slice D b.attrs.length d))) w_, LoadsAs Tryd.prog 126 (⟨w.heap.size, 0, none⟩) (.agg (c6A a (.slice A a.attrs.length k))) w_, LoadsAs Tryd.prog 126 (⟨w_1.heap.size, 0, none⟩) (.agg (c6A b (.slice D b.attrs.length d))) w_]) (fun _ _ _ _ h => h) (fun w_ => by kernel_rfl) rfl (fun w_ hC_ => ⟨loadsB rfl rfl (Blk.below hk_3 (bt (bt (bt (bt (bt hb_7 hb_12) hb_14) hb_21) hb_25) hC_)) 0 ⟨by kernel_rfl, by kernel_rfl⟩, loadsB rfl rfl (Blk.below hk_8 (bt (bt (bt (bt hb_12 hb_14) hb_21) hb_25) hC_)) 0 ⟨by kernel_rfl, by kernel_rfl⟩, loadsB rfl rfl (Blk.below hk_3 (bt (bt (bt (bt (bt hb_7 hb_12) hb_14) hb_21) hb_25) hC_)) 0 ⟨by kernel_rfl, by kernel_rfl⟩, loadsB rfl rfl (Blk.below hk_8 (bt (bt (bt (bt hb_12 hb_14) hb_21) hb_25) hC_)) 0 ⟨by kernel_rfl, by kernel_rfl⟩, trivial⟩) ?_
 refine XB_mid (fuel' := 22) 2 #[true, true, true, true, true, false, false, false, false, false, false, false, false, false, false, false, false, false, false, false, false, false, false, false, false, false, false] _ rfl (by kernel_rfl) (by kernel_rfl) rfl ?_
 have hB_27 : Below w.heap.size w wd_24 := (bt (bt (bt (bt (bt hb_2 hb_7) hb_12) hb_14) hb_21) hb_25)
 refine xc 79 ent79 [.agg (c6A a (.slice A a.attrs.length k)), .agg (c6A b (.slice D b.attrs.length d))] (c9same_any a b _ _ _ _ _ (Kd.C_below hA hB_27) (Kd.C_below hB hB_27)) ?_
 rintro e w_28 ⟨rfl, hb_29⟩; refine ⟨_, rfl, ?_⟩
 refine nl ?_
 refine ⟨hb_29, ?_⟩
 refine XB_mid (fuel' := 21) 5 #[true, true, true, true, true, true, false, false, false, false, false, false, false, false, false, false, false, false, false, false, false, false, false, false, false, false, false] _ rfl (by kernel_rfl) (by kernel_rfl) rfl ?_
 refine xc 80 ent80 [.agg (c6A a (.slice A a.attrs.length k)), .agg (c6A b (.slice D b.attrs.length d))] (r9same_any a b _ _ _ _ _ (Kd.C_below hA (bt hB_27 hb_29)) (Kd.C_below hB (bt hB_27 hb_29))) ?_
 rintro e w_30 ⟨rfl, hb_31⟩; refine ⟨_, rfl, ?_⟩
 refine nl ?_
 refine ⟨(bt hb_29 hb_31), ?_⟩
 refine XB_run (fuel' := 15) (bt hb_29 hb_31) [6, 7, 8, 9, 11, 12] [(22, .eq (.bool true)), (24, .load (.agg (c6A a (.slice A a.attrs.length k)))), (25, .load (.agg (c6A b (.slice D b.attrs.length d)))), (27, .load (.agg (c6A a (.slice A a.attrs.length k)))), (28, .load (.agg (c6A b (.slice D b.attrs.length d))))] [.bool true, .bool true, .agg (c6A a (.slice A a.attrs.length k)), .agg (c6A b (.slice D b.attrs.length d)), .agg (c6A a (.slice A a.attrs.length k)), .agg (c6A b (.slice D b.attrs.length d))] #[true, true, true, true, true, true, true, true, true, true, false, true, true, false, false, false, false, false, false, false, false, false, false, false, false, false, false] [(2, .pointer (some ⟨w.heap.size, 0, none⟩)), (3, .pointer (some ⟨w_1.heap.size, 0, none⟩)), (23, .bool true), (24, .agg (c6A a (.slice A a.attrs.length k))), (25, .agg (c6A b (.slice D b.attrs.length d))), (27, .agg (c6A a (.slice A a.attrs.length k))), (28, .agg (c6A b (.slice D b.attrs.length d)))] (fun w_ => [Value.bool ((cEqP a b) == (cEqP a b)) = Value.bool true, LoadsAs Tryd.prog 126 (⟨w.heap.size, 0, none⟩) (.agg (c6A a (.slice A a.attrs.length k))) w_, LoadsAs Tryd.prog 126 (⟨w_1.heap.size, 0, none⟩) (.agg (c6A b (.slice D b.attrs.length d))) w_, LoadsAs Tryd.prog 126 (⟨w.heap.size, 0, none⟩) (.agg (c6A a (.slice A a.attrs.length k))) w_, LoadsAs Tryd.prog 126 (⟨w_1.heap.size, 0, none⟩) (.agg (c6A b (.slice D b.attrs.length d))) w_]) (fun _ _ _ _ h => h) (fun w_ => by kernel_rfl) rfl (fun w_ hC_ => ⟨congrArg Value.bool (beq_self_eq_true _), loadsB rfl rfl (Blk.below hk_3 (bt (bt (bt (bt (bt hb_7 hb_12) hb_14) hb_21) hb_25) hC_)) 0 ⟨by kernel_rfl, by kernel_rfl⟩, loadsB rfl rfl (Blk.below hk_8 (bt (bt (bt (bt hb_12 hb_14) hb_21) hb_25) hC_)) 0 ⟨by kernel_rfl, by kernel_rfl⟩, loadsB rfl rfl (Blk.below hk_3 (bt (bt (bt (bt (bt hb_7 hb_12) hb_14) hb_21) hb_25) hC_)) 0 ⟨by kernel_rfl, by kernel_rfl⟩, loadsB rfl rfl (Blk.below hk_8 (bt (bt (bt (bt hb_12 hb_14) hb_21) hb_25) hC_)) 0 ⟨by kernel_rfl, by kernel_rfl⟩, trivial⟩) ?_
 refine XB_mid (fuel' := 14) 10 #[true, true, true, true, true, true, true, true, true, true, true, true, true, false, false, false, false, false, false, false, false, false, false, false, false, false, false] _ rfl (by kernel_rfl) (by kernel_rfl) rfl ?_
 refine xc 81 ent81 [.agg (c6A a (.slice A a.attrs.length k)), .agg (c6A b (.slice D b.attrs.length d))] (c9like_any a b _ _ _ _ _ (Kd.C_below hA (bt (bt hB_27 hb_29) hb_31)) (Kd.C_below hB (bt (bt hB_27 hb_29) hb_31))) ?_
 rintro e w_32 ⟨rfl, hb_33⟩; refine ⟨_, rfl, ?_⟩
 refine nl ?_
 refine ⟨(bt (bt hb_29 hb_31) hb_33), ?_⟩
 refine XB_mid (fuel' := 13) 13 #[true, true, true, true, true, true, true, true, true, true, true, true, true, true, false, false, false, false, false, false, false, false, false, false, false, false, false] _ rfl (by kernel_rfl) (by kernel_rfl) rfl ?_
 refine xc 82 ent82 [.agg (c6A a (.slice A a.attrs.length k)), .agg (c6A b (.slice D b.attrs.length d))] (r9like_any a b _ _ _ _ _ (Kd.C_below hA (bt (bt (bt hB_27 hb_29) hb_31) hb_33)) (Kd.C_below hB (bt (bt (bt hB_27 hb_29) hb_31) hb_33))) ?_
 rintro e w_34 ⟨rfl, hb_35⟩; refine ⟨_, rfl, ?_⟩
 refine nl ?_
 refine ⟨(bt (bt (bt hb_29 hb_31) hb_33) hb_35), ?_⟩
 refine XB_run (fuel' := 8) (bt (bt (bt hb_29 hb_31) hb_33) hb_35) [14, 15, 16, 17, 18] [(30, .eq (.bool true)), (33, .load (.agg (c6A a (.slice A a.attrs.length k)))), (34, .load (.agg (c6A a (.slice A a.attrs.length k))))] [.bool true, .bool true, .bool true, .agg (c6A a (.slice A a.attrs.length k)), .agg (c6A a (.slice A a.attrs.length k))] #[true, true, true, true, true, true, true, true, true, true, true, true, true, true, true, true, true, true, true, false, false, false, false, false, false, false, false] [(3, .pointer (some ⟨w_1.heap.size, 0, none⟩)), (32, .bool true), (33, .agg (c6A a (.slice A a.attrs.length k))), (34, .agg (c6A a (.slice A a.attrs.length k)))] (fun w_ => [Value.bool ((cLike a b) == (cLike a b)) = Value.bool true, LoadsAs Tryd.prog 126 (⟨w.heap.size, 0, none⟩) (.agg (c6A a (.slice A a.attrs.length k))) w_, LoadsAs Tryd.prog 126 (⟨w.heap.size, 0, none⟩) (.agg (c6A a (.slice A a.attrs.length k))) w_]) (fun _ _ _ _ h => h) (fun w_ => by kernel_rfl) rfl (fun w_ hC_ => ⟨congrArg Value.bool (beq_self_eq_true _), loadsB rfl rfl (Blk.below hk_3 (bt (bt (bt (bt (bt hb_7 hb_12) hb_14) hb_21) hb_25) hC_)) 0 ⟨by kernel_rfl, by kernel_rfl⟩, loadsB rfl rfl (Blk.below hk_3 (bt (bt (bt (bt (bt hb_7 hb_12) hb_14) hb_21) hb_25) hC_)) 0 ⟨by kernel_rfl, by kernel_rfl⟩, trivial⟩) ?_
 refine XB_mid (fuel' := 7) 19 #[true, true, true, true, true, true, true, true, true, true, true, true, true, true, true, true, true, true, true, true, false, false, false, false, false, false, false] _ rfl (by kernel_rfl) (by kernel_rfl) rfl ?_
 have hB_36 : Below w.heap.size w w_34 := (bt (bt (bt (bt hB_27 hb_29) hb_31) hb_33) hb_35)
 refine xc 79 ent79 [.agg (c6A a (.slice A a.attrs.length k)), .agg (c6A a (.slice A a.attrs.length k))] (c9same_any a a _ _ _ _ _ (Kd.C_below hA hB_36) (Kd.C_below hA hB_36)) ?_
 rintro e w_37 ⟨rfl, hb_38⟩; refine ⟨_, rfl, ?_⟩
 rw [(cEqP_iff _ _).2 rfl]
 refine nl ?_
 have hB_39 : Below wd_24.heap.size wd_24 w_37 := (bt (bt (bt (bt hb_29 hb_31) hb_33) hb_35) hb_38)
 refine ⟨hB_39, ?_⟩
 refine XB_run (fuel' := 3) hB_39 [20, 21, 22, 23] [(38, .load (.agg (c6A b (.slice D b.attrs.length d)))), (39, .load (.agg (c6A b (.slice D b.attrs.length d))))] [.bool true, .bool true, .agg (c6A b (.slice D b.attrs.length d)), .agg (c6A b (.slice D b.attrs.length d))] #[true, true, true, true, true, true, true, true, true, true, true, true, true, true, true, true, true, true, true, true, true, true, true, true, false, false, false] [(37, .bool true), (38, .agg (c6A b (.slice D b.attrs.length d))), (39, .agg (c6A b (.slice D b.attrs.length d)))] (fun w_ => [LoadsAs Tryd.prog 126 (⟨w_1.heap.size, 0, none⟩) (.agg (c6A b (.slice D b.attrs.length d))) w_, LoadsAs Tryd.prog 126 (⟨w_1.heap.size, 0, none⟩) (.agg (c6A b (.slice D b.attrs.length d))) w_]) (fun _ _ _ _ h => h) (fun w_ => by kernel_rfl) rfl (fun w_ hC_ => ⟨loadsB rfl rfl (Blk.below hk_8 (bt (bt (bt (bt hb_12 hb_14) hb_21) hb_25) hC_)) 0 ⟨by kernel_rfl, by kernel_rfl⟩, loadsB rfl rfl (Blk.below hk_8 (bt (bt (bt (bt hb_12 hb_14) hb_21) hb_25) hC_)) 0 ⟨by kernel_rfl, by kernel_rfl⟩, trivial⟩) ?_
 refine XB_mid (fuel' := 2) 24 #[true, true, true, true, true, true, true, true, true, true, true, true, true, true, true, true, true, true, true, true, true, true, true, true, true, false, false] _ rfl (by kernel_rfl) (by kernel_rfl) rfl ?_
 refine xc 81 ent81 [.agg (c6A b (.slice D b.attrs.length d)), .agg (c6A b (.slice D b.attrs.length d))] (c9like_any b b _ _ _ _ _ (Kd.C_below hB (bt hB_36 hb_38)) (Kd.C_below hB (bt hB_36 hb_38))) ?_
 rintro e w_40 ⟨rfl, hb_41⟩; refine ⟨_, rfl, ?_⟩
 rw [cLike_self]
 refine nl ?_
 refine ⟨(bt hB_39 hb_41), ?_⟩
 refine XB_run (fuel' := 0) (bt hB_39 hb_41) [25, 26] [] [.bool true, .bool true] #[true, true, true, true, true, true, true, true, true, true, true, true, true, true, true, true, true, true, true, true, true, true, true, true, true, true, true] [(4, .bool true)] (fun w_ => []) (fun _ _ _ _ h => h) (fun w_ => by kernel_rfl) rfl (fun w_ hC_ => trivial) ?_
 refine XB_done (by kernel_rfl) ?_
 refine X_ret (rk [.bool true] (hR_ _ _ ?_))
 exact ⟨rfl, (bt (bt hB_36 hb_38) hb_41)⟩
end Go.Proofs.YtkehomiogkoomaaDoor
