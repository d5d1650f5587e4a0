/- What scalars.Len, at, Cut, At, Width, Text, List and Pair answer. Conditions: sizes, the tables of utf8, the errors' variables. -/
import Derived.Test.YtkehomiogkoomaaDoorUtf3
import Derived.Test.YtkehomiogkoomaaDoorStr
import Derived.Test.YtkehomiogkoomaaDoorAn
set_option linter.unusedVariables false
set_option linter.unusedSimpArgs false
set_option maxRecDepth 100000
namespace Go.Proofs.YtkehomiogkoomaaDoor
open Go Go.RowKit Go.Proofs.YtkehomiogkoomaaDoorW.PrintWords RX
theorem ent21 : Ent Tryd.prog 21 := ent_of Tryd.func21 (by kernel_rfl) rfl
theorem ent91 : Ent Tryd.prog 91 := ent_of Tryd.func91 (by kernel_rfl) rfl
theorem ent92 : Ent Tryd.prog 92 := ent_of Tryd.func92 (by kernel_rfl) rfl
theorem len_any (s : ByteArray) (w : World) (hs : s.size ≤ 1000000000) (hT : Tabs w) (es : List Addr) (hE : ErrsA w es) : Calls Tryd.prog 21 #[.string s] w fun e w' => e = .returned (.tuple #[.int .i64 ((U.lenP s).1 : Int), errV es (U.lenP s).2]) ∧ Below w.heap.size w w' := by
 refine RX.enter Tryd.func21 rfl 10 rfl [(0, .string s)] rfl (by kernel_rfl) (fun R_ hR_ => ?_)
 refine sq (rg (xe0 2 [(0, .string s)] ?_))
 refine nl (sq (sq (rg (xr0 1 [(4, .string s)] [] ?_))))
 refine xc 91 ent91 [.string s] (Tryd.utf8_ValidString s _ (by omega) (hT.below (Below.refl _ _))) ?_
 rintro e w_1 ⟨rfl, hb_2⟩; refine ⟨_, rfl, ?_⟩
 rw [U.valid_utf]
 by_cases c_3 : decide (U.tl s = []) = true
 ·rw [show (decide (U.tl s = []) : Bool) = true from by simpa using c_3]
  refine xr0 1 [(6, .bool false)] [4, 5] ?_
  refine nl (cf (sk (sq (rg (xe0 1 [(8, .string s)] ?_)))))
  refine xc 92 ent92 [.string s] (Tryd.utf8_RuneCountInString s _ (by omega)) ?_
  rintro e w_4 ⟨rfl, pos_5, hw_6⟩; refine ⟨_, rfl, ?_⟩
  have hb_7 : Below w_1.heap.size w_1 w_4 := by rw [hw_6]; exact (Below.refl _ _).alloc (Nat.le_refl _) _
  rw [U.count_utf (of_decide_eq_true (p := U.tl s = []) c_3)]
  refine xe0 2 [(2, .int .i64 ((U.sc s).length : Int)), (3, .nilIface)] ?_
  refine nl (X_ret (rk [.int .i64 ((U.sc s).length : Int), .nilIface] (hR_ _ _ ?_)))
  rw [show U.lenP s = ((U.sc s).length, 0) from if_pos (of_decide_eq_true (p := U.tl s = []) c_3)]
  exact ⟨rfl, (bt hb_2 hb_7)⟩
 rw [show (decide (U.tl s = []) : Bool) = false from by simpa using c_3]
 refine xr0 1 [(6, .bool true)] [4, 5] ?_
 refine nl (ct (sq (X_still (by kernel_rfl) (by kernel_rfl) (fun wd_8 hb_9 hh_10 => ?_))))
 refine xse 3 [(7, .load (.iface 235 (.pointer (some (errAt es 1)))))] [(2, .int .i64 0), (3, .iface 235 (.pointer (some (errAt es 1))))] [LoadsAs Tryd.prog 24 (⟨0, 0, none⟩) (.iface 235 (.pointer (some (errAt es 1)))) wd_8] ⟨loads1 rfl (((bt hb_2 hb_9).cell (World.block_lt_of_cell? _ _ (hE.load 1 0 (by decide) (by decide) rfl))).trans (hE.load 1 0 (by decide) (by decide) rfl)), trivial⟩ ?_
 refine XS_nil ?_
 refine X_ret (rk [.int .i64 0, .iface 235 (.pointer (some (errAt es 1)))] (hR_ _ _ ?_))
 rw [show U.lenP s = (0, 1) from if_neg (of_decide_eq_false (p := U.tl s = []) (Bool.eq_false_iff.2 c_3))]
 exact ⟨rfl, (bt hb_2 hb_9)⟩
end Go.Proofs.YtkehomiogkoomaaDoor
