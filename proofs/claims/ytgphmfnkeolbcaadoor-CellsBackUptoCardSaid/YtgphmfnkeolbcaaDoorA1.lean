import Derived.Test.YtgphmfnkeolbcaaDoorShelf
import Derived.Test.YtgphmfnkeolbcaaDoorErr
import Derived.Test.YtgphmfnkeolbcaaDoorAt
import Derived.Shelf.Unicode.DecodeLastEight
/- What scalars.next and Check answer. Conditions: the tables of utf8. -/
set_option linter.unusedVariables false
set_option linter.unusedSimpArgs false
set_option maxRecDepth 100000
namespace Go.Proofs.YtgphmfnkeolbcaaDoor
open Go Go.RowKit RX
theorem ent81 : Ent Tryd.prog 81 := ent_of Tryd.func81 (by kernel_rfl) rfl
theorem ent72 : Ent Tryd.prog 72 := ent_of Tryd.func72 (by kernel_rfl) rfl
theorem ent50 : Ent Tryd.prog 50 := ent_of Tryd.func50 (by kernel_rfl) rfl
/-- the errors that attributes' code answers -/
abbrev ErrsA (w : World) (es : List Addr) : Prop := ErrsOn [1, 5, 6, 7, 8, 10] w es
abbrev Tabs (w : World) : Prop := Lib.Utf8Tabs 19 20 w
/-- what next answers -/
def nextP (s : ByteArray) : Nat × Nat := if (Lib.decodeGo s).1 = 65533 ∧ (Lib.decodeGo s).2 < 2 then (0, 0) else Lib.decodeGo s
theorem next_any (s : ByteArray) (w : World) (hT : Tabs w) : Calls Tryd.prog 72 #[.string s] w fun e w' => e = .returned (.tuple #[.int .i32 ((nextP s).1 : Int), .int .i64 ((nextP s).2 : Int)]) ∧ Below w.heap.size w w' := by
 refine RX.enter Tryd.func72 rfl 19 rfl [(0, .string s)] rfl (by kernel_rfl) (fun R_ hR_ => ?_)
 refine sq (rg (xe0 2 [(0, .string s)] ?_))
 refine nl (sq (rg (xe0 1 [(7, .string s)] ?_)))
 refine xc 81 ent81 [.string s] (Tryd.utf8_DecodeRuneInString s _ hT) ?_
 rintro e w_1 ⟨rfl, hb_2⟩; refine ⟨_, rfl, ?_⟩
 refine xe0 5 [(4, .int .i32 ((Lib.decodeGo s).1 : Int)), (5, .int .i64 ((Lib.decodeGo s).2 : Int))] ?_
 refine nl (sq (sq (rg (xr0 1 [(11, .int .i32 ((Lib.decodeGo s).1 : Int))] [] ?_))))
 by_cases c_3 : ((Lib.decodeGo s).1 : Int) = 65533
 ·refine xr 3 [(12, .eq (.bool true))] [(13, .bool true), (14, .int .i64 ((Lib.decodeGo s).2 : Int))] [11] [Value.bool (((Lib.decodeGo s).1 : Int) == 65533) = Value.bool true] ⟨congrArg Value.bool (beq_iff_eq.2 (c_3)), trivial⟩ ?_
  by_cases c_4 : ((Lib.decodeGo s).2 : Int) < 2
  ·refine xr 2 [(15, .eq (.bool true))] [(16, .bool true)] [13, 14] [Value.bool (decide (((Lib.decodeGo s).2 : Int) < 2)) = Value.bool true] ⟨congrArg Value.bool (decide_eq_true (c_4)), trivial⟩ ?_
   refine nl (ct (sq (rg (xe0 2 [(2, .int .i32 0), (3, .int .i64 0)] ?_))))
   refine nl (X_ret (rk [.int .i32 0, .int .i64 0] (hR_ _ _ ?_)))
   rw [show nextP s = (0, 0) from if_pos (by omega)]
   exact ⟨rfl, hb_2⟩
  refine xr 2 [(15, .eq (.bool false))] [(16, .bool false)] [13, 14] [Value.bool (decide (((Lib.decodeGo s).2 : Int) < 2)) = Value.bool false] ⟨congrArg Value.bool (decide_eq_false (c_4)), trivial⟩ ?_
  refine nl (cf (sk (sq (rg (xe0 4 [(2, .int .i32 ((Lib.decodeGo s).1 : Int)), (3, .int .i64 ((Lib.decodeGo s).2 : Int))] ?_)))))
  refine nl (X_ret (rk [.int .i32 ((Lib.decodeGo s).1 : Int), .int .i64 ((Lib.decodeGo s).2 : Int)] (hR_ _ _ ?_)))
  rw [show nextP s = Lib.decodeGo s from if_neg (by omega)]
  exact ⟨rfl, hb_2⟩
 refine xr 5 [(12, .eq (.bool false))] [(16, .bool false)] [11] [Value.bool (((Lib.decodeGo s).1 : Int) == 65533) = Value.bool false] ⟨congrArg Value.bool (beq_eq_false_iff_ne.2 (c_3)), trivial⟩ ?_
 refine nl (cf (sk (sq (rg (xe0 4 [(2, .int .i32 ((Lib.decodeGo s).1 : Int)), (3, .int .i64 ((Lib.decodeGo s).2 : Int))] ?_)))))
 refine nl (X_ret (rk [.int .i32 ((Lib.decodeGo s).1 : Int), .int .i64 ((Lib.decodeGo s).2 : Int)] (hR_ _ _ ?_)))
 rw [show nextP s = Lib.decodeGo s from if_neg (by omega)]
 exact ⟨rfl, hb_2⟩
theorem Tabs.below {w w1 : World} (h : Tabs w) (hb : Below w.heap.size w w1) : Tabs w1 :=
 ⟨fun c hc => (hb.cell (World.block_lt_of_cell? _ _ (h.1 c hc))).trans (h.1 c hc), fun i hi => ⟨(hb.cell (World.block_lt_of_cell? _ _ (h.2 i hi).1)).trans (h.2 i hi).1, (hb.cell (World.block_lt_of_cell? _ _ (h.2 i hi).2)).trans (h.2 i hi).2⟩⟩
theorem nextP_le (s : ByteArray) : (nextP s).2 ≤ s.size := by
 unfold nextP
 split
 ·exact Nat.zero_le _
 exact Go.Lib.decodeGo_le_size s
/-- from byte number k on: where s is no UTF-8 any more; whether it is to its end -/
def uloop (s : ByteArray) : Nat → Nat → Nat × Bool
 | 0, k => (k, true)
 | f + 1, k => if k < s.size then (if (nextP (s.extract k s.size)).2 = 0 then (k, false) else uloop s f (k + (nextP (s.extract k s.size)).2)) else (k, true)
def uchk (s : ByteArray) : Nat × Bool := uloop s s.size 0
theorem uloop_fuel (s : ByteArray) : ∀ (f g k : Nat), s.size - k ≤ f → s.size - k ≤ g → uloop s f k = uloop s g k
 | 0, 0, k, _, _ => rfl
 | 0, g + 1, k, h, _ => by simp only [uloop]; rw [if_neg (by omega)]
 | f + 1, 0, k, _, h => by simp only [uloop]; rw [if_neg (by omega)]
 | f + 1, g + 1, k, h1, h2 => by
  simp only [uloop]
  split
  ·split
   ·rfl
   exact uloop_fuel s f g _ (by omega) (by omega)
  rfl
theorem uloop_step (s : ByteArray) (k : Nat) (h : k < s.size) (h0 : (nextP (s.extract k s.size)).2 ≠ 0) : uloop s s.size k = uloop s s.size (k + (nextP (s.extract k s.size)).2) := by
 rw [uloop_fuel s s.size (s.size + 1) k (by omega) (by omega)]
 simp only [uloop]
 rw [if_pos h, if_neg h0]
theorem uloop_bad (s : ByteArray) (k : Nat) (h : k < s.size) (h0 : (nextP (s.extract k s.size)).2 = 0) : uloop s s.size k = (k, false) := by
 rw [uloop_fuel s s.size (s.size + 1) k (by omega) (by omega)]
 simp only [uloop]
 rw [if_pos h, if_pos h0]
theorem uloop_end (s : ByteArray) (k : Nat) (h : ¬ k < s.size) : uloop s s.size k = (k, true) := by
 rw [uloop_fuel s s.size (s.size + 1) k (by omega) (by omega)]
 simp only [uloop]
 rw [if_neg h]
/-- what scalars.Check answers -/
theorem scheck_any (s : ByteArray) (w : World) (hs : s.size ≤ 9223372036854775807) (hT : Tabs w) (es : List Addr) (hE : ErrsA w es) : Calls Tryd.prog 50 #[.string s] w fun e w' => e = .returned (.tuple #[.int .i64 ((uchk s).1 : Int), errV es (if (uchk s).2 then 0 else 1)]) ∧ Below w.heap.size w w' := by
 refine RX.enter Tryd.func50 rfl 26 rfl [(0, .string s)] rfl (by kernel_rfl) (fun R_ hR_ => ?_)
 refine sq (rg (xe0 2 [(0, .string s)] ?_))
 refine nl (sq (rg (xr0 1 [(4, .int .i64 0)] [] ?_)))
 refine nl (sq (bk (X_loop (ι := Nat) (fun k => [(0, .string s), (4, .int .i64 (k : Int))]) (fun k wl => k ≤ s.size ∧ uloop s s.size k = uchk s ∧ Below w.heap.size w wl) (fun k => s.size - k) 0 ⟨by omega, rfl, (Below.refl _ _)⟩ (by kernel_rfl) ?_)))
 rintro k wl ⟨hk, hk2, HB⟩
 refine sq (sq (rg (xr0 3 [(7, nv k), (9, .int .i64 (s.size : Int))] [] ?_)))
 by_cases c_1 : (k : Int) < (s.size : Int)
 ·refine xr 1 [(10, .eq (.bool true))] [(10, .bool true)] [7, 9] [Value.bool (decide ((k : Int) < (s.size : Int))) = Value.bool true] ⟨congrArg Value.bool (decide_eq_true (c_1)), trivial⟩ ?_
  refine nl (ct (sk (bk (sq (rg (xr 3 [(14, .as (.string (s.extract k s.size)))] [(14, .string (s.extract k s.size))] [10] [RunsAs Tryd.prog [(12, .string s), (13, .int .i64 (k : Int))] (Go.Op.slice 9 (Go.Operand.tmp 12) (some (Go.Operand.tmp 13)) none none) 9 (.string (s.extract k s.size)) wl] ⟨runs_slice_sl (h := (k : Int)) Tryd.underlying9 rfl rfl (by omega) (by omega), trivial⟩ ?_))))))
  have hn := nextP_le (s.extract k s.size)
  have hz : (s.extract k s.size).size = s.size - k := by simp
  refine xc 72 ent72 [.string (s.extract k s.size)] (next_any (s.extract k s.size) _ (hT.below HB)) ?_
  rintro e w_2 ⟨rfl, hb_3⟩; refine ⟨_, rfl, ?_⟩
  refine xr0 5 [(6, .int .i64 ((nextP (s.extract k s.size)).2 : Int))] [14, 15] ?_
  refine nl (sq (sq (rg (xr0 1 [(18, .int .i64 ((nextP (s.extract k s.size)).2 : Int))] [] ?_))))
  by_cases c_4 : ((nextP (s.extract k s.size)).2 : Int) = 0
  ·refine xe 1 [(19, .eq (.bool true))] [(0, .string s), (4, nv k), (6, .int .i64 ((nextP (s.extract k s.size)).2 : Int)), (19, .bool true)] [Value.bool (((nextP (s.extract k s.size)).2 : Int) == 0) = Value.bool true] ⟨congrArg Value.bool (beq_iff_eq.2 (c_4)), trivial⟩ ?_
   refine nl (ct (sq (X_still (by kernel_rfl) (by kernel_rfl) (fun wd_5 hb_6 hh_7 => ?_))))
   refine xse 4 [(21, .load (.iface 164 (.pointer (some (errAt es 1)))))] [(2, .int .i64 (k : Int)), (3, .iface 164 (.pointer (some (errAt es 1))))] [LoadsAs Tryd.prog 30 (⟨2, 0, none⟩) (.iface 164 (.pointer (some (errAt es 1)))) wd_5] ⟨loads1 rfl (((bt (bt HB hb_3) hb_6).cell (World.block_lt_of_cell? _ _ (hE.load 1 2 (by decide) (by decide) rfl))).trans (hE.load 1 2 (by decide) (by decide) rfl)), trivial⟩ ?_
   refine XS_nil ?_
   refine X_ret (rk [.int .i64 (k : Int), .iface 164 (.pointer (some (errAt es 1)))] (hR_ _ _ ?_))
   rw [← hk2, uloop_bad s k (by omega) (by omega)]
   exact ⟨rfl, (bt (bt HB hb_3) hb_6)⟩
  refine xe 1 [(19, .eq (.bool false))] [(0, .string s), (4, nv k), (6, .int .i64 ((nextP (s.extract k s.size)).2 : Int)), (19, .bool false)] [Value.bool (((nextP (s.extract k s.size)).2 : Int) == 0) = Value.bool false] ⟨congrArg Value.bool (beq_eq_false_iff_ne.2 (c_4)), trivial⟩ ?_
  refine nl (cf (sk (rg (xr 4 [(24, .eq (.int .i64 ((k : Int) + ((nextP (s.extract k s.size)).2 : Int))))] [(4, .int .i64 ((k : Int) + ((nextP (s.extract k s.size)).2 : Int)))] [6, 19] [Value.int .i64 (IntKind.i64.wrap ((k : Int) + ((nextP (s.extract k s.size)).2 : Int))) = Value.int .i64 ((k : Int) + ((nextP (s.extract k s.size)).2 : Int))] ⟨wr_i64 (by omega) (by omega), trivial⟩ ?_))))
  refine nl ?_
  refine ⟨(k + (nextP (s.extract k s.size)).2), by kernel_rfl, ?_, ?_⟩
  ·exact ⟨by omega, by rw [← hk2]; exact (uloop_step s k (by omega) (by omega)).symm, (bt HB hb_3)⟩
  (try dsimp only); omega
 refine xr 1 [(10, .eq (.bool false))] [(10, .bool false)] [7, 9] [Value.bool (decide ((k : Int) < (s.size : Int))) = Value.bool false] ⟨congrArg Value.bool (decide_eq_false (c_1)), trivial⟩ ?_
 refine nl (cf (X_exit (sq (rg (xe0 3 [(2, nv k), (3, .nilIface)] ?_)))))
 refine nl (X_ret (rk [.int .i64 (k : Int), .nilIface] (hR_ _ _ ?_)))
 rw [← hk2, uloop_end s k (by omega)]
 exact ⟨rfl, HB⟩
end Go.Proofs.YtgphmfnkeolbcaaDoor
