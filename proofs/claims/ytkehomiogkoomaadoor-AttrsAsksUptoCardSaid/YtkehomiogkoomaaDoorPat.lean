import Derived.Test.YtkehomiogkoomaaDoorIn
import Derived.Test.YtkehomiogkoomaaDoorHand
import Derived.Test.YtkehomiogkoomaaDoorR1
import Derived.Test.YtkehomiogkoomaaDoorStr
import Derived.Test.YtkehomiogkoomaaDoorPatch
import Derived.Test.YtkehomiogkoomaaDoorOp2
/- Iterators: what they go over as a list; marks; what lies below a bound stays. No condition. -/

set_option linter.unusedVariables false
set_option linter.unusedSimpArgs false
namespace Go.Proofs.YtkehomiogkoomaaDoor
open Go Go.RowKit Go.Proofs.YtkehomiogkoomaaDoorW.PrintWords RX
namespace RX
theorem Fr.mark {N : Nat} {l : Slots} {a : Act} (h0 : lookS l dk = none) (h : Fr N l a) : Fr N ((dk, encD []) :: l) a :=
  ⟨h.size, h.lt, by
    have e1 := h.defers
    have e2 : dsOf l = [] := by unfold dsOf; rw [h0]
    have e3 : dsOf ((dk, encD []) :: l) = [] := by unfold dsOf; rw [lookS_eq]; rfl
    rw [e1, e2, e3], fun i v hv => by
    obtain ⟨hi, hv⟩ := look_some hv
    rw [lookS_ne hi] at hv
    exact h.at_ i v (by rw [look_of hi]; exact hv)⟩
theorem dsOf_enc {l : Slots} {ds : List Nat} (h : lookS l dk = some (encD ds)) : dsOf l = ds.map mkD := by unfold dsOf; rw [h]; exact decD_enc ds
theorem X_mark0 {P : Program} {N : Nat} {c : Code} {qs : QS} {l : Slots} {w : World} (h0 : lookS l dk = none) (h : X P N c qs ((dk, encD []) :: l) w) : X P N c qs l w := fun a ha => h a (ha.mark h0)
end RX
theorem bel_lo {n : Nat} {a b : World} (h : Below a.heap.size a b) (hn : n ≤ a.heap.size) : Below n a b := ⟨h.os, h.tape, h.output, h.size, fun k hk => h.block k (Nat.lt_of_lt_of_le hk hn)⟩
theorem bel_st {n g : Nat} {a b : World} (h : a.grownBy b (some g)) (hn : n ≤ a.heap.size) (hg : n ≤ g) : Below n a b := ⟨h.os, h.tape, h.output, h.size, fun k hk => h.block k (Nat.lt_of_lt_of_le hk hn) (fun e => by injection e with e; omega)⟩
/-- J abides a world that has grown -/
theorem abides_below {β : Type} {B : Nat} {J : β → World → Prop} (h : AbidesFrom B J) {s : β} {W W' : World} (hb : Below W.heap.size W W') (hj : J s W) : J s W' := h s W W' none hj (grown_of_below hb none) (fun r e => by cases e)
section
variable {α : Type} {m : Nat} {f : Nat → α} {pre : List α} {x : α}
end
end Go.Proofs.YtkehomiogkoomaaDoor
/- The reference of layer build: single operations, lengths. Conditions: sizes, the tables of utf8, the errors' variables. -/
set_option linter.unusedVariables false
set_option linter.unusedSimpArgs false
set_option maxRecDepth 100000
namespace Go.Proofs.YtkehomiogkoomaaDoor
open Go Go.RowKit Go.Proofs.YtkehomiogkoomaaDoorW.PrintWords RX
def insO (o : OpA) : Prop := o.kind = 1 ∨ o.kind = 2
instance (o : OpA) : Decidable (insO o) := by unfold insO; exact inferInstance
end Go.Proofs.YtkehomiogkoomaaDoor
/- The reference's joins of patches, as the same plain functions. Plain lists, no program. No condition. -/

set_option linter.unusedVariables false
set_option linter.unusedSimpArgs false
namespace Go.Proofs.YtkehomiogkoomaaDoor
open Go RX

/-! ### a key's value -/
def gv (xs : List At) (k : ByteArray) : Int × Int × ByteArray := (get xs k).elim (0, 0, ByteArray.empty) (·.2)
theorem get_at {xs : List At} {k : ByteArray} : ∀ {i : Nat}, i < xs.length → (∀ j, j < i → ¬ (xs.getD j at0).1 = k) → (xs.getD i at0).1 = k → get xs k = some (xs.getD i at0) := by
  induction xs with
  | nil => intro i h; simp at h
  | cons x xs ih =>
    intro i hi h1 h2
    rw [get_cons]
    cases i with
    | zero =>
      replace h2 : x.1 = k := h2
      rw [if_pos h2]; rfl
    | succ i =>
      have h0 : ¬ x.1 = k := h1 0 (by omega)
      rw [if_neg h0, ih (i := i) (by simpa using hi) (fun j hj => h1 (j + 1) (by omega)) h2]
      rfl
theorem get_end {xs : List At} {k : ByteArray} (h : ∀ j, j < xs.length → ¬ (xs.getD j at0).1 = k) : get xs k = none := by
  unfold get
  rw [List.find?_eq_none]
  intro x hx
  obtain ⟨j, hj, e⟩ := List.getElem_of_mem hx
  have := h j hj
  rw [getD_at xs j hj, e] at this
  simpa using this
end Go.Proofs.YtkehomiogkoomaaDoor
/- What vellumref03.Patched answers. Conditions: sizes, lengths. -/
set_option linter.unusedVariables false
set_option linter.unusedSimpArgs false
set_option maxRecDepth 100000
namespace Go.Proofs.YtkehomiogkoomaaDoor
open Go Go.RowKit Go.Proofs.YtkehomiogkoomaaDoorW.PrintWords RX
theorem ent37 : Ent Tryd.prog 37 := ent_of Tryd.func37 (by kernel_rfl) rfl
theorem has_any (A : Option Addr) (c : Nat) (xs : List At) (k : ByteArray) (w : World) (hx : kAttr.C w A xs.length xs) :
  Calls Tryd.prog 37 #[.slice A xs.length c, .string k] w fun e w' => e = .returned (.tuple #[.agg #[.int .i64 (gv xs k).1, .int .i64 (gv xs k).2.1, .string (gv xs k).2.2], .bool (get xs k).isSome]) ∧ Below w.heap.size w w' := by
 have hpl : xs.length ≤ 9223372036854775807 := hx.2.1
 refine RX.enter Tryd.func37 rfl 22 rfl [(0, .slice A xs.length c), (1, .string k)] rfl (by kernel_rfl) (fun R_ hR_ => ?_)
 refine sq (rg (xwe 1 [] [(0, .slice A xs.length c), (1, .string k), (4, pw w.heap.size 0)] (w.alloc (.cells #[.int .i64 0, .int .i64 0, .string ByteArray.empty] 44)) [] trivial ?_))
 obtain ⟨w_1, hw_5, hb_2, hk_3, hz_4⟩ := new_world w #[.int .i64 0, .int .i64 0, .string ByteArray.empty] 44
 rw [hw_5]
 refine xr0 1 [] [] ?_
 refine nl (sq (sq (rg (xr0 3 [(8, .slice A xs.length c), (9, .int .i64 (xs.length : Int)), (10, .int .i64 0)] [0] ?_))))
 refine nl (bk (X_loop (ι := Nat) (fun i => [(1, .string k), (4, .pointer (some ⟨w.heap.size, 0, none⟩)), (8, .slice A xs.length c), (9, .int .i64 (xs.length : Int)), (10, .int .i64 (i : Int))]) (fun i wl => i ≤ xs.length ∧ (∀ j, j < i → ¬ (xs.getD j at0).1 = k) ∧ Below w_1.heap.size w_1 wl) (fun i => xs.length - i) 0 ⟨by omega, fun j hj => by omega, Below.refl _ _⟩ (by kernel_rfl) ?_))
 rintro i wl ⟨hi, hq, HB⟩
 refine sq (X_region ?_)
 by_cases c_6 : (i : Int) < (xs.length : Int)
 ·refine xr 1 [(11, .eq (.bool true))] [(11, .bool true)] [] [Value.bool (decide ((i : Int) < (xs.length : Int))) = Value.bool true] ⟨congrArg Value.bool (decide_eq_true (c_6)), trivial⟩ ?_
  refine nl (sq (ct (sk (sq (bk (sq (X_region ?_)))))))
  obtain ⟨ad_7, ha_8, hc_9⟩ := Kd.atAttr (Kd.C_below hx (bt hb_2 HB)) (i := (i : Int)) (by omega) (by omega)
  replace hc_9 : CellsAt wl (ad_7.add ((i : Int).toNat * 4)) [.string ((xs.getD i at0).1), .int .i64 ((xs.getD i at0).2.1), .int .i64 ((xs.getD i at0).2.2.1), .string ((xs.getD i at0).2.2.2)] := hc_9
  refine xw 3 [(12, .idx ad_7), (13, .load (.agg #[.string ((xs.getD i at0).1), .int .i64 ((xs.getD i at0).2.1), .int .i64 ((xs.getD i at0).2.2.1), .string ((xs.getD i at0).2.2.2)]))] [(7, pw wl.heap.size 0), (13, .agg #[.string ((xs.getD i at0).1), .int .i64 ((xs.getD i at0).2.1), .int .i64 ((xs.getD i at0).2.2.1), .string ((xs.getD i at0).2.2.2)])] [11] (wl.alloc (.cells #[.string ByteArray.empty, .int .i64 0, .int .i64 0, .string ByteArray.empty] 71)) [A = some ad_7, (0 : Int) ≤ (i : Int), (i : Int) < (xs.length : Int), LoadsAs Tryd.prog 71 (ad_7.add ((i : Int).toNat * 4)) (.agg #[.string ((xs.getD i at0).1), .int .i64 ((xs.getD i at0).2.1), .int .i64 ((xs.getD i at0).2.2.1), .string ((xs.getD i at0).2.2.2)]) wl] ⟨ha_8, (by omega), (by omega), loadsE rfl rfl hc_9 0 ⟨by kernel_rfl, by kernel_rfl⟩, trivial⟩ ?_
  obtain ⟨w_10, hw_14, hb_11, hk_12, hz_13⟩ := new_world wl #[.string ByteArray.empty, .int .i64 0, .int .i64 0, .string ByteArray.empty] 71
  rw [hw_14]
  refine xst (.agg #[.string ((xs.getD i at0).1), .int .i64 ((xs.getD i at0).2.1), .int .i64 ((xs.getD i at0).2.2.1), .string ((xs.getD i at0).2.2.2)]) hk_12 0 #[.string ((xs.getD i at0).1), .int .i64 ((xs.getD i at0).2.1), .int .i64 ((xs.getD i at0).2.2.1), .string ((xs.getD i at0).2.2.2)] (fun w_15 hg_16 hk_17 hz_18 => ?_)
  refine nl (sq (rg (xr 3 [(15, .load (.string ((xs.getD i at0).1)))] [(15, .string ((xs.getD i at0).1)), (16, .string k)] [13] [LoadsAs Tryd.prog 9 (⟨wl.heap.size, 0, none⟩) (.string ((xs.getD i at0).1)) w_15] ⟨loads1 rfl (Blk.cell hk_17 0 _ rfl), trivial⟩ ?_)))
  by_cases c_19 : ((xs.getD i at0).1) = k
  ·refine xr 1 [(17, .eq (.bool true))] [(17, .bool true)] [15, 16] [Value.bool (((xs.getD i at0).1).toList == k.toList) = Value.bool true] ⟨congrArg Value.bool (strEqT (c_19)), trivial⟩ ?_
   refine nl (ct (sq (rg (xr 2 [(19, .load (.agg #[.int .i64 ((xs.getD i at0).2.1), .int .i64 ((xs.getD i at0).2.2.1), .string ((xs.getD i at0).2.2.2)]))] [(19, .agg #[.int .i64 ((xs.getD i at0).2.1), .int .i64 ((xs.getD i at0).2.2.1), .string ((xs.getD i at0).2.2.2)])] [1, 7, 8, 9, 10, 17] [LoadsAs Tryd.prog 44 (⟨wl.heap.size, 1, none⟩) (.agg #[.int .i64 ((xs.getD i at0).2.1), .int .i64 ((xs.getD i at0).2.2.1), .string ((xs.getD i at0).2.2.2)]) w_15] ⟨loadsB rfl rfl hk_17 1 ⟨by kernel_rfl, by kernel_rfl⟩, trivial⟩ ?_))))
   refine xst (.agg #[.int .i64 ((xs.getD i at0).2.1), .int .i64 ((xs.getD i at0).2.2.1), .string ((xs.getD i at0).2.2.2)]) (Blk.below hk_3 (bg (bt HB hb_11) hg_16 (HB).size)) 0 #[.int .i64 ((xs.getD i at0).2.1), .int .i64 ((xs.getD i at0).2.2.1), .string ((xs.getD i at0).2.2.2)] (fun w_20 hg_21 hk_22 hz_23 => ?_)
   have hne_24 : wl.heap.size ≠ w.heap.size := Nat.ne_of_gt (Nat.lt_of_lt_of_le (Blk.lt hk_3) (HB).size)
   have hk_25 := Blk.other hk_17 hg_21 hne_24
   refine xe0 1 [(4, pw w.heap.size 0), (5, .bool true)] ?_
   refine nl (X_ret (RX.ret_cellT (P := Tryd.prog) (fn := Tryd.f37) (N := 22) (R := R_) (c := 4) (t := 44) (p := ⟨w.heap.size, 0, none⟩) (v := .agg #[.int .i64 ((xs.getD i at0).2.1), .int .i64 ((xs.getD i at0).2.2.1), .string ((xs.getD i at0).2.2.2)]) (b := 5) (u := .bool true) rfl rfl (loadsB rfl rfl hk_22 0 ⟨by kernel_rfl, by kernel_rfl⟩) rfl (hR_ _ _ ?_)))
   have hg := get_at (show i < xs.length from by omega) hq c_19
   have hB_26 : Below w.heap.size w w_20 := (bg (bg (bt (bt hb_2 HB) hb_11) hg_16 ((bt hb_2 HB)).size) hg_21 (Nat.le_refl _))
   refine ⟨?_, hB_26⟩
   unfold gv; rw [hg]; rfl
  refine xr 1 [(17, .eq (.bool false))] [(17, .bool false)] [15, 16] [Value.bool (((xs.getD i at0).1).toList == k.toList) = Value.bool false] ⟨congrArg Value.bool (strEqF (c_19)), trivial⟩ ?_
  refine nl (cf (sk (rg (xr 2 [(20, .eq (.int .i64 ((i : Int) + 1)))] [(10, .int .i64 ((i : Int) + 1))] [7, 17] [Value.int .i64 (IntKind.i64.wrap ((i : Int) + 1)) = Value.int .i64 ((i : Int) + 1)] ⟨wr_i64 (by omega) (by omega), trivial⟩ ?_))))
  refine nl ?_
  refine ⟨(i + 1), by kernel_rfl, ?_, ?_⟩
  ·exact ⟨by omega, fun j hj => by by_cases e : j = i; (· subst e; exact c_19); (· exact hq j (by omega)), (bg (bt HB hb_11) hg_16 (HB).size)⟩
  (try dsimp only); omega
 refine xr 1 [(11, .eq (.bool false))] [(11, .bool false)] [] [Value.bool (decide ((i : Int) < (xs.length : Int))) = Value.bool false] ⟨congrArg Value.bool (decide_eq_false (c_6)), trivial⟩ ?_
 refine nl (sq (cf (X_exit (sq (rg (xr0 1 [(21, .agg #[.int .i64 0, .int .i64 0, .string ByteArray.empty])] [1, 8, 9, 10, 11] ?_))))))
 refine xst (.agg #[.int .i64 0, .int .i64 0, .string ByteArray.empty]) (Blk.below hk_3 HB) 0 #[.int .i64 0, .int .i64 0, .string ByteArray.empty] (fun w_27 hg_28 hk_29 hz_30 => ?_)
 refine xr0 1 [(5, .bool false)] [21] ?_
 refine nl (X_ret (RX.ret_cellT (P := Tryd.prog) (fn := Tryd.f37) (N := 22) (R := R_) (c := 4) (t := 44) (p := ⟨w.heap.size, 0, none⟩) (v := .agg #[.int .i64 0, .int .i64 0, .string ByteArray.empty]) (b := 5) (u := .bool false) rfl rfl (loadsB rfl rfl hk_29 0 ⟨by kernel_rfl, by kernel_rfl⟩) rfl (hR_ _ _ ?_)))
 have hg := get_end (k := k) (xs := xs) (fun j hj => hq j (by omega))
 refine ⟨?_, (bg (bt hb_2 HB) hg_28 (Nat.le_refl _))⟩
 unfold gv; rw [hg]; rfl
end Go.Proofs.YtkehomiogkoomaaDoor
