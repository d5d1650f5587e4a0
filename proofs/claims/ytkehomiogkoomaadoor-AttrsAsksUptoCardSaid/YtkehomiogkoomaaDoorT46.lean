/- Values of the interface compared; law03.same. Conditions: the errors' variables. -/
import Derived.Test.YtkehomiogkoomaaDoorT45
import Derived.Test.YtkehomiogkoomaaDoorA3
import Derived.Test.YtkehomiogkoomaaDoorT17
import Derived.Test.YtkehomiogkoomaaDoorNum
set_option linter.unusedVariables false
set_option linter.unusedSimpArgs false
set_option maxRecDepth 100000
namespace Go.Proofs.YtkehomiogkoomaaDoor
open Go Go.RowKit Go.Proofs.YtkehomiogkoomaaDoorW.PrintWords RX
theorem ent36 : Ent Tryd.prog 36 := ent_of Tryd.func36 (by kernel_rfl) rfl
section
variable {P : Program} {w : World} {ti tx ty : TypeId} {ms : Array (String × TypeId)} {i : TypeInfo} {vx vy : Value} {r : Bool}
theorem iface_same (hi : P.underlying ti = some (.interface ms)) (hinfo : P.info? tx = some i) (hc : i.comparable = true) (h : (Op.equalIn 9999 tx vx vy).run P w = .ok r w) : (binOp .neq ti (.iface tx vx) (.iface tx vy)).run P w = .ok (.bool (!r)) w := by
 have h2 : (Op.equalIn 10000 ti (.iface tx vx) (.iface tx vy)).run P w = .ok r w := by
  rw [show (10000 : Nat) = 9999 + 1 from rfl, Op.equalIn]
  simp [run_underlying hi, typeInfo, hinfo, hc, h]
 simp only [binOp]
 simp [Op.equal, Op.maxDepth, h2]
theorem iface_diff (hi : P.underlying ti = some (.interface ms)) (hne : tx ≠ ty) : (binOp .neq ti (.iface tx vx) (.iface ty vy)).run P w = .ok (.bool true) w := by
 have h2 : (Op.equalIn 10000 ti (.iface tx vx) (.iface ty vy)).run P w = .ok false w := by
  rw [show (10000 : Nat) = 9999 + 1 from rfl, Op.equalIn]
  simp [run_underlying hi, hne]
 simp only [binOp]
 simp [Op.equal, Op.maxDepth, h2]
end
/-- are the values of the interface the same? -/
def veq (a b : Pl) : Bool :=
 if a.1 = 1 then (if b.1 = 1 then decide (a.2.1 = 1) == decide (b.2.1 = 1) else false)
 else if a.1 = 2 then (if b.1 = 2 then a.2.1 == b.2.1 else false)
 else if a.1 = 3 then (if b.1 = 3 then a.2.2.toList == b.2.2.toList else false)
 else (if b.1 = 1 then false else if b.1 = 2 then false else if b.1 = 3 then false else true)
theorem veq_refl (a : Pl) : veq a a = true := by
 unfold veq
 by_cases h1 : a.1 = 1
 ·rw [if_pos h1, if_pos h1]; exact beq_self_eq_true _
 rw [if_neg h1]
 by_cases h2 : a.1 = 2
 ·rw [if_pos h2, if_pos h2]; exact beq_self_eq_true _
 rw [if_neg h2]
 by_cases h3 : a.1 = 3
 ·rw [if_pos h3, if_pos h3]; exact beq_self_eq_true _
 rw [if_neg h3, if_neg h1, if_neg h2, if_neg h3]
theorem valV_neq (a b : Pl) (x y : Operand) (w : World) : (eqGuard .neq 63 x y (valV a) (valV b)).run Tryd.prog w = .ok () w ∧ (binOp .neq 63 (valV a) (valV b)).run Tryd.prog w = .ok (.bool (!(veq a b))) w := by
 unfold veq
 by_cases a1 : a.1 = 1
 ·rw [valV_1 a1, if_pos a1]
  by_cases b1 : b.1 = 1
  ·rw [valV_1 b1, if_pos b1]; exact ⟨rfl, iface_same Tryd.underlying63 rfl (by kernel_rfl) (run_equalIn_bool' _ _ _ _ _ Tryd.underlying171)⟩
  rw [if_neg b1]
  by_cases b2 : b.1 = 2
  ·rw [valV_2 b1 b2]; exact ⟨rfl, iface_diff Tryd.underlying63 (by decide)⟩
  by_cases b3 : b.1 = 3
  ·rw [valV_3 b1 b2 b3]; exact ⟨rfl, iface_diff Tryd.underlying63 (by decide)⟩
  rw [valV_0 b1 b2 b3]; exact ⟨rfl, iface_diff Tryd.underlying63 (by decide)⟩
 rw [if_neg a1]
 by_cases a2 : a.1 = 2
 ·rw [valV_2 a1 a2, if_pos a2]
  by_cases b1 : b.1 = 1
  ·rw [valV_1 b1, if_neg (by omega)]; exact ⟨rfl, iface_diff Tryd.underlying63 (by decide)⟩
  by_cases b2 : b.1 = 2
  ·rw [valV_2 b1 b2, if_pos b2]; exact ⟨rfl, iface_same Tryd.underlying63 rfl (by kernel_rfl) (run_equalIn_int _ _ _ _ _ _ _ Tryd.underlying172)⟩
  rw [if_neg b2]
  by_cases b3 : b.1 = 3
  ·rw [valV_3 b1 b2 b3]; exact ⟨rfl, iface_diff Tryd.underlying63 (by decide)⟩
  rw [valV_0 b1 b2 b3]; exact ⟨rfl, iface_diff Tryd.underlying63 (by decide)⟩
 rw [if_neg a2]
 by_cases a3 : a.1 = 3
 ·rw [valV_3 a1 a2 a3, if_pos a3]
  by_cases b1 : b.1 = 1
  ·rw [valV_1 b1, if_neg (by omega)]; exact ⟨rfl, iface_diff Tryd.underlying63 (by decide)⟩
  by_cases b2 : b.1 = 2
  ·rw [valV_2 b1 b2, if_neg (by omega)]; exact ⟨rfl, iface_diff Tryd.underlying63 (by decide)⟩
  by_cases b3 : b.1 = 3
  ·rw [valV_3 b1 b2 b3, if_pos b3]; exact ⟨rfl, iface_same Tryd.underlying63 rfl (by kernel_rfl) (run_equalIn_string _ _ _ _ _ Tryd.underlying173)⟩
  rw [valV_0 b1 b2 b3, if_neg b3]; exact ⟨rfl, iface_diff Tryd.underlying63 (by decide)⟩
 rw [valV_0 a1 a2 a3, if_neg a3]
 by_cases b1 : b.1 = 1
 ·rw [valV_1 b1, if_pos b1]; exact ⟨rfl, iface_diff Tryd.underlying63 (by decide)⟩
 rw [if_neg b1]
 by_cases b2 : b.1 = 2
 ·rw [valV_2 b1 b2, if_pos b2]; exact ⟨rfl, iface_diff Tryd.underlying63 (by decide)⟩
 rw [if_neg b2]
 by_cases b3 : b.1 = 3
 ·rw [valV_3 b1 b2 b3, if_pos b3]; exact ⟨rfl, iface_diff Tryd.underlying63 (by decide)⟩
 rw [valV_0 b1 b2 b3, if_neg b3]; exact ⟨rfl, iface_same Tryd.underlying63 rfl (by kernel_rfl) (eqA_of Tryd.underlying175 (by kernel_rfl) rfl)⟩
/-- what came so far is what lies in L -/
def okP (L pre : List At) : Prop := pre.length ≤ L.length ∧ ∀ t, t < pre.length → (pre.getD t at0).1 = (L.getD t at0).1 ∧ veq (pre.getD t at0).2 (L.getD t at0).2 = true
theorem okP_nil (L : List At) : okP L [] := ⟨Nat.zero_le _, fun t ht => by simp at ht⟩
theorem okP_take {L pre : List At} (h : pre = L.take pre.length ∧ pre.length ≤ L.length) : okP L pre := by
 refine ⟨h.2, fun t ht => ?_⟩
 have e : pre.getD t at0 = L.getD t at0 := by
  have h1 : pre.getD t at0 = (L.take pre.length).getD t at0 := congrArg (fun l : List At => l.getD t at0) h.1
  rw [h1, List.getD_eq_getElem?_getD, List.getElem?_take, if_pos ht, List.getD_eq_getElem?_getD]
 rw [e]
 exact ⟨rfl, veq_refl _⟩
theorem okP_snoc {L pre : List At} {x : At} (h : okP L pre) (hl : pre.length < L.length) (hk : x.1 = (L.getD pre.length at0).1) (hv : veq x.2 (L.getD pre.length at0).2 = true) : okP L (pre ++ [x]) := by
 refine ⟨by rw [List.length_append, List.length_singleton]; exact hl, fun t ht => ?_⟩
 rw [List.length_append, List.length_singleton] at ht
 rcases Nat.lt_or_ge t pre.length with h1 | h1
 ·have e : (pre ++ [x]).getD t at0 = pre.getD t at0 := by rw [List.getD_eq_getElem?_getD, List.getElem?_append_left h1, List.getD_eq_getElem?_getD]
  rw [e]; exact h.2 t h1
 obtain rfl : t = pre.length := by omega
 have e : (pre ++ [x]).getD pre.length at0 = x := by simp [List.getD_eq_getElem?_getD]
 rw [e]; exact ⟨hk, hv⟩
theorem okP_wrong {L pre : List At} {x : At} (h : okP L (pre ++ [x])) : pre.length < L.length ∧ x.1 = (L.getD pre.length at0).1 ∧ veq x.2 (L.getD pre.length at0).2 = true := by
 have h1 := h.1
 rw [List.length_append, List.length_singleton] at h1
 have h2 := h.2 pre.length (by simp)
 have e : (pre ++ [x]).getD pre.length at0 = x := by simp [List.getD_eq_getElem?_getD]
 rw [e] at h2
 exact ⟨h1, h2.1, h2.2⟩
theorem same3_any (A B : Option Addr) (c d : Nat) (zs : List At) (w : World) (hx : kAttr.C w A zs.length zs) (hy : kAttr.C w B zs.length zs) (es : List Addr) (n : Nat) (hn : n ≤ 19) (hE : Errs w es) :
  Calls Tryd.prog 36 #[.slice A zs.length c, errV es n, .slice B zs.length d, .int .i64 (n : Int)] w fun e w' => e = .returned (.bool true) ∧ Below w.heap.size w w' := by
 refine RX.enter Tryd.func36 rfl 18 rfl [(0, .slice A zs.length c), (1, errV es n), (2, .slice B zs.length d), (3, .int .i64 (n : Int))] rfl (by kernel_rfl) (fun R_ hR_ => ?_)
 refine sq (rg (xe0 1 [(0, .slice A zs.length c), (1, errV es n), (2, .slice B zs.length d), (3, nv n)] ?_))
 refine nl (sq (rg (xr0 2 [(9, .slice A zs.length c), (10, .slice B zs.length d)] [0, 2] ?_)))
 refine xc 46 ent46 [.slice A zs.length c, .slice B zs.length d] (refSame_any _ _ _ _ zs zs _ hx hy) ?_
 rintro e w_1 ⟨rfl, hb_2⟩; refine ⟨_, rfl, ?_⟩
 rw [show decide (zs = zs) = true from decide_eq_true rfl]
 refine xe0 2 [(3, nv n), (12, .bool true), (13, errV es n)] ?_
 refine xc 18 ent18 [errV es n] (num_any es n hn _ (hE.below hb_2)) ?_
 rintro e w_3 ⟨rfl, hb_4⟩; refine ⟨_, rfl, ?_⟩
 refine xe 4 [(16, .eq (.bool true))] [(8, .bool true)] [Value.bool ((n : Int) == (n : Int)) = Value.bool true] ⟨congrArg Value.bool (beq_self_eq_true _), trivial⟩ ?_
 refine nl (X_ret (rk [.bool true] (hR_ _ _ ?_)))
 exact ⟨rfl, (bt hb_2 hb_4)⟩
end Go.Proofs.YtkehomiogkoomaaDoor
