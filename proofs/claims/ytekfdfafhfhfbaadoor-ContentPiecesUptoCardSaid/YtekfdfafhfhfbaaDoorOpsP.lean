/- What operations are worth: their errors, lengths, canonical lists. No condition. -/
import Derived.Test.YtekfdfafhfhfbaaDoorA2
import Derived.Test.YtekfdfafhfhfbaaDoorUtf3
import Derived.Test.YtekfdfafhfhfbaaDoorOp
set_option linter.unusedVariables false
set_option linter.unusedSimpArgs false
set_option maxRecDepth 100000
namespace Go.Proofs.YtekfdfafhfhfbaaDoor
open Go Go.RowKit Go.Proofs.YtekfdfafhfhfbaaDoorW.PrintWords RX

abbrev Pl := Int × Int × ByteArray
def pl0 : Pl := (0, 0, ⟨#[]⟩)
def hasP (o : OpA) : Bool :=
  if o.kind = 1 then decide ((o.vk, o.vn, o.vt) = pl0) && decide (o.count = 0)
  else if o.kind = 2 then decide (o.count = 0)
  else if o.kind = 3 then decide ((o.vk, o.vn, o.vt) = pl0) && decide (o.text = ⟨#[]⟩)
  else if o.kind = 4 then decide ((o.vk, o.vn, o.vt) = pl0) && (decide (o.text = ⟨#[]⟩) && decide (o.attrs.length = 0))
  else false
def refuseP (o : OpA) : Nat :=
  if o.kind ≠ 1 ∧ o.kind ≠ 2 then 5
  else if o.count ≠ 0 then 9
  else if o.kind = 1 ∧ (o.text = ⟨#[]⟩ ∨ (o.vk, o.vn, o.vt) ≠ pl0) then 9
  else if o.kind = 2 ∧ (o.text = ⟨#[]⟩ ∨ 64 < o.text.size) then 6
  else if (uchk o.text).2 = false then 1
  else if o.kind = 2 ∧ plainErr o.vk o.vn o.vt ≠ 0 then plainErr o.vk o.vn o.vt
  else chkA false o.attrs
def pErr (o : OpA) : Nat :=
  if hasP o = false then 9
  else if o.kind = 1 ∨ o.kind = 2 then refuseP o
  else if o.count < 1 then 9
  else if 1099511627776 < o.count then 11
  else if o.kind = 4 then 0
  else chkA true o.attrs
noncomputable def pOf (o : OpA) : PieceA :=
  if o.kind = 1 then .ins o.attrs o.text ((U.sc o.text).length : Int)
  else if o.kind = 2 then .emb o.attrs o.text o.val
  else if o.kind = 3 then .ret o.attrs o.count
  else .del o.count
noncomputable def opLen (o : OpA) : Int := if o.kind = 1 then ((U.sc o.text).length : Int) else if o.kind = 2 then 1 else o.count
noncomputable def opB (o : OpA) : Int := if o.kind = 3 ∨ o.kind = 4 then opLen o else 0
noncomputable def opR (o : OpA) : Int := if o.kind = 4 then 0 else opLen o
def sumI (f : OpA → Int) : List OpA → Int
  | [] => 0
  | o :: r => f o + sumI f r
noncomputable abbrev sB (xs : List OpA) : Int := sumI opB xs
noncomputable abbrev sR (xs : List OpA) : Int := sumI opR xs
def badE : List OpA → Nat
  | [] => 0
  | o :: r => if pErr o ≠ 0 then pErr o else badE r
noncomputable def lenP (xs : List OpA) : Int × Int × Nat :=
  if badE xs ≠ 0 then (0, 0, badE xs) else if 1099511627776 < sB xs ∨ 1099511627776 < sR xs then (0, 0, 11) else (sB xs, sR xs, 0)
/-- sizes that the row bounds -/
def opSz (o : OpA) : Prop := o.text.size ≤ 50000000 ∧ o.vt.size ≤ 50000000 ∧ o.attrs.length ≤ 1048576 ∧ ∀ i, i < o.attrs.length → (o.attrs.getD i at0).1.size ≤ 100000000 ∧ (o.attrs.getD i at0).2.2.2.size ≤ 100000000

theorem pOf_ins {o : OpA} (h : o.kind = 1) : pOf o = .ins o.attrs o.text ((U.sc o.text).length : Int) := if_pos h
theorem pOf_emb {o : OpA} (h : o.kind = 2) : pOf o = .emb o.attrs o.text o.val := by unfold pOf; rw [if_neg (by omega), if_pos h]
/-! ### lists -/
theorem take_snocD {α : Type} (d : α) : ∀ (xs : List α) (i : Nat), i < xs.length → xs.take (i + 1) = xs.take i ++ [xs.getD i d] := by
  intro xs i hi
  rw [List.take_add_one, List.getElem?_eq_getElem hi, List.getD_eq_getElem?_getD, List.getElem?_eq_getElem hi]; rfl
end Go.Proofs.YtekfdfafhfhfbaaDoor
