import Derived.Test.YtgphmfnkeolbcaaDoorP1
import Derived.Test.YtgphmfnkeolbcaaDoorCell
/- The cells of a document's operations. Plain lists. No condition. -/
set_option linter.unusedVariables false
set_option linter.unusedSimpArgs false
namespace Go.Proofs.YtgphmfnkeolbcaaDoor
open Go Go.RowKit Go.Proofs.YtgphmfnkeolbcaaDoorW.PrintWords RX
/-- inserts alone -/
def isDoc (xs : List OpA) : Bool := decide (∀ t, t < xs.length → (xs.getD t op0).kind = 1 ∨ (xs.getD t op0).kind = 2)
theorem isDoc_yes {xs : List OpA} (h : ∀ t, t < xs.length → (xs.getD t op0).kind = 1 ∨ (xs.getD t op0).kind = 2) : isDoc xs = true := decide_eq_true h
theorem isDoc_no {xs : List OpA} {i : Nat} (hi : i < xs.length) (h1 : ¬ (xs.getD i op0).kind = 1) (h2 : ¬ (xs.getD i op0).kind = 2) : isDoc xs = false := decide_eq_false fun h => (h i hi).elim h1 h2
theorem isDoc_at {xs : List OpA} (h : isDoc xs = true) {t : Nat} (ht : t < xs.length) : (xs.getD t op0).kind = 1 ∨ (xs.getD t op0).kind = 2 := of_decide_eq_true h t ht
noncomputable def cellsAll (xs : List OpA) : List CellA := xs.flatMap cellsP
theorem take_op {xs : List OpA} {i : Nat} (h : i < xs.length) : xs.take (i + 1) = xs.take i ++ [xs.getD i op0] := by
  rw [List.take_add_one, List.getElem?_eq_getElem h, List.getD_eq_getElem?_getD, List.getElem?_eq_getElem h]; rfl
theorem cellsAll_take {xs : List OpA} {i : Nat} (h : i < xs.length) : cellsAll (xs.take (i + 1)) = cellsAll (xs.take i) ++ cellsP (xs.getD i op0) := by
  unfold cellsAll
  rw [take_op h, List.flatMap_append]
  simp
end Go.Proofs.YtgphmfnkeolbcaaDoor
