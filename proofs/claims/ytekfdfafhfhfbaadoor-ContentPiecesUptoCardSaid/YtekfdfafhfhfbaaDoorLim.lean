/- Errors' numbers are at most 19; what is equal both ways round. No condition. -/
import Derived.Test.YtekfdfafhfhfbaaDoorP2
set_option linter.unusedVariables false
set_option maxRecDepth 100000
namespace Go.Proofs.YtekfdfafhfhfbaaDoor
open Go Go.RowKit Go.Proofs.YtekfdfafhfhfbaaDoorW.PrintWords RX
theorem plainErr_le (k n : Int) (t : ByteArray) : plainErr k n t ≤ 19 := by unfold plainErr; repeat (first | omega | split)
theorem pairErr_le (x : At) : pairErr x ≤ 19 := by
  have := plainErr_le x.2.1 x.2.2.1 x.2.2.2
  unfold pairErr; repeat (first | omega | split)
theorem attrAt_le (nulls : Bool) (xs : List At) (i : Nat) : attrAt nulls xs i ≤ 19 := by
  have := pairErr_le (xs.getD i at0)
  unfold attrAt; repeat (first | omega | split)
theorem chkUpto_le (nulls : Bool) (xs : List At) : ∀ n, chkUpto nulls xs n ≤ 19
  | 0 => by show (0 : Nat) ≤ 19; omega
  | n + 1 => by
    have h1 := chkUpto_le nulls xs n
    have h2 := attrAt_le nulls xs n
    show (if chkUpto nulls xs n ≠ 0 then chkUpto nulls xs n else attrAt nulls xs n) ≤ 19
    split <;> omega
theorem refuseP_le (o : OpA) : refuseP o ≤ 19 := by
  have h1 := plainErr_le o.vk o.vn o.vt
  have h2 : chkA false o.attrs ≤ 19 := chkUpto_le _ _ _
  unfold refuseP; repeat (first | omega | split)
theorem joinO_le (a b : OpA) : (joinO a b).2.2 ≤ 19 := by
  have h1 := refuseP_le a
  have h2 := refuseP_le b
  unfold joinO; repeat (first | (simp only []; omega) | split)
theorem cutO_le (o : OpA) (n : Int) : (cutO o n).2.2 ≤ 19 := by
  have h1 := refuseP_le o
  unfold cutO; repeat (first | (simp only []; omega) | split)
theorem join_no {a b : OpA} (h : (joinO a b).2.1 = false) : (joinO a b).1 = op0 := by
  unfold joinO at h ⊢
  split
  · rfl
  · split
    · rfl
    · split
      · rename_i h1 h2 h3
        rw [if_neg h1, if_neg h2, if_pos h3] at h
        cases h
      · rfl
theorem opEqP_comm (a b : OpA) : opEqP a b = opEqP b a := by
  rw [Bool.eq_iff_iff, opEqP_iff, opEqP_iff]
  exact ⟨Eq.symm, Eq.symm⟩
end Go.Proofs.YtekfdfafhfhfbaaDoor
