/- Patches: rising lists of attributes, looked up by their keys. Plain lists, no program. No condition. -/
import Derived.Test.YtkehomiogkoomaaDoorAt
import Derived.Test.YtkehomiogkoomaaDoorA2
import Derived.Sort.Walk0
set_option linter.unusedVariables false
set_option linter.unusedSimpArgs false
namespace Go.Proofs.YtkehomiogkoomaaDoor
open Go RX

abbrev kl (a b : ByteArray) : Bool := Op.bytesLess a.toList b.toList
theorem kl_iff {a b : ByteArray} : kl a b = true ↔ a.toList < b.toList := by unfold kl; rw [bytesLess_eq]; simp
theorem kl_irrefl (a : ByteArray) : kl a a = false := by
  cases h : kl a a with
  | false => rfl
  | true => exact absurd (kl_iff.1 h) (List.lt_irrefl _)
theorem kl_trans {a b c : ByteArray} (h1 : kl a b = true) (h2 : kl b c = true) : kl a c = true := kl_iff.2 (List.lt_trans (kl_iff.1 h1) (kl_iff.1 h2))
theorem kl_asymm {a b : ByteArray} (h : kl a b = true) : kl b a = false := by
  cases h2 : kl b a with
  | false => rfl
  | true => have := kl_trans h h2; rw [kl_irrefl] at this; cases this
theorem kl_tri {a b : ByteArray} (h1 : kl a b = false) (h2 : kl b a = false) : a = b := by
  refine bytes_ext (List.le_antisymm ?_ ?_)
  · exact fun h => by rw [kl_iff.2 h] at h2; cases h2
  · exact fun h => by rw [kl_iff.2 h] at h1; cases h1
theorem kl_ne {a b : ByteArray} (h : kl a b = true) : a ≠ b := fun e => by subst e; rw [kl_irrefl] at h; cases h

def Ris (xs : List At) : Prop := xs.Pairwise (fun x y => kl x.1 y.1 = true)
theorem Ris.tail {x : At} {xs : List At} (h : Ris (x :: xs)) : Ris xs := (List.pairwise_cons.1 h).2
theorem Ris.head {x : At} {xs : List At} (h : Ris (x :: xs)) : ∀ y ∈ xs, kl x.1 y.1 = true := (List.pairwise_cons.1 h).1
theorem Ris.below {x : At} {xs : List At} {k : ByteArray} (h : Ris (x :: xs)) (hk : kl k x.1 = true) : ∀ y ∈ x :: xs, kl k y.1 = true := by
  intro y hy
  rcases List.mem_cons.1 hy with rfl | hy
  · exact hk
  · exact kl_trans hk (h.head y hy)

end Go.Proofs.YtkehomiogkoomaaDoor
