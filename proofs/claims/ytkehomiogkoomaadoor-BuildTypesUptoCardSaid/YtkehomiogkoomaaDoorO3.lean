import Derived.Test.YtkehomiogkoomaaDoorAt
import Derived.Test.YtkehomiogkoomaaDoorA2
import Derived.Sort.Walk0
import Derived.Test.YtkehomiogkoomaaDoorO2
import Derived.Test.YtkehomiogkoomaaDoorB1
import Derived.Test.YtkehomiogkoomaaDoorUtf4
import Derived.Test.YtkehomiogkoomaaDoorAn2
import Derived.Test.YtkehomiogkoomaaDoorStr
/- Patches: rising lists of attributes, looked up by their keys. Plain lists, no program. No condition. -/
set_option linter.unusedVariables false
set_option linter.unusedSimpArgs false
namespace Go.Proofs.YtkehomiogkoomaaDoor
open Go RX

abbrev kl (a b : ByteArray) : Bool := Op.bytesLess a.toList b.toList
theorem kl_iff {a b : ByteArray} : kl a b = true ↔ a.toList < b.toList := by unfold kl; rw [bytesLess_eq]; simp
theorem kl_trans {a b c : ByteArray} (h1 : kl a b = true) (h2 : kl b c = true) : kl a c = true := kl_iff.2 (List.lt_trans (kl_iff.1 h1) (kl_iff.1 h2))
def Ris (xs : List At) : Prop := xs.Pairwise (fun x y => kl x.1 y.1 = true)
theorem Ris.tail {x : At} {xs : List At} (h : Ris (x :: xs)) : Ris xs := (List.pairwise_cons.1 h).2
theorem Ris.head {x : At} {xs : List At} (h : Ris (x :: xs)) : ∀ y ∈ xs, kl x.1 y.1 = true := (List.pairwise_cons.1 h).1
theorem Ris.below {x : At} {xs : List At} {k : ByteArray} (h : Ris (x :: xs)) (hk : kl k x.1 = true) : ∀ y ∈ x :: xs, kl k y.1 = true := by
  intro y hy
  rcases List.mem_cons.1 hy with rfl | hy
  · exact hk
  · exact kl_trans hk (h.head y hy)

end Go.Proofs.YtkehomiogkoomaaDoor
/- What the references of layers content and ops answer: what the program answers. Conditions: sizes, the tables of utf8. -/
set_option linter.unusedVariables false
set_option linter.unusedSimpArgs false
set_option maxRecDepth 100000
namespace Go.Proofs.YtkehomiogkoomaaDoor
open Go Go.RowKit Go.Proofs.YtkehomiogkoomaaDoorW.PrintWords RX
theorem opSz.b {o : OpA} (h : opSz o) : o.text.size ≤ 100000000 ∧ o.vt.size ≤ 100000000 := by have h1 := h.1; have h2 := h.2.1; omega
end Go.Proofs.YtkehomiogkoomaaDoor
