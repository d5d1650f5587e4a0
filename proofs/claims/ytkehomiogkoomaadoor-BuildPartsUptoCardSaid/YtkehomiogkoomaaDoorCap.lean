/- Cells that function values have captured, and rows beside them. No condition. -/
import Derived.Test.YtkehomiogkoomaaDoorKd
set_option linter.unusedVariables false
set_option linter.unusedSimpArgs false
namespace Go.Proofs.YtkehomiogkoomaaDoor.RX
open Go Go.RowKit Go.Proofs.YtkehomiogkoomaaDoorW.PrintWords
theorem grown_at {w w1 : World} {r : Option Nat} (k : w.grownBy w1 r) {g : Nat} (hg : g < w.heap.size) (hne : ∀ x, r = some x → g ≠ x) : w1.heap[g]? = w.heap[g]? := by
  obtain ⟨_, _, _, _, h⟩ := k
  exact h g hg (fun e => hne g e.symm rfl)
theorem Blk.own {w w1 : World} {g : Nat} {t : TypeId} {cs : Array Value} {r : Option Nat} {base : Nat} (h : Blk w g t cs) (k : w.grownBy w1 r) (hle : ∀ x, r = some x → base ≤ x) (hg : g < base) : Blk w1 g t cs :=
  (grown_at k h.lt fun x hx e => by have := hle x hx; omega).trans h
theorem Blk.other {w w1 : World} {g g' : Nat} {t : TypeId} {cs : Array Value} (h : Blk w g t cs) (k : w.grownBy w1 (some g')) (hne : g ≠ g') : Blk w1 g t cs :=
  (grown_at k h.lt fun x hx e => by injection hx with hx; omega).trans h
theorem Kd.R_past {α : Type} {d : Kd α} {e : Nat} {w w1 : World} {base g : Nat} {v : Value} {xs : List α} (h : d.R e w base (OkFrom base) v xs) (k : w.grownBy w1 (some g)) (hg : g < base) : d.R e w1 base (OkFrom base) v xs :=
  Kd.R_step h fun j hj hlt => grown_at k hlt fun x hx e => by injection hx with hx; subst hx; subst e; have : base ≤ j := hj; omega
end Go.Proofs.YtkehomiogkoomaaDoor.RX
