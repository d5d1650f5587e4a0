/- Rows and blocks that lie apart. No condition. -/
import Derived.Test.YtkehomiogkoomaaDoorCap
set_option linter.unusedVariables false
set_option linter.unusedSimpArgs false
namespace Go.Proofs.YtkehomiogkoomaaDoor.RX
open Go Go.RowKit Go.Proofs.YtkehomiogkoomaaDoorW.PrintWords
section
variable {α : Type} {d : Kd α} {e : Nat} {w w1 W : World} {base : Nat} {ok : Nat → Prop} {A A1 B : Option Addr} {n c m c' : Nat} {xs ys : List α} {g : Nat}
theorem Kd.R_lt (h : d.R e w base ok (.slice A n c) xs) : ∀ k, A.map (·.block) = some k → k < w.heap.size := by
  obtain ⟨inner, ho⟩ := Kd.R_own h
  intro k hk
  exact own_lt ho k (by rw [ownB]; exact hk)
theorem Kd.R_ge (h : d.R e w base ok (.slice A n c) xs) : ∀ k, A.map (·.block) = some k → base ≤ k := by
  obtain ⟨inner, ho⟩ := Kd.R_own h
  intro k hk
  exact own_base ho k (by rw [ownB]; exact hk)
theorem Blk.ne {t : TypeId} {cs : Array Value} (h : Blk w g t cs) {r : Option Nat} (k : w.grownBy w1 r) (hne : ∀ k, r = some k → k ≠ g) : Blk w1 g t cs :=
  (grown_at k h.lt fun x hx e => hne x hx e.symm).trans h
theorem Kd.R_down {base' : Nat} {v : Value} (h : d.R e w base (OkFrom base) v xs) (hb : base' ≤ base) : d.R e w base' (OkFrom base') v xs :=
  Kd.R_mono (Kd.R_lower h hb) (fun k hk => Nat.le_trans hb hk)
end
end Go.Proofs.YtkehomiogkoomaaDoor.RX
