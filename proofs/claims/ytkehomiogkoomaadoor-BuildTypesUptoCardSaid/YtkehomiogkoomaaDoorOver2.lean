/- A row of operations that is written over, element after element: its shape. No condition. -/
import Derived.Test.YtkehomiogkoomaaDoorOver
import Derived.Test.YtkehomiogkoomaaDoorSpare2
set_option linter.unusedVariables false
set_option linter.unusedSimpArgs false
set_option maxRecDepth 100000
namespace Go.Proofs.YtkehomiogkoomaaDoor.RX
open Go Go.RowKit Go.Proofs.YtkehomiogkoomaaDoorW.PrintWords
theorem setAll_out : ∀ (vs : List Value) (cs : Array Value) (n k : Nat), k < n ∨ n + vs.length ≤ k → (setAll cs n vs)[k]? = cs[k]?
  | [], _, _, _, _ => rfl
  | v :: r, cs, n, k, h => by
    show (setAll (cs.setIfInBounds n v) (n + 1) r)[k]? = _
    rw [List.length_cons] at h
    rw [setAll_out r _ (n + 1) k (by omega), Array.getElem?_setIfInBounds_ne (by omega)]
/-- a row whose elements from i on end in slices that lie -/
structure ShapeO (e' e : Nat) (ok : Nat → Prop) (w : World) (A : Option Addr) (n c i : Nat) : Prop where
  o : LiesO e' 7 ok w A n c
  r : ∀ j, i ≤ j → j < n → ∃ ad pre B m c2, A = some ad ∧ CellsAt w (ad.add (j * 7)) (pre ++ [.slice B m c2]) ∧ pre.length = 6 ∧ LiesO e 4 ok w B m c2 ∧ m ≤ 100000000
section
variable {e' e : Nat} {ok : Nat → Prop} {w w1 : World} {A : Option Addr} {n c i : Nat}
theorem ShapeO.next (h : ShapeO e' e ok w A n c i) : ShapeO e' e ok w A n c (i + 1) := ⟨h.o, fun j h1 h2 => h.r j (by omega) h2⟩
theorem ShapeO.below (hb : Below w.heap.size w w1) (h : ShapeO e' e ok w A n c i) : ShapeO e' e ok w1 A n c i := ⟨h.o.below hb, fun j h1 h2 => by
  obtain ⟨ad, pre, B, m, c2, a, b, d, e, q⟩ := h.r j h1 h2
  exact ⟨ad, pre, B, m, c2, a, cells_below b hb, d, e.below hb, q⟩⟩
/-- element i has been written -/
theorem ShapeO.put (h : ShapeO e' e ok w A n c (i + 1)) {g : Nat} {cs : Array Value} {vs : List Value} (hvs : vs.length = 7) (hA : A = some ⟨g, 0, none⟩) (hgk : ok g) (hb : RX.Blk w g e' cs) (hg : w.grownBy w1 (some g)) (hb1 : RX.Blk w1 g e' (setAll cs (i * 7) vs)) :
    WroteO e' ok w w1 ∧ ShapeO e' e ok w1 A n c (i + 1) := by
  have hw : WroteO e' ok w w1 := ⟨some g, hg, fun k hk => by
    injection hk with hk
    subst hk
    exact ⟨hgk, cs, _, hb, hb1, setAll_size _ _ _⟩⟩
  have hs : SpoilO (· = e') ok w w1 := SpoilO.of_wrote hw rfl
  refine ⟨hw, h.o.spoil hs, fun j h1 h2 => ?_⟩
  obtain ⟨ad, pre, B, m, c2, a, b, d, k, hq⟩ := h.r j h1 h2
  obtain rfl : ad = ⟨g, 0, none⟩ := by rw [hA] at a; injection a with a; exact a.symm
  refine ⟨_, pre, B, m, c2, hA, cellsAt_blk hb1 fun q u hu => ?_, d, k.spoil hs, hq⟩
  rw [setAll_out _ _ _ _ (by omega)]
  exact blk_cellsAt b hb q u hu
end
end Go.Proofs.YtkehomiogkoomaaDoor.RX
