import Derived.Test.YtkehomiogkoomaaDoorMixK
import Derived.Test.YtkehomiogkoomaaDoorCell
/- Cells with two spare attributes behind theirs; rows of cells that are written over. No condition. -/
set_option linter.unusedVariables false
set_option linter.unusedSimpArgs false
set_option maxRecDepth 100000
namespace Go.Proofs.YtkehomiogkoomaaDoor.RX
open Go Go.RowKit Go.Proofs.YtkehomiogkoomaaDoorW.PrintWords
theorem repsCells0 {w : World} {base : Nat} {ok : Nat → Prop} : ∀ (xs : List CellA), (∀ x ∈ xs, x.attrs = []) → Reps (kCell.M w base ok) 6 xs (xs.flatMap fun x => cellV x none 0)
  | [], _ => Reps.none _ _
  | x :: xs, h => by
    have hs : Reps (kCell.M w base ok) 6 [x] (cellV x none 0) := by
      have := (Reps.none (kCell.M w base ok) 6).snoc (kCell_M0 x (h x List.mem_cons_self)) rfl
      simpa using this
    have := Kd.reps_append hs (repsCells0 xs fun y hy => h y (List.mem_cons_of_mem _ hy))
    simpa using this
/-- a row whose elements from i on end in slices that lie; p cells ahead of the slice -/
structure ShapeP (p e' e : Nat) (ok : Nat → Prop) (w : World) (A : Option Addr) (n c i : Nat) : Prop where
  o : LiesO e' (p + 1) ok w A n c
  r : ∀ j, i ≤ j → j < n → ∃ ad pre B m c2, A = some ad ∧ CellsAt w (ad.add (j * (p + 1))) (pre ++ [.slice B m c2]) ∧ pre.length = p ∧ LiesO e 4 ok w B m c2 ∧ m ≤ 100000000
section
variable {p e' e : Nat} {ok : Nat → Prop} {w w1 : World} {A : Option Addr} {n c i : Nat}
theorem ShapeP.next (h : ShapeP p e' e ok w A n c i) : ShapeP p e' e ok w A n c (i + 1) := ⟨h.o, fun j h1 h2 => h.r j (by omega) h2⟩
theorem ShapeP.below (hb : Below w.heap.size w w1) (h : ShapeP p e' e ok w A n c i) : ShapeP p e' e ok w1 A n c i := ⟨h.o.below hb, fun j h1 h2 => by
  obtain ⟨ad, pre, B, m, c2, a, b, d, e, q⟩ := h.r j h1 h2
  exact ⟨ad, pre, B, m, c2, a, cells_below b hb, d, e.below hb, q⟩⟩
/-- element i has been written -/
theorem ShapeP.put (h : ShapeP p e' e ok w A n c (i + 1)) {g : Nat} {cs : Array Value} {vs : List Value} (hvs : vs.length = p + 1) (hA : A = some ⟨g, 0, none⟩) (hgk : ok g) (hb : RX.Blk w g e' cs) (hg : w.grownBy w1 (some g)) (hb1 : RX.Blk w1 g e' (setAll cs (i * (p + 1)) vs)) :
    WroteO e' ok w w1 ∧ ShapeP p e' e ok w1 A n c (i + 1) := by
  have hw : WroteO e' ok w w1 := ⟨some g, hg, fun k hk => by
    injection hk with hk
    subst hk
    exact ⟨hgk, cs, _, hb, hb1, setAll_size _ _ _⟩⟩
  have hs : SpoilO (· = e') ok w w1 := SpoilO.of_wrote hw rfl
  refine ⟨hw, h.o.spoil hs, fun j h1 h2 => ?_⟩
  obtain ⟨ad, pre, B, m, c2, a, b, d, k, hq⟩ := h.r j h1 h2
  obtain rfl : ad = ⟨g, 0, none⟩ := by rw [hA] at a; injection a with a; exact a.symm
  refine ⟨_, pre, B, m, c2, hA, cellsAt_blk hb1 fun q u hu => ?_, d, k.spoil hs, hq⟩
  have h3 : (i + 1) * (p + 1) ≤ j * (p + 1) := Nat.mul_le_mul_right _ h1
  rw [Nat.succ_mul] at h3
  rw [setAll_out _ _ _ _ (by omega)]
  exact blk_cellsAt b hb q u hu
end
end Go.Proofs.YtkehomiogkoomaaDoor.RX
