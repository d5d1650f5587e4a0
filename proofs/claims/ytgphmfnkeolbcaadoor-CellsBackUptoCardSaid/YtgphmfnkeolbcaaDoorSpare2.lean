import Derived.Test.YtgphmfnkeolbcaaDoorSpare
import Derived.Laws.AppendOwn
import Derived.Test.YtgphmfnkeolbcaaDoorCell
/- Slices that are written over and appended to, again and again: what lies in them is not told, only where they lie. No condition. -/
set_option linter.unusedVariables false
set_option linter.unusedSimpArgs false
set_option maxRecDepth 100000
namespace Go.Proofs.YtgphmfnkeolbcaaDoor.RX
open Go Go.RowKit Go.Proofs.YtgphmfnkeolbcaaDoorW.PrintWords
/-- a slice over a whole block of which 'ok' speaks -/
def LiesO (e sz : Nat) (ok : Nat → Prop) (w : World) (B : Option Addr) (m c : Nat) : Prop :=
  m ≤ c ∧ c ≤ 9223372036854775807 ∧ ((B = none ∧ c = 0) ∨ ∃ g cs, B = some ⟨g, 0, none⟩ ∧ ok g ∧ RX.Blk w g e cs ∧ cs.size = c * sz)
/-- a block of type e that 'ok' speaks of has been written, its size kept, and new ones made -/
def WroteO (e : Nat) (ok : Nat → Prop) (w w1 : World) : Prop := ∃ r, w.grownBy w1 r ∧ ∀ g, r = some g → ok g ∧ ∃ cs cs', RX.Blk w g e cs ∧ RX.Blk w1 g e cs' ∧ cs'.size = cs.size
/-- only blocks of these types that 'ok' speaks of have been written, their sizes kept -/
structure SpoilO (es ok : Nat → Prop) (w w' : World) : Prop where
  os : w'.os = w.os
  tape : w'.tape = w.tape
  output : w'.output = w.output
  size : w.heap.size ≤ w'.heap.size
  k : ∀ g, g < w.heap.size → w'.heap[g]? = w.heap[g]? ∨ (ok g ∧ ∃ e cs cs', es e ∧ RX.Blk w g e cs ∧ RX.Blk w' g e cs' ∧ cs'.size = cs.size)
theorem SpoilO.refl (es ok : Nat → Prop) (w : World) : SpoilO es ok w w := ⟨rfl, rfl, rfl, Nat.le_refl _, fun _ _ => .inl rfl⟩
theorem SpoilO.of_wrote {es ok : Nat → Prop} {e : Nat} {w w1 : World} (h : WroteO e ok w w1) (he : es e) : SpoilO es ok w w1 := by
  obtain ⟨r, hg, hr⟩ := h
  refine ⟨hg.os, hg.tape, hg.output, hg.size, fun g hlt => ?_⟩
  by_cases e1 : some g = r
  · obtain ⟨h1, cs, cs', h2, h3, h4⟩ := hr g e1.symm
    exact .inr ⟨h1, e, cs, cs', he, h2, h3, h4⟩
  · exact .inl (hg.block g hlt e1)
theorem SpoilO.trans {es ok : Nat → Prop} {a b c : World} (h : SpoilO es ok a b) (k : SpoilO es ok b c) : SpoilO es ok a c := by
  refine ⟨k.os.trans h.os, k.tape.trans h.tape, k.output.trans h.output, Nat.le_trans h.size k.size, fun g hg => ?_⟩
  rcases h.k g hg with h1 | ⟨h1, e, cs, cs', he, h2, h3, h4⟩
  · rcases k.k g (Nat.lt_of_lt_of_le hg h.size) with k1 | ⟨k1, e, cs, cs', he, k2, k3, k4⟩
    · exact .inl (k1.trans h1)
    · exact .inr ⟨k1, e, cs, cs', he, h1.symm.trans k2, k3, k4⟩
  · rcases k.k g (Nat.lt_of_lt_of_le hg h.size) with k1 | ⟨k1, e2, cs2, cs3, he2, k2, k3, k4⟩
    · exact .inr ⟨h1, e, cs, cs', he, h2, k1.trans h3, h4⟩
    · have e0 : some (Obj.cells cs' e (0, 0)) = some (Obj.cells cs2 e2 (0, 0)) := (show b.heap[g]? = _ from h3).symm.trans k2
      injection e0 with e0
      injection e0 with e1 e3
      subst e1; subst e3
      exact .inr ⟨h1, e, cs, cs3, he, h2, k3, k4.trans h4⟩
theorem SpoilO.imp {es ok es' ok' : Nat → Prop} {w w1 : World} (h : SpoilO es ok w w1) (h1 : ∀ e, es e → es' e) (h2 : ∀ g, g < w.heap.size → ok g → ok' g) : SpoilO es' ok' w w1 :=
  ⟨h.os, h.tape, h.output, h.size, fun g hg => (h.k g hg).imp_right fun ⟨a, e, cs, cs', he, r⟩ => ⟨h2 g hg a, e, cs, cs', h1 e he, r⟩⟩
/-- a block keeps its type and its size -/
theorem SpoilO.blk {es ok : Nat → Prop} {w w1 : World} (h : SpoilO es ok w w1) {g t : Nat} {cs : Array Value} (hb : RX.Blk w g t cs) : ∃ cs', RX.Blk w1 g t cs' ∧ cs'.size = cs.size := by
  rcases h.k g (Blk.lt hb) with h1 | ⟨_, e, cs1, cs', _, h2, h3, h4⟩
  · exact ⟨cs, h1.trans hb, rfl⟩
  · have e0 : some (Obj.cells cs1 e (0, 0)) = some (Obj.cells cs t (0, 0)) := (show w.heap[g]? = _ from h2).symm.trans hb
    injection e0 with e0
    injection e0 with e1 e3
    subst e1; subst e3
    exact ⟨cs', h3, h4⟩
/-- a block of another type is unchanged -/
theorem SpoilO.other {es ok : Nat → Prop} {w w1 : World} (h : SpoilO es ok w w1) {g t : Nat} {cs : Array Value} (hb : RX.Blk w g t cs) (ht : ¬ es t) : RX.Blk w1 g t cs := by
  rcases h.k g (Blk.lt hb) with h1 | ⟨_, e, cs1, cs', he, h2, h3, h4⟩
  · exact h1.trans hb
  · have e0 : some (Obj.cells cs1 e (0, 0)) = some (Obj.cells cs t (0, 0)) := (show w.heap[g]? = _ from h2).symm.trans hb
    injection e0 with e0
    injection e0 with _ e3
    subst e3
    exact absurd he ht
theorem LiesO.below {e sz : Nat} {ok : Nat → Prop} {w w1 : World} {B : Option Addr} {m c : Nat} (hb : Below w.heap.size w w1) (h : LiesO e sz ok w B m c) : LiesO e sz ok w1 B m c := by
  obtain ⟨h1, h2, h⟩ := h
  refine ⟨h1, h2, ?_⟩
  rcases h with h | ⟨g, cs, h, h3, h4, h5⟩
  · exact .inl h
  · exact .inr ⟨g, cs, h, h3, Blk.below h4 hb, h5⟩
theorem LiesO.imp {e sz : Nat} {ok ok' : Nat → Prop} {w : World} {B : Option Addr} {m c : Nat} (h : LiesO e sz ok w B m c) (hi : ∀ g, ok g → ok' g) : LiesO e sz ok' w B m c := by
  obtain ⟨h1, h2, h⟩ := h
  refine ⟨h1, h2, ?_⟩
  rcases h with h | ⟨g, cs, h, h3, h4, h5⟩
  · exact .inl h
  · exact .inr ⟨g, cs, h, hi g h3, h4, h5⟩
theorem LiesO.less {e sz : Nat} {ok : Nat → Prop} {w : World} {B : Option Addr} {m m' c : Nat} (h : LiesO e sz ok w B m c) (hm : m' ≤ m) : LiesO e sz ok w B m' c := ⟨Nat.le_trans hm h.1, h.2⟩
theorem LiesO.spoil {e sz : Nat} {ok es ok' : Nat → Prop} {w w1 : World} {B : Option Addr} {m c : Nat} (h : LiesO e sz ok w B m c) (hs : SpoilO es ok' w w1) : LiesO e sz ok w1 B m c := by
  obtain ⟨h1, h2, h⟩ := h
  refine ⟨h1, h2, ?_⟩
  rcases h with h | ⟨g, cs, h, h3, h4, h5⟩
  · exact .inl h
  · obtain ⟨cs', h6, h7⟩ := hs.blk h4
    exact .inr ⟨g, cs', h, h3, h6, h7.trans h5⟩
theorem LiesO.at {e sz : Nat} {ok : Nat → Prop} {w : World} {B : Option Addr} {m c : Nat} (h : LiesO e sz ok w B m c) (h0 : 0 < m) : ∃ g cs, B = some ⟨g, 0, none⟩ ∧ ok g ∧ RX.Blk w g e cs ∧ m * sz ≤ cs.size := by
  obtain ⟨h1, _, h⟩ := h
  rcases h with ⟨_, h⟩ | ⟨g, cs, h, h3, h4, h5⟩
  · omega
  · exact ⟨g, cs, h, h3, h4, by rw [h5]; exact Nat.mul_le_mul_right _ h1⟩
end Go.Proofs.YtgphmfnkeolbcaaDoor.RX
/- Rows of cells whose attributes are written over and appended to: their shape. No condition. -/
set_option linter.unusedVariables false
set_option linter.unusedSimpArgs false
set_option maxRecDepth 100000
namespace Go.Proofs.YtgphmfnkeolbcaaDoor.RX
open Go Go.RowKit Go.Proofs.YtgphmfnkeolbcaaDoorW.PrintWords

/-- a slice over a block of its own, with its room -/
def LiesC (e sz lo hi : Nat) (w : World) (B : Option Addr) (m c : Nat) : Prop :=
  m ≤ c ∧ c ≤ 9223372036854775807 ∧ ((B = none ∧ c = 0) ∨ ∃ g cs, B = some ⟨g, 0, none⟩ ∧ lo ≤ g ∧ g < hi ∧ RX.Blk w g e cs ∧ cs.size = c * sz)
theorem LiesC.below {e sz lo hi : Nat} {w w1 : World} {B : Option Addr} {m c : Nat} (hb : Below w.heap.size w w1) (h : LiesC e sz lo hi w B m c) : LiesC e sz lo hi w1 B m c := by
  obtain ⟨h1, h2, h⟩ := h
  refine ⟨h1, h2, ?_⟩
  rcases h with h | ⟨g, cs, h, h2, h3, h4, h5⟩
  · exact .inl h
  · exact .inr ⟨g, cs, h, h2, h3, h4.below hb, h5⟩
/-- at most one block has been written, of this type, its size kept -/
def Wrote (e lo hi : Nat) (w w1 : World) : Prop := ∃ r, w.grownBy w1 r ∧ ∀ g, r = some g → lo ≤ g ∧ g < hi ∧ ∃ cs cs', RX.Blk w g e cs ∧ RX.Blk w1 g e cs' ∧ cs'.size = cs.size
theorem Wrote.size {e lo hi : Nat} {w w1 : World} (h : Wrote e lo hi w w1) : w.heap.size ≤ w1.heap.size := by
  obtain ⟨r, h, _⟩ := h
  exact h.size
theorem LiesC.wrote {e e' sz lo hi lo' hi' : Nat} {w w1 : World} {B : Option Addr} {m c : Nat} (h : LiesC e sz lo hi w B m c) (hw : Wrote e' lo' hi' w w1) : LiesC e sz lo hi w1 B m c := by
  obtain ⟨r, hg, hr⟩ := hw
  obtain ⟨h1, h2, h⟩ := h
  refine ⟨h1, h2, ?_⟩
  rcases h with h | ⟨g, cs, h, h2, h3, h4, h5⟩
  · exact .inl h
  · by_cases hq : r = some g
    · obtain ⟨_, _, cs1, cs2, b1, b2, b3⟩ := hr g hq
      have e1 : (some (Obj.cells cs1 e' (0, 0)) : Option Obj) = some (.cells cs e (0, 0)) := b1.symm.trans h4
      injection e1 with e1
      injection e1 with e1 e2
      subst e1; subst e2
      exact .inr ⟨g, cs2, h, h2, h3, b2, by omega⟩
    · exact .inr ⟨g, cs, h, h2, h3, (hg.block g h4.lt fun e => hq e.symm).trans h4, h5⟩
/-- a row whose elements from i on end in slices that lie -/
structure Shape (p e' e lo hi : Nat) (w : World) (A : Option Addr) (n c i : Nat) : Prop where
  o : LiesC e' (p + 1) lo hi w A n c
  r : ∀ j, i ≤ j → j < n → ∃ ad pre B m c2, A = some ad ∧ CellsAt w (ad.add (j * (p + 1))) (pre ++ [.slice B m c2]) ∧ pre.length = p ∧ LiesC e 4 lo hi w B m c2 ∧ m ≤ 100000000
section
variable {p e' e lo hi : Nat} {w w1 : World} {A : Option Addr} {n c i : Nat}
theorem Shape.next (h : Shape p e' e lo hi w A n c i) : Shape p e' e lo hi w A n c (i + 1) := ⟨h.o, fun j h1 h2 => h.r j (by omega) h2⟩
theorem Shape.below (hb : Below w.heap.size w w1) (h : Shape p e' e lo hi w A n c i) : Shape p e' e lo hi w1 A n c i := ⟨h.o.below hb, fun j h1 h2 => by
  obtain ⟨ad, pre, B, m, c2, a, b, d, e, q⟩ := h.r j h1 h2
  exact ⟨ad, pre, B, m, c2, a, cells_below b hb, d, e.below hb, q⟩⟩
theorem Shape.blk (h : Shape p e' e lo hi w A n c i) (h0 : 0 < n) : ∃ g cs, A = some ⟨g, 0, none⟩ ∧ lo ≤ g ∧ g < hi ∧ RX.Blk w g e' cs ∧ n * (p + 1) ≤ cs.size := by
  obtain ⟨h1, h2, h⟩ := h.o
  rcases h with ⟨_, h⟩ | ⟨g, cs, a, b, c, d, e⟩
  · omega
  · have : n * (p + 1) ≤ _ := Nat.mul_le_mul_right (p + 1) h1
    exact ⟨g, cs, a, b, c, d, by omega⟩
theorem setAll_get1 (cs : Array Value) (n k : Nat) (v : Value) (h : k ≠ n) : (setAll cs n [v])[k]? = cs[k]? := by
  show (cs.setIfInBounds n v)[k]? = _
  rw [Array.getElem?_setIfInBounds_ne (fun e => h e.symm)]
theorem blk_cellsAt {g k : Nat} {cs : Array Value} {vs : List Value} {t : Nat} (h : CellsAt w ((⟨g, 0, none⟩ : Addr).add k) vs) (hb : RX.Blk w g t cs) : ∀ j u, vs[j]? = some u → cs[k + j]? = some u := by
  intro j u hu
  have h1 := h j u hu
  have e2 : (⟨g, 0, none⟩ : Addr).add (k + j) = ⟨g, k + j, none⟩ := by unfold Addr.add; split <;> simp_all
  rw [add_add, e2] at h1
  rw [cell_of_row w g (k + j) cs t (0, 0) hb] at h1
  exact h1
theorem cellsAt_blk {g k : Nat} {cs : Array Value} {vs : List Value} {t : Nat} (hb : RX.Blk w g t cs) (h : ∀ j u, vs[j]? = some u → cs[k + j]? = some u) : CellsAt w ((⟨g, 0, none⟩ : Addr).add k) vs := by
  intro j u hu
  have e2 : (⟨g, 0, none⟩ : Addr).add (k + j) = ⟨g, k + j, none⟩ := by unfold Addr.add; split <;> simp_all
  rw [add_add, e2, cell_of_row w g (k + j) cs t (0, 0) hb]
  exact h j u hu
/-- the last cell of element i has been written -/
theorem Shape.put (h : Shape p e' e lo hi w A n c (i + 1)) {g : Nat} {cs : Array Value} {v : Value} (hA : A = some ⟨g, 0, none⟩) (hb : RX.Blk w g e' cs) (hg : w.grownBy w1 (some g)) (hb1 : RX.Blk w1 g e' (setAll cs (i * (p + 1) + p) [v])) (hlo : lo ≤ g) (hhi : g < hi) :
    Wrote e' lo hi w w1 ∧ Shape p e' e lo hi w1 A n c (i + 1) := by
  have hw : Wrote e' lo hi w w1 := ⟨some g, hg, fun k hk => by
    injection hk with hk
    subst hk
    exact ⟨hlo, hhi, cs, _, hb, hb1, setAll_size _ _ _⟩⟩
  refine ⟨hw, h.o.wrote hw, fun j h1 h2 => ?_⟩
  obtain ⟨ad, pre, B, m, c2, a, b, d, k, hq⟩ := h.r j h1 h2
  obtain rfl : ad = ⟨g, 0, none⟩ := by rw [hA] at a; injection a with a; exact a.symm
  refine ⟨_, pre, B, m, c2, hA, cellsAt_blk hb1 fun q u hu => ?_, d, k.wrote hw, hq⟩
  have h3 : (i + 1) * (p + 1) ≤ j * (p + 1) := Nat.mul_le_mul_right _ h1
  rw [Nat.succ_mul] at h3
  rw [setAll_get1 _ _ _ _ (by omega)]
  exact blk_cellsAt b hb q u hu
end
theorem LiesC.at {e sz lo hi : Nat} {w : World} {B : Option Addr} {m c : Nat} (h : LiesC e sz lo hi w B m c) (h0 : 0 < m) : ∃ g cs, B = some ⟨g, 0, none⟩ ∧ lo ≤ g ∧ g < hi ∧ RX.Blk w g e cs ∧ m * sz ≤ cs.size := by
  obtain ⟨h1, h2, h⟩ := h
  rcases h with ⟨_, h⟩ | ⟨g, cs, a, b, c, d, e⟩
  · omega
  · have : m * sz ≤ _ := Nat.mul_le_mul_right sz h1
    exact ⟨g, cs, a, b, c, d, by omega⟩

end Go.Proofs.YtgphmfnkeolbcaaDoor.RX
