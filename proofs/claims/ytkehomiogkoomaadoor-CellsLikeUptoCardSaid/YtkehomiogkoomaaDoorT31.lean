import Derived.Test.YtkehomiogkoomaaDoorCell
import Derived.Test.YtkehomiogkoomaaDoorMixK
import Derived.Test.YtkehomiogkoomaaDoorOver
import Derived.Test.YtkehomiogkoomaaDoorSpare
import Derived.Test.YtkehomiogkoomaaDoorT30
/- vellumref06.Canonical by its loop: gaps of inserts, deletes counted. No condition. -/
set_option linter.unusedVariables false
set_option linter.unusedSimpArgs false
set_option maxRecDepth 100000
namespace Go.Proofs.YtkehomiogkoomaaDoor
open Go Go.RowKit Go.Proofs.YtkehomiogkoomaaDoorW.PrintWords RX
namespace B
section
variable {xs out gap : List OpA} {g : Int} {i : Nat}
end
end B
namespace RX
theorem MixK.off {α : Type} {d : Kd α} {z : α} {e B : Nat} {W0 w w1 : World} {A : Option Addr} {n c : Nat} {xs : List α} {r : Option Nat} (h : MixK d z e B W0 w A n c xs) (k : w.grownBy w1 r) (hne : ∀ x, r = some x → A.map (·.block) ≠ some x) : MixK d z e B W0 w1 A n c xs := by
  obtain ⟨vs, hR, hl, hK⟩ := h
  exact ⟨vs, Kd.R_flat rfl hR k hne, hl, hK⟩
/-- two rows' blocks, apart -/
def Apt (A A' : Option Addr) : Prop := ∀ x, A.map (·.block) = some x → A'.map (·.block) ≠ some x
theorem Apt.none (A' : Option Addr) : Apt .none A' := fun x h => by cases h
theorem Apt.symm {A A' : Option Addr} (h : Apt A A') : Apt A' A := fun x h1 h2 => h x h2 h1
end RX
end Go.Proofs.YtkehomiogkoomaaDoor
/- vellumref06.Canonical: B.can. Conditions: sizes, good operations. -/
set_option linter.unusedVariables false
set_option linter.unusedSimpArgs false
set_option maxRecDepth 100000
namespace Go.Proofs.YtkehomiogkoomaaDoor
open Go Go.RowKit Go.Proofs.YtkehomiogkoomaaDoorW.PrintWords RX
namespace B
end B
/-- a list of operations that lies at w, their attributes as they lay at W0 -/
def RX.OpK (W0 w : World) (A : Option Addr) (n : Nat) (xs : List OpA) : Prop := n ≤ 9223372036854775807 ∧ ∀ i : Int, 0 ≤ i → i < n → ∃ ad B c, A = some ad ∧ CellsAt w (ad.add (i.toNat * 7)) (opV (xs.getD i.toNat op0) B c) ∧ (xs.getD i.toNat op0).attrs.length ≤ c ∧ kAttr.C W0 B (xs.getD i.toNat op0).attrs.length (xs.getD i.toNat op0).attrs
theorem RX.OpK.op {W0 w : World} {A : Option Addr} {n : Nat} {xs : List OpA} (h : RX.OpK W0 w A n xs) {i : Int} (h0 : 0 ≤ i) (h1 : i < n) : ∃ ad B c, A = some ad ∧ CellsAt w (ad.add (i.toNat * 7)) (opV (xs.getD i.toNat op0) B c) ∧ (xs.getD i.toNat op0).attrs.length ≤ c ∧ kAttr.C W0 B (xs.getD i.toNat op0).attrs.length (xs.getD i.toNat op0).attrs := h.2 i h0 h1
theorem RX.OpK.below {W0 w w1 : World} {A : Option Addr} {n : Nat} {xs : List OpA} (h : RX.OpK W0 w A n xs) (hb : Below w.heap.size w w1) : RX.OpK W0 w1 A n xs := ⟨h.1, fun i h0 h1 => by
 obtain ⟨ad, B, c, a, b, d⟩ := h.2 i h0 h1
 exact ⟨ad, B, c, a, cells_below b hb, d⟩⟩
end Go.Proofs.YtkehomiogkoomaaDoor
/- Rows of cells whose attributes lie elsewhere or are new. No condition. -/
set_option linter.unusedVariables false
set_option maxRecDepth 100000
namespace Go.Proofs.YtkehomiogkoomaaDoor.RX
open Go Go.RowKit Go.Proofs.YtkehomiogkoomaaDoor Go.Proofs.YtkehomiogkoomaaDoorW.PrintWords
section
variable {α : Type} {d : Kd α} {z : α} {e B : Nat} {W0 W w w1 : World} {A A' : Option Addr} {n c m c' : Nat} {xs ys : List α}
theorem MixK.one {b2 : Nat} {x : α} {cs : List Value} (h : (kRaw d.sz).R e w b2 (OkFrom b2) (.slice A n c) [cs]) (hK : d.K W0 x cs) (hb : B ≤ b2) : MixK d z e B W0 w A n c [x] :=
  ⟨[cs], Kd.R_low h hb, rfl, fun i hi => by
    obtain rfl : i = 0 := by simp at hi; exact hi
    exact hK⟩
/-- a walk over a string's scalars has moved -/
theorem MixK.iter {g p : Nat} {s : ByteArray} (h : MixK d z e B W0 w A n c xs) (hg : w.heap[g]? = some (.stringIter s p)) (k : w.grownBy w1 (some g)) : MixK d z e B W0 w1 A n c xs := by
  obtain ⟨vs, h1, h2, h3⟩ := h
  exact ⟨vs, Kd.R_iter h1 hg k, h2, h3⟩
theorem MixK.all (h : MixK d z e B W0 w A n c xs) : ∃ vs2, (kRaw d.sz).C w A n vs2 ∧ ∀ i, i < n → d.K W0 (xs.getD i z) (vs2.getD i []) := by
  obtain ⟨h1, _⟩ := h.len
  obtain ⟨vs, hR, hl, hK⟩ := h
  exact ⟨vs, Kd.R_C hR, fun i hi => hK i (by omega)⟩
theorem Mix.nil {b2 : Nat} (h : d.R e w b2 (OkFrom b2) (.slice A n c) []) (hb : W0.heap.size ≤ b2) : Mix d z e W0 w A n c [] := by
  obtain ⟨vs, h1, h2, _⟩ := Kd.R_raw2 z h
  exact ⟨vs, Kd.R_low h1 hb, h2, fun i hi => absurd hi (Nat.not_lt_zero _)⟩
/-- a row of another type's blocks is apart from this one -/
theorem Mix.apart {β : Type} {d' : Kd β} {e' b2 : Nat} {v : Value} {zs : List β} (h : d'.R e' w b2 (OkFrom b2) v zs) (hb : W0.heap.size ≤ b2) (HO : Mix d z e W0 w A n c xs) (hne : (e' :: d'.E).contains e = false) : (Kd.slice e' d').M w W0.heap.size (fun k => OkFrom W0.heap.size k ∧ some k ≠ A.map (·.block)) zs [v] := by
  obtain ⟨vs, hR, _⟩ := HO
  obtain ⟨okp, hM, hk⟩ := Kd.M_rowApart h hb hR hne
  exact (Kd.slice e' d').M_mono hk hM
theorem Mix.lt (h : Mix d z e W0 w A n c xs) : ∀ k, A.map (·.block) = some k → k < w.heap.size := by
  obtain ⟨vs, hR, _⟩ := h
  exact Kd.R_lt hR
end
end Go.Proofs.YtkehomiogkoomaaDoor.RX
/- The reference of layer cells: documents of cells. Conditions: sizes, the tables of utf8. -/
set_option linter.unusedVariables false
set_option linter.unusedSimpArgs false
set_option maxRecDepth 100000
namespace Go.Proofs.YtkehomiogkoomaaDoor
open Go Go.RowKit Go.Proofs.YtkehomiogkoomaaDoorW.PrintWords RX
theorem docSz {cs : List CellA} (h : ∀ c ∈ cs, B.cErr c = 0) (hz : ∀ i, i < cs.length → B.cellSz (cs.getD i cell0)) : (∀ i, i < (cs.map B.opC).length → opSz ((cs.map B.opC).getD i op0)) ∧ B.txS (cs.map B.opC) ≤ 64 * cs.length := by
 have hz' : ∀ c ∈ cs, B.cellSz c := fun c hc => by
  obtain ⟨i, hi, rfl⟩ := List.mem_iff_getElem.1 hc
  have := hz i hi
  rwa [List.getD_eq_getElem?_getD, List.getElem?_eq_getElem hi] at this
 refine ⟨fun i hi => ?_, B.doc_tx cs fun c hc => ⟨h c hc, hz' c hc⟩⟩
 have hm := getD_mem op0 hi
 obtain ⟨c, hc, e⟩ := List.mem_map.1 hm
 rw [← e]
 exact (B.op_sz (h c hc) (hz' c hc)).1
end Go.Proofs.YtkehomiogkoomaaDoor
