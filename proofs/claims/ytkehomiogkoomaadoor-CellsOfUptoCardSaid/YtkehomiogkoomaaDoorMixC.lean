import Derived.Test.YtkehomiogkoomaaDoorMixP
import Derived.Test.YtkehomiogkoomaaDoorCls
/- Rows of cells whose attributes lie elsewhere or are new. No condition. -/
set_option linter.unusedVariables false
set_option maxRecDepth 100000
namespace Go.Proofs.YtkehomiogkoomaaDoor.RX
open Go Go.RowKit Go.Proofs.YtkehomiogkoomaaDoor Go.Proofs.YtkehomiogkoomaaDoorW.PrintWords
section
variable {α : Type} {d : Kd α} {z : α} {e B : Nat} {W0 W w w1 : World} {A A' : Option Addr} {n c m c' : Nat} {xs ys : List α}
theorem MixK.one {b2 : Nat} {x : α} {cs : List Value} (h : (kRaw d.sz).R e w b2 (OkFrom b2) (.slice A n c) [cs]) (hK : d.K W0 x cs) (hb : B ≤ b2) : MixK d z e B W0 w A n c [x] :=
  ⟨[cs], Kd.R_low h hb, rfl, fun i hi => by
    obtain rfl : i = 0 := by simp at hi; exact hi
    exact hK⟩
/-- a walk over a string's scalars has moved -/
theorem MixK.iter {g p : Nat} {s : ByteArray} (h : MixK d z e B W0 w A n c xs) (hg : w.heap[g]? = some (.stringIter s p)) (k : w.grownBy w1 (some g)) : MixK d z e B W0 w1 A n c xs := by
  obtain ⟨vs, h1, h2, h3⟩ := h
  exact ⟨vs, Kd.R_iter h1 hg k, h2, h3⟩
theorem MixK.all (h : MixK d z e B W0 w A n c xs) : ∃ vs2, (kRaw d.sz).C w A n vs2 ∧ ∀ i, i < n → d.K W0 (xs.getD i z) (vs2.getD i []) := by
  obtain ⟨h1, _⟩ := h.len
  obtain ⟨vs, hR, hl, hK⟩ := h
  exact ⟨vs, Kd.R_C hR, fun i hi => hK i (by omega)⟩
theorem Mix.nil {b2 : Nat} (h : d.R e w b2 (OkFrom b2) (.slice A n c) []) (hb : W0.heap.size ≤ b2) : Mix d z e W0 w A n c [] := by
  obtain ⟨vs, h1, h2, _⟩ := Kd.R_raw2 z h
  exact ⟨vs, Kd.R_low h1 hb, h2, fun i hi => absurd hi (Nat.not_lt_zero _)⟩
/-- a row of another type's blocks is apart from this one -/
theorem Mix.apart {β : Type} {d' : Kd β} {e' b2 : Nat} {v : Value} {zs : List β} (h : d'.R e' w b2 (OkFrom b2) v zs) (hb : W0.heap.size ≤ b2) (HO : Mix d z e W0 w A n c xs) (hne : (e' :: d'.E).contains e = false) : (Kd.slice e' d').M w W0.heap.size (fun k => OkFrom W0.heap.size k ∧ some k ≠ A.map (·.block)) zs [v] := by
  obtain ⟨vs, hR, _⟩ := HO
  obtain ⟨okp, hM, hk⟩ := Kd.M_rowApart h hb hR hne
  exact (Kd.slice e' d').M_mono hk hM
theorem Mix.lt (h : Mix d z e W0 w A n c xs) : ∀ k, A.map (·.block) = some k → k < w.heap.size := by
  obtain ⟨vs, hR, _⟩ := h
  exact Kd.R_lt hR
end
theorem C_cellK {W0 w : World} {A : Option Addr} {n : Nat} {xs : List CellA} (h : kCell.C W0 A n xs) (hB : Below W0.heap.size W0 w) {i : Int} (h0 : 0 ≤ i) (h1 : i < n) : ∃ ad B c, A = some ad ∧ CellsAt w (ad.add (i.toNat * 6)) (cellV (xs.getD i.toNat cell0) B c) ∧ (xs.getD i.toNat cell0).attrs.length ≤ c ∧ kAttr.C W0 B (xs.getD i.toNat cell0).attrs.length (xs.getD i.toNat cell0).attrs := by
  obtain ⟨ad, cs, e1, hc, hK⟩ := C_atK (z := cell0) h hB h0 h1
  obtain ⟨B, c, rfl, hl, hC⟩ := kCell_K hK
  exact ⟨ad, B, c, e1, hc, hl, hC⟩
end Go.Proofs.YtkehomiogkoomaaDoor.RX
