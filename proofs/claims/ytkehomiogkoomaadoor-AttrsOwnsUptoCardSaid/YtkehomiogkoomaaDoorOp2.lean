/- Elements with memory of their own beside a row; rows of operations that share their attributes' memory. No condition. -/
import Derived.Test.YtkehomiogkoomaaDoorOp
set_option linter.unusedVariables false
set_option linter.unusedSimpArgs false
set_option maxRecDepth 100000
namespace Go.Proofs.YtkehomiogkoomaaDoor.RX
open Go Go.RowKit Go.Proofs.YtkehomiogkoomaaDoorW.PrintWords

/-- cells as they are -/
def kRaw (n : Nat) : Kd (List Value) where
  sz := n
  E := []
  K := fun _ x cs => cs = x ∧ x.length = n ∧ ∀ u ∈ x, u.oneCell' = true
  M := fun _ _ _ x cs => cs = x ∧ x.length = n ∧ ∀ u ∈ x, u.oneCell' = true
  K_len := fun h => by rw [h.1]; exact h.2.1
  K_one := fun h => by rw [h.1]; exact h.2.2
  K_below := fun _ h => h
  K_of_M := fun h => h
  M_mono := fun _ h => h
  M_bound := fun h => h
  M_move := fun _ h => h
  M_lower := fun _ h => h
theorem Kd.C_ofRaw {α : Type} {d : Kd α} (z : α) {w : World} {A : Option Addr} {n : Nat} {xs : List α} {vs : List (List Value)} (h : (kRaw d.sz).C w A n vs) (hl : xs.length = n) (hK : ∀ i, i < n → d.K w (xs.getD i z) (vs.getD i [])) : d.C w A n xs := by
  obtain ⟨h1, h2, h3⟩ := h
  refine ⟨hl, h2, fun h0 => ?_⟩
  obtain ⟨ad, e, hc⟩ := h3 h0
  refine ⟨ad, e, fun j p hj => ?_⟩
  have hj1 := (List.getElem?_eq_some_iff.1 hj).1
  have hj2 : j < vs.length := by omega
  obtain ⟨c, a, b, cc⟩ := hc j _ (List.getElem?_eq_getElem hj2)
  have hk := hK j (by omega)
  rw [List.getD_eq_getElem?_getD, hj, List.getD_eq_getElem?_getD, List.getElem?_eq_getElem hj2] at hk
  obtain ⟨rfl, _⟩ := b
  exact ⟨_, a, hk, cc⟩

/-- a row of the call's own, whose elements' memory is its own too, or lay there from W0 on -/
def Mix {α : Type} (d : Kd α) (z : α) (e : Nat) (W0 w : World) (A : Option Addr) (n c : Nat) (xs : List α) : Prop :=
  ∃ vs, (kRaw d.sz).R e w W0.heap.size (OkFrom W0.heap.size) (.slice A n c) vs ∧ vs.length = xs.length ∧
    ∀ i, i < xs.length → d.M w W0.heap.size (fun k => OkFrom W0.heap.size k ∧ some k ≠ A.map (·.block)) (xs.getD i z) (vs.getD i []) ∨ d.K W0 (xs.getD i z) (vs.getD i [])
section
variable {α : Type} {d : Kd α} {z : α} {e : Nat} {W0 W w w1 : World} {A A' : Option Addr} {n c m c' : Nat} {xs ys : List α}
theorem Mix.of_R (h : d.R e w W0.heap.size (OkFrom W0.heap.size) (.slice A n c) xs) : Mix d z e W0 w A n c xs := by
  obtain ⟨h0, inner, ho, hr⟩ := h
  have hd : ∀ i, i < xs.length → d.M w W0.heap.size (fun k => OkFrom W0.heap.size k ∧ some k ≠ A.map (·.block)) (xs.getD i z) ((inner.drop (i * d.sz)).take d.sz) := by
    intro i hi
    have := hr.2 i _ (List.getElem?_eq_getElem hi)
    rw [List.getD_eq_getElem?_getD, List.getElem?_eq_getElem hi]
    rw [ownB] at this
    exact this
  have hg : ∀ i, i < xs.length → ((List.range xs.length).map fun i => (inner.drop (i * d.sz)).take d.sz).getD i [] = (inner.drop (i * d.sz)).take d.sz := by
    intro i hi
    rw [List.getD_eq_getElem?_getD, List.getElem?_map, List.getElem?_range hi]; rfl
  refine ⟨(List.range xs.length).map fun i => (inner.drop (i * d.sz)).take d.sz, ⟨h0, inner, by rw [List.length_map, List.length_range]; exact ho, ?_, fun j p hj => ?_⟩, by simp, fun i hi => .inl ?_⟩
  · rw [List.length_map, List.length_range]; exact hr.1
  · have hj1 := (List.getElem?_eq_some_iff.1 hj).1
    rw [List.length_map, List.length_range] at hj1
    rw [List.getElem?_map, List.getElem?_range hj1] at hj
    injection hj with hj
    subst hj
    have hM := hd j hj1
    exact ⟨rfl, d.K_len (d.K_of_M hM), d.K_one (d.K_of_M hM)⟩
  · rw [hg i hi]; exact hd i hi
theorem Mix.len (h : Mix d z e W0 w A n c xs) : n = xs.length ∧ n ≤ c := by
  obtain ⟨vs, hR, hl, _⟩ := h
  obtain ⟨h1, h2⟩ := Kd.R_len hR
  exact ⟨by omega, h2⟩
theorem Mix.C (hB : Below W0.heap.size W0 w) (h : Mix d z e W0 w A n c xs) : d.C w A n xs := by
  obtain ⟨h1, h2⟩ := h.len
  obtain ⟨vs, hR, hl, hK⟩ := h
  refine Kd.C_ofRaw z (Kd.R_C hR) h1.symm fun i hi => ?_
  rcases hK i (by omega) with h | h
  · exact d.K_of_M h
  · exact d.K_below hB h
theorem Mix.below (hb : Below w.heap.size w w1) (h : Mix d z e W0 w A n c xs) : Mix d z e W0 w1 A n c xs := by
  obtain ⟨vs, hR, hl, hK⟩ := h
  refine ⟨vs, Kd.R_below hR hb, hl, fun i hi => ?_⟩
  rcases hK i hi with h | h
  · exact .inl (Kd.M_below h hb)
  · exact .inr h
end
end Go.Proofs.YtkehomiogkoomaaDoor.RX
