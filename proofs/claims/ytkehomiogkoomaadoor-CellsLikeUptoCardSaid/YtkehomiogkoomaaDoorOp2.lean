/- Elements with memory of their own beside a row; rows of operations that share their attributes' memory. No condition. -/
import Derived.Test.YtkehomiogkoomaaDoorOp
set_option linter.unusedVariables false
set_option linter.unusedSimpArgs false
set_option maxRecDepth 100000
namespace Go.Proofs.YtkehomiogkoomaaDoor.RX
open Go Go.RowKit Go.Proofs.YtkehomiogkoomaaDoorW.PrintWords

theorem Kd.M_apart {α β : Type} {d : Kd α} {d' : Kd β} {e' : Nat} {w : World} {base base' : Nat} {x : α} {cs : List Value} {A : Option Addr} {n c : Nat} {ys : List β} {ok' : Nat → Prop} (h : d.M w base (OkFrom base) x cs) (hb : base' ≤ base)
    (h' : d'.R e' w base' ok' (.slice A n c) ys) (hne : d.E.contains e' = false) : ∃ okp, d.M w base' okp x cs ∧ ∀ k, okp k → OkFrom base' k ∧ some k ≠ A.map (·.block) := by
  cases A with
  | none => exact ⟨OkFrom base, d.M_lower hb h, fun k hk => ⟨Nat.le_trans hb hk, by simp⟩⟩
  | some ad =>
    obtain ⟨inner, ho⟩ := Kd.R_own h'
    obtain ⟨cells, hbl⟩ := own_typed ho ad.block rfl
    refine ⟨_, d.M_lower hb (d.M_bound h), fun k hk => ⟨Nat.le_trans hb hk.1, fun e => ?_⟩⟩
    obtain ⟨_, _, _, q, hq, cs', hc⟩ := hk
    obtain rfl : k = ad.block := by simpa using e
    rw [hbl] at hc
    injection hc with hc
    injection hc with _ hq' _
    subst hq'
    rw [List.contains_iff_mem.2 hq] at hne
    cases hne
theorem kOp_M0 {w : World} {base : Nat} {ok : Nat → Prop} (x : OpA) (h : x.attrs = []) : kOp.M w base ok x (opV x none 0) := by
  obtain ⟨k, t, a, b, s, c, at9⟩ := x
  obtain rfl : at9 = [] := h
  exact kOp_M kAttrs_nil
theorem repsOp0 {w : World} {base : Nat} {ok : Nat → Prop} : ∀ (xs : List OpA), (∀ x ∈ xs, x.attrs = []) → Reps (kOp.M w base ok) 7 xs (xs.flatMap fun x => opV x none 0)
  | [], _ => Reps.none _ _
  | x :: xs, h => by
    have hs : Reps (kOp.M w base ok) 7 [x] (opV x none 0) := by
      have := (Reps.none (kOp.M w base ok) 7).snoc (kOp_M0 x (h x List.mem_cons_self)) rfl
      simpa using this
    have := Kd.reps_append hs (repsOp0 xs fun y hy => h y (List.mem_cons_of_mem _ hy))
    simpa using this

/-- cells as they are -/
def kRaw (n : Nat) : Kd (List Value) where
  sz := n
  E := []
  K := fun _ x cs => cs = x ∧ x.length = n ∧ ∀ u ∈ x, u.oneCell' = true
  M := fun _ _ _ x cs => cs = x ∧ x.length = n ∧ ∀ u ∈ x, u.oneCell' = true
  K_len := fun h => by rw [h.1]; exact h.2.1
  K_one := fun h => by rw [h.1]; exact h.2.2
  K_below := fun _ h => h
  K_of_M := fun h => h
  M_mono := fun _ h => h
  M_bound := fun h => h
  M_move := fun _ h => h
  M_lower := fun _ h => h
theorem Kd.C_ofRaw {α : Type} {d : Kd α} (z : α) {w : World} {A : Option Addr} {n : Nat} {xs : List α} {vs : List (List Value)} (h : (kRaw d.sz).C w A n vs) (hl : xs.length = n) (hK : ∀ i, i < n → d.K w (xs.getD i z) (vs.getD i [])) : d.C w A n xs := by
  obtain ⟨h1, h2, h3⟩ := h
  refine ⟨hl, h2, fun h0 => ?_⟩
  obtain ⟨ad, e, hc⟩ := h3 h0
  refine ⟨ad, e, fun j p hj => ?_⟩
  have hj1 := (List.getElem?_eq_some_iff.1 hj).1
  have hj2 : j < vs.length := by omega
  obtain ⟨c, a, b, cc⟩ := hc j _ (List.getElem?_eq_getElem hj2)
  have hk := hK j (by omega)
  rw [List.getD_eq_getElem?_getD, hj, List.getD_eq_getElem?_getD, List.getElem?_eq_getElem hj2] at hk
  obtain ⟨rfl, _⟩ := b
  exact ⟨_, a, hk, cc⟩

/-- a row of the call's own, whose elements' memory is its own too, or lay there from W0 on -/
def Mix {α : Type} (d : Kd α) (z : α) (e : Nat) (W0 w : World) (A : Option Addr) (n c : Nat) (xs : List α) : Prop :=
  ∃ vs, (kRaw d.sz).R e w W0.heap.size (OkFrom W0.heap.size) (.slice A n c) vs ∧ vs.length = xs.length ∧
    ∀ i, i < xs.length → d.M w W0.heap.size (fun k => OkFrom W0.heap.size k ∧ some k ≠ A.map (·.block)) (xs.getD i z) (vs.getD i []) ∨ d.K W0 (xs.getD i z) (vs.getD i [])
section
variable {α : Type} {d : Kd α} {z : α} {e : Nat} {W0 W w w1 : World} {A A' : Option Addr} {n c m c' : Nat} {xs ys : List α}
theorem Mix.len (h : Mix d z e W0 w A n c xs) : n = xs.length ∧ n ≤ c := by
  obtain ⟨vs, hR, hl, _⟩ := h
  obtain ⟨h1, h2⟩ := Kd.R_len hR
  exact ⟨by omega, h2⟩
theorem Mix.C (hB : Below W0.heap.size W0 w) (h : Mix d z e W0 w A n c xs) : d.C w A n xs := by
  obtain ⟨h1, h2⟩ := h.len
  obtain ⟨vs, hR, hl, hK⟩ := h
  refine Kd.C_ofRaw z (Kd.R_C hR) h1.symm fun i hi => ?_
  rcases hK i (by omega) with h | h
  · exact d.K_of_M h
  · exact d.K_below hB h
theorem Mix.below (hb : Below w.heap.size w w1) (h : Mix d z e W0 w A n c xs) : Mix d z e W0 w1 A n c xs := by
  obtain ⟨vs, hR, hl, hK⟩ := h
  refine ⟨vs, Kd.R_below hR hb, hl, fun i hi => ?_⟩
  rcases hK i hi with h | h
  · exact .inl (Kd.M_below h hb)
  · exact .inr h
end
end Go.Proofs.YtkehomiogkoomaaDoor.RX
