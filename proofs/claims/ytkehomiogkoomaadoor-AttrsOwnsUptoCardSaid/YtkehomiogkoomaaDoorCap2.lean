import Derived.Test.YtkehomiogkoomaaDoorKd
/- Cells that function values have captured, and rows beside them. No condition. -/

set_option linter.unusedVariables false
set_option linter.unusedSimpArgs false
namespace Go.Proofs.YtkehomiogkoomaaDoor.RX
open Go Go.RowKit Go.Proofs.YtkehomiogkoomaaDoorW.PrintWords
theorem grown_at {w w1 : World} {r : Option Nat} (k : w.grownBy w1 r) {g : Nat} (hg : g < w.heap.size) (hne : ∀ x, r = some x → g ≠ x) : w1.heap[g]? = w.heap[g]? := by
  obtain ⟨_, _, _, _, h⟩ := k
  exact h g hg (fun e => hne g e.symm rfl)
theorem Blk.own {w w1 : World} {g : Nat} {t : TypeId} {cs : Array Value} {r : Option Nat} {base : Nat} (h : Blk w g t cs) (k : w.grownBy w1 r) (hle : ∀ x, r = some x → base ≤ x) (hg : g < base) : Blk w1 g t cs :=
  (grown_at k h.lt fun x hx e => by have := hle x hx; omega).trans h
theorem Blk.other {w w1 : World} {g g' : Nat} {t : TypeId} {cs : Array Value} (h : Blk w g t cs) (k : w.grownBy w1 (some g')) (hne : g ≠ g') : Blk w1 g t cs :=
  (grown_at k h.lt fun x hx e => by injection hx with hx; omega).trans h
theorem Kd.R_past {α : Type} {d : Kd α} {e : Nat} {w w1 : World} {base g : Nat} {v : Value} {xs : List α} (h : d.R e w base (OkFrom base) v xs) (k : w.grownBy w1 (some g)) (hg : g < base) : d.R e w1 base (OkFrom base) v xs :=
  Kd.R_step h fun j hj hlt => grown_at k hlt fun x hx e => by injection hx with hx; subst hx; subst e; have : base ≤ j := hj; omega
end Go.Proofs.YtkehomiogkoomaaDoor.RX
/- Rows and blocks that lie apart. No condition. -/

set_option linter.unusedVariables false
set_option linter.unusedSimpArgs false
namespace Go.Proofs.YtkehomiogkoomaaDoor.RX
open Go Go.RowKit Go.Proofs.YtkehomiogkoomaaDoorW.PrintWords
section
variable {α : Type} {d : Kd α} {e : Nat} {w w1 W : World} {base : Nat} {ok : Nat → Prop} {A A1 B : Option Addr} {n c m c' : Nat} {xs ys : List α} {g : Nat}
theorem Kd.R_lt (h : d.R e w base ok (.slice A n c) xs) : ∀ k, A.map (·.block) = some k → k < w.heap.size := by
  obtain ⟨inner, ho⟩ := Kd.R_own h
  intro k hk
  exact own_lt ho k (by rw [ownB]; exact hk)
theorem Kd.R_ge (h : d.R e w base ok (.slice A n c) xs) : ∀ k, A.map (·.block) = some k → base ≤ k := by
  obtain ⟨inner, ho⟩ := Kd.R_own h
  intro k hk
  exact own_base ho k (by rw [ownB]; exact hk)
theorem rne_new (h : ∀ k, A.map (·.block) = some k → k < w.heap.size) (hle : w.heap.size ≤ g) : ∀ k, A.map (·.block) = some k → k ≠ g := fun k hk e => by have := h k hk; omega
theorem rne_step (h : ∀ k, A.map (·.block) = some k → k ≠ g) (hat : A1.map (·.block) = A.map (·.block) ∨ ∃ b, A1.map (·.block) = some b ∧ W.heap.size ≤ b) (hg : g < W.heap.size) : ∀ k, A1.map (·.block) = some k → k ≠ g := by
  intro k hk
  rcases hat with e | ⟨b, e, hb⟩
  · exact h k (e ▸ hk)
  · rw [hk] at e
    injection e with e
    omega
theorem Blk.ne {t : TypeId} {cs : Array Value} (h : Blk w g t cs) {r : Option Nat} (k : w.grownBy w1 r) (hne : ∀ k, r = some k → k ≠ g) : Blk w1 g t cs :=
  (grown_at k h.lt fun x hx e => hne x hx e.symm).trans h
/-- a flat row stays, when another is written -/
theorem Kd.R_flat (hE : d.E = []) (h : d.R e w base ok (.slice B m c') ys) {r : Option Nat} (k : w.grownBy w1 r) (hne : ∀ k, r = some k → B.map (·.block) ≠ some k) : d.R e w1 base ok (.slice B m c') ys := by
  obtain ⟨h0, inner, ho, hr⟩ := h
  have h2 : d.R e w base (fun k => ok k ∧ r ≠ some k) (.slice B m c') ys := by
    refine ⟨fun k hk => ⟨h0 k hk, fun e => hne k e (by rw [ownB] at hk; exact hk)⟩, inner, ho, hr.imp_ (fun _ _ hp => d.M_mono (fun k hk => ?_) (d.M_bound hp))⟩
    obtain ⟨_, _, _, q, hq, _⟩ := hk
    rw [hE] at hq
    cases hq
  exact Kd.R_mono (Kd.R_grown h2 k (fun k hk e => hk.2 e.symm)) (fun k hk => hk.1)
/-- two results: a cell's and a slot's -/
theorem ret_cellT {P : Program} {fn : Func} {N : Nat} {R : Ending → World → Prop} {l : Slots} {w : World} {c b : Tmp} {t : TypeId} {p : Addr} {v u : Value} (hr : fn.results = #[.cell c t, .tmp b]) (hl : look l c = some (.pointer (some p))) (h : (loadVar t p).run P w = .ok v w) (hb : look l b = some u) (hR : R (.returned (.tuple #[v, u])) w)  (hds : dsOf l = [] := by kernel_rfl) : retS P fn N R .ret l w := by
  refine ⟨hds, _, fun a ha => ?_, hR⟩
  have h3 : a.tmps.getD c undef = .pointer (some p) := by
    have := ha.at_ c _ hl
    simp [Array.getD_eq_getD_getElem?, this]
  have h4 : a.tmps.getD b undef = u := by
    have := ha.at_ b _ hb
    simp [Array.getD_eq_getD_getElem?, this]
  unfold results
  rw [hr, Array.mapM_eq_mapM_toList]
  simp only [Sem.run_bind, Sem.run_map, Sem.run_pure, List.mapM_cons, List.mapM_nil, h3, h4, asAddr, Result.andThen_ok, h]
  simp
end
end Go.Proofs.YtkehomiogkoomaaDoor.RX
