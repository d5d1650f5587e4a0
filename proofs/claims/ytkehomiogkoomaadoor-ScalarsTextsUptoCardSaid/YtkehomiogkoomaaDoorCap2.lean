/- Rows and blocks that lie apart. No condition. -/
import Derived.Test.YtkehomiogkoomaaDoorCap
set_option linter.unusedVariables false
set_option linter.unusedSimpArgs false
namespace Go.Proofs.YtkehomiogkoomaaDoor.RX
open Go Go.RowKit Go.Proofs.YtkehomiogkoomaaDoorW.PrintWords
section
variable {α : Type} {d : Kd α} {e : Nat} {w w1 W : World} {base : Nat} {ok : Nat → Prop} {A A1 B : Option Addr} {n c m c' : Nat} {xs ys : List α} {g : Nat}
theorem Kd.R_lt (h : d.R e w base ok (.slice A n c) xs) : ∀ k, A.map (·.block) = some k → k < w.heap.size := by
  obtain ⟨inner, ho⟩ := Kd.R_own h
  intro k hk
  exact own_lt ho k (by rw [ownB]; exact hk)
theorem Kd.R_ge (h : d.R e w base ok (.slice A n c) xs) : ∀ k, A.map (·.block) = some k → base ≤ k := by
  obtain ⟨inner, ho⟩ := Kd.R_own h
  intro k hk
  exact own_base ho k (by rw [ownB]; exact hk)
theorem rne_new (h : ∀ k, A.map (·.block) = some k → k < w.heap.size) (hle : w.heap.size ≤ g) : ∀ k, A.map (·.block) = some k → k ≠ g := fun k hk e => by have := h k hk; omega
theorem rne_step (h : ∀ k, A.map (·.block) = some k → k ≠ g) (hat : A1.map (·.block) = A.map (·.block) ∨ ∃ b, A1.map (·.block) = some b ∧ W.heap.size ≤ b) (hg : g < W.heap.size) : ∀ k, A1.map (·.block) = some k → k ≠ g := by
  intro k hk
  rcases hat with e | ⟨b, e, hb⟩
  · exact h k (e ▸ hk)
  · rw [hk] at e
    injection e with e
    omega
theorem Blk.ne {t : TypeId} {cs : Array Value} (h : Blk w g t cs) {r : Option Nat} (k : w.grownBy w1 r) (hne : ∀ k, r = some k → k ≠ g) : Blk w1 g t cs :=
  (grown_at k h.lt fun x hx e => hne x hx e.symm).trans h
theorem rrne_new (h : ∀ k, A.map (·.block) = some k → k < w.heap.size) {b : Nat} (hle : w.heap.size ≤ b) (hB : ∀ k, B.map (·.block) = some k → b ≤ k) : ∀ k, A.map (·.block) = some k → B.map (·.block) ≠ some k :=
  fun k hk e => by have := h k hk; have := hB k e; omega
theorem rrne_step (h : ∀ k, A.map (·.block) = some k → B.map (·.block) ≠ some k) (hat : A1.map (·.block) = A.map (·.block) ∨ ∃ b, A1.map (·.block) = some b ∧ W.heap.size ≤ b) (hB : ∀ k, B.map (·.block) = some k → k < W.heap.size) : ∀ k, A1.map (·.block) = some k → B.map (·.block) ≠ some k := by
  intro k hk e2
  rcases hat with e | ⟨b, e, hb⟩
  · exact h k (e ▸ hk) e2
  · rw [hk] at e
    injection e with e
    have := hB k e2
    omega
/-- a flat row stays, when another is written -/
theorem Kd.R_flat (hE : d.E = []) (h : d.R e w base ok (.slice B m c') ys) {r : Option Nat} (k : w.grownBy w1 r) (hne : ∀ k, r = some k → B.map (·.block) ≠ some k) : d.R e w1 base ok (.slice B m c') ys := by
  obtain ⟨h0, inner, ho, hr⟩ := h
  have h2 : d.R e w base (fun k => ok k ∧ r ≠ some k) (.slice B m c') ys := by
    refine ⟨fun k hk => ⟨h0 k hk, fun e => hne k e (by rw [ownB] at hk; exact hk)⟩, inner, ho, hr.imp_ (fun _ _ hp => d.M_mono (fun k hk => ?_) (d.M_bound hp))⟩
    obtain ⟨_, _, _, q, hq, _⟩ := hk
    rw [hE] at hq
    cases hq
  exact Kd.R_mono (Kd.R_grown h2 k (fun k hk e => hk.2 e.symm)) (fun k hk => hk.1)
theorem Kd.R_down {base' : Nat} {v : Value} (h : d.R e w base (OkFrom base) v xs) (hb : base' ≤ base) : d.R e w base' (OkFrom base') v xs :=
  Kd.R_mono (Kd.R_lower h hb) (fun k hk => Nat.le_trans hb hk)
/-- two results: a cell's and a slot's -/
theorem ret_cellT {P : Program} {fn : Func} {N : Nat} {R : Ending → World → Prop} {l : Slots} {w : World} {c b : Tmp} {t : TypeId} {p : Addr} {v u : Value} (hr : fn.results = #[.cell c t, .tmp b]) (hl : look l c = some (.pointer (some p))) (h : (loadVar t p).run P w = .ok v w) (hb : look l b = some u) (hR : R (.returned (.tuple #[v, u])) w)  (hds : dsOf l = [] := by kernel_rfl) : retS P fn N R .ret l w := by
  refine ⟨hds, _, fun a ha => ?_, hR⟩
  have h3 : a.tmps.getD c undef = .pointer (some p) := by
    have := ha.at_ c _ hl
    simp [Array.getD_eq_getD_getElem?, this]
  have h4 : a.tmps.getD b undef = u := by
    have := ha.at_ b _ hb
    simp [Array.getD_eq_getD_getElem?, this]
  unfold results
  rw [hr, Array.mapM_eq_mapM_toList]
  simp only [Sem.run_bind, Sem.run_map, Sem.run_pure, List.mapM_cons, List.mapM_nil, h3, h4, asAddr, Result.andThen_ok, h]
  simp
end
end Go.Proofs.YtkehomiogkoomaaDoor.RX
