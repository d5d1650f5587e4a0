import Derived.Test.YtkehomiogkoomaaDoorKd
/- Cells that function values have captured, and rows beside them. No condition. -/

set_option linter.unusedVariables false
set_option linter.unusedSimpArgs false
namespace Go.Proofs.YtkehomiogkoomaaDoor.RX
open Go Go.RowKit Go.Proofs.YtkehomiogkoomaaDoorW.PrintWords
theorem grown_at {w w1 : World} {r : Option Nat} (k : w.grownBy w1 r) {g : Nat} (hg : g < w.heap.size) (hne : ∀ x, r = some x → g ≠ x) : w1.heap[g]? = w.heap[g]? := by
  obtain ⟨_, _, _, _, h⟩ := k
  exact h g hg (fun e => hne g e.symm rfl)
theorem Blk.own {w w1 : World} {g : Nat} {t : TypeId} {cs : Array Value} {r : Option Nat} {base : Nat} (h : Blk w g t cs) (k : w.grownBy w1 r) (hle : ∀ x, r = some x → base ≤ x) (hg : g < base) : Blk w1 g t cs :=
  (grown_at k h.lt fun x hx e => by have := hle x hx; omega).trans h
theorem Blk.other {w w1 : World} {g g' : Nat} {t : TypeId} {cs : Array Value} (h : Blk w g t cs) (k : w.grownBy w1 (some g')) (hne : g ≠ g') : Blk w1 g t cs :=
  (grown_at k h.lt fun x hx e => by injection hx with hx; omega).trans h
theorem Kd.R_past {α : Type} {d : Kd α} {e : Nat} {w w1 : World} {base g : Nat} {v : Value} {xs : List α} (h : d.R e w base (OkFrom base) v xs) (k : w.grownBy w1 (some g)) (hg : g < base) : d.R e w1 base (OkFrom base) v xs :=
  Kd.R_step h fun j hj hlt => grown_at k hlt fun x hx e => by injection hx with hx; subst hx; subst e; have : base ≤ j := hj; omega
end Go.Proofs.YtkehomiogkoomaaDoor.RX
/- Rows and blocks that lie apart. No condition. -/

set_option linter.unusedVariables false
set_option linter.unusedSimpArgs false
namespace Go.Proofs.YtkehomiogkoomaaDoor.RX
open Go Go.RowKit Go.Proofs.YtkehomiogkoomaaDoorW.PrintWords
section
variable {α : Type} {d : Kd α} {e : Nat} {w w1 W : World} {base : Nat} {ok : Nat → Prop} {A A1 B : Option Addr} {n c m c' : Nat} {xs ys : List α} {g : Nat}
theorem Kd.R_lt (h : d.R e w base ok (.slice A n c) xs) : ∀ k, A.map (·.block) = some k → k < w.heap.size := by
  obtain ⟨inner, ho⟩ := Kd.R_own h
  intro k hk
  exact own_lt ho k (by rw [ownB]; exact hk)
theorem Kd.R_ge (h : d.R e w base ok (.slice A n c) xs) : ∀ k, A.map (·.block) = some k → base ≤ k := by
  obtain ⟨inner, ho⟩ := Kd.R_own h
  intro k hk
  exact own_base ho k (by rw [ownB]; exact hk)
theorem rne_new (h : ∀ k, A.map (·.block) = some k → k < w.heap.size) (hle : w.heap.size ≤ g) : ∀ k, A.map (·.block) = some k → k ≠ g := fun k hk e => by have := h k hk; omega
theorem rne_step (h : ∀ k, A.map (·.block) = some k → k ≠ g) (hat : A1.map (·.block) = A.map (·.block) ∨ ∃ b, A1.map (·.block) = some b ∧ W.heap.size ≤ b) (hg : g < W.heap.size) : ∀ k, A1.map (·.block) = some k → k ≠ g := by
  intro k hk
  rcases hat with e | ⟨b, e, hb⟩
  · exact h k (e ▸ hk)
  · rw [hk] at e
    injection e with e
    omega
theorem Blk.ne {t : TypeId} {cs : Array Value} (h : Blk w g t cs) {r : Option Nat} (k : w.grownBy w1 r) (hne : ∀ k, r = some k → k ≠ g) : Blk w1 g t cs :=
  (grown_at k h.lt fun x hx e => hne x hx e.symm).trans h
/-- a flat row stays, when another is written -/
theorem Kd.R_flat (hE : d.E = []) (h : d.R e w base ok (.slice B m c') ys) {r : Option Nat} (k : w.grownBy w1 r) (hne : ∀ k, r = some k → B.map (·.block) ≠ some k) : d.R e w1 base ok (.slice B m c') ys := by
  obtain ⟨h0, inner, ho, hr⟩ := h
  have h2 : d.R e w base (fun k => ok k ∧ r ≠ some k) (.slice B m c') ys := by
    refine ⟨fun k hk => ⟨h0 k hk, fun e => hne k e (by rw [ownB] at hk; exact hk)⟩, inner, ho, hr.imp_ (fun _ _ hp => d.M_mono (fun k hk => ?_) (d.M_bound hp))⟩
    obtain ⟨_, _, _, q, hq, _⟩ := hk
    rw [hE] at hq
    cases hq
  exact Kd.R_mono (Kd.R_grown h2 k (fun k hk e => hk.2 e.symm)) (fun k hk => hk.1)
/-- two results: a cell's and a slot's -/
theorem ret_cellT {P : Program} {fn : Func} {N : Nat} {R : Ending → World → Prop} {l : Slots} {w : World} {c b : Tmp} {t : TypeId} {p : Addr} {v u : Value} (hr : fn.results = #[.cell c t, .tmp b]) (hl : look l c = some (.pointer (some p))) (h : (loadVar t p).run P w = .ok v w) (hb : look l b = some u) (hR : R (.returned (.tuple #[v, u])) w)  (hds : dsOf l = [] := by kernel_rfl) : retS P fn N R .ret l w := by
  refine ⟨hds, _, fun a ha => ?_, hR⟩
  have h3 : a.tmps.getD c undef = .pointer (some p) := by
    have := ha.at_ c _ hl
    simp [Array.getD_eq_getD_getElem?, this]
  have h4 : a.tmps.getD b undef = u := by
    have := ha.at_ b _ hb
    simp [Array.getD_eq_getD_getElem?, this]
  unfold results
  rw [hr, Array.mapM_eq_mapM_toList]
  simp only [Sem.run_bind, Sem.run_map, Sem.run_pure, List.mapM_cons, List.mapM_nil, h3, h4, asAddr, Result.andThen_ok, h]
  simp
end
end Go.Proofs.YtkehomiogkoomaaDoor.RX
/- Kinds of elements: renamed, boxed in an interface, of two sorts. No condition. -/

set_option linter.unusedVariables false
set_option linter.unusedSimpArgs false
namespace Go.Proofs.YtkehomiogkoomaaDoor.RX
open Go Go.RowKit Go.Proofs.YtkehomiogkoomaaDoorW.PrintWords

def Kd.comap {α β : Type} (f : β → α) (d : Kd α) : Kd β where
  sz := d.sz
  E := d.E
  K := fun w x cs => d.K w (f x) cs
  M := fun w b ok x cs => d.M w b ok (f x) cs
  K_len := fun h => d.K_len h
  K_one := fun h => d.K_one h
  K_below := fun hb h => d.K_below hb h
  K_of_M := fun h => d.K_of_M h
  M_mono := fun hk h => d.M_mono hk h
  M_bound := fun h => d.M_bound h
  M_move := fun hm h => d.M_move hm h
  M_lower := fun hb h => d.M_lower hb h
def Kd.boxed {α : Type} (T : Nat) (d : Kd α) : Kd α where
  sz := 1
  E := d.E
  K := fun w x cs => ∃ c, d.K w x c ∧ cs = [.iface T (.agg c.toArray)]
  M := fun w b ok x cs => ∃ c, d.M w b ok x c ∧ cs = [.iface T (.agg c.toArray)]
  K_len := fun h => by obtain ⟨c, _, rfl⟩ := h; rfl
  K_one := fun h u hu => by
    obtain ⟨c, _, rfl⟩ := h
    rw [List.mem_singleton.1 hu]
    rfl
  K_below := fun hb h => by obtain ⟨c, h, e⟩ := h; exact ⟨c, d.K_below hb h, e⟩
  K_of_M := fun h => by obtain ⟨c, h, e⟩ := h; exact ⟨c, d.K_of_M h, e⟩
  M_mono := fun hk h => by obtain ⟨c, h, e⟩ := h; exact ⟨c, d.M_mono hk h, e⟩
  M_bound := fun h => by obtain ⟨c, h, e⟩ := h; exact ⟨c, d.M_bound h, e⟩
  M_move := fun hm h => by obtain ⟨c, h, e⟩ := h; exact ⟨c, d.M_move hm h, e⟩
  M_lower := fun hb h => by obtain ⟨c, h, e⟩ := h; exact ⟨c, d.M_lower hb h, e⟩
def Kd.sum {α β : Type} (a : Kd α) (b : Kd β) (hs : b.sz = a.sz) : Kd (α ⊕ β) where
  sz := a.sz
  E := a.E ++ b.E
  K := fun w x cs => match x with
    | .inl x => a.K w x cs
    | .inr y => b.K w y cs
  M := fun w bs ok x cs => match x with
    | .inl x => a.M w bs ok x cs
    | .inr y => b.M w bs ok y cs
  K_len := fun {w x cs} h => by
    cases x with
    | inl x => exact a.K_len h
    | inr y => exact (b.K_len h).trans hs
  K_one := fun {w x cs} h => by
    cases x with
    | inl x => exact a.K_one h
    | inr y => exact b.K_one h
  K_below := fun {w w1 x cs} hb h => by
    cases x with
    | inl x => exact a.K_below hb h
    | inr y => exact b.K_below hb h
  K_of_M := fun {w bs ok x cs} h => by
    cases x with
    | inl x => exact a.K_of_M h
    | inr y => exact b.K_of_M h
  M_mono := fun {w bs ok ok' x cs} hk h => by
    cases x with
    | inl x => exact a.M_mono hk h
    | inr y => exact b.M_mono hk h
  M_bound := fun {w bs ok x cs} h => by
    cases x with
    | inl x => exact a.M_mono (fun k ⟨h1, h2, h3, q, hq, hc⟩ => ⟨h1, h2, h3, q, List.mem_append_left _ hq, hc⟩) (a.M_bound h)
    | inr y => exact b.M_mono (fun k ⟨h1, h2, h3, q, hq, hc⟩ => ⟨h1, h2, h3, q, List.mem_append_right _ hq, hc⟩) (b.M_bound h)
  M_move := fun {w w1 bs ok x cs} hm h => by
    cases x with
    | inl x => exact a.M_move hm h
    | inr y => exact b.M_move hm h
  M_lower := fun {w bs bs' ok x cs} hb h => by
    cases x with
    | inl x => exact a.M_lower hb h
    | inr y => exact b.M_lower hb h
end Go.Proofs.YtkehomiogkoomaaDoor.RX
