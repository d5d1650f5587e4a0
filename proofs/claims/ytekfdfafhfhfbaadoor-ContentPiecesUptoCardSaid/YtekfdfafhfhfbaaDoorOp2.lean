/- Elements with memory of their own beside a row; rows of operations that share their attributes' memory. No condition. -/
import Derived.Test.YtekfdfafhfhfbaaDoorOp
set_option linter.unusedVariables false
set_option linter.unusedSimpArgs false
set_option maxRecDepth 100000
namespace Go.Proofs.YtekfdfafhfhfbaaDoor.RX
open Go Go.RowKit Go.Proofs.YtekfdfafhfhfbaaDoorW.PrintWords

theorem Kd.M_apart {α β : Type} {d : Kd α} {d' : Kd β} {e' : Nat} {w : World} {base base' : Nat} {x : α} {cs : List Value} {A : Option Addr} {n c : Nat} {ys : List β} {ok' : Nat → Prop} (h : d.M w base (OkFrom base) x cs) (hb : base' ≤ base)
    (h' : d'.R e' w base' ok' (.slice A n c) ys) (hne : d.E.contains e' = false) : ∃ okp, d.M w base' okp x cs ∧ ∀ k, okp k → OkFrom base' k ∧ some k ≠ A.map (·.block) := by
  cases A with
  | none => exact ⟨OkFrom base, d.M_lower hb h, fun k hk => ⟨Nat.le_trans hb hk, by simp⟩⟩
  | some ad =>
    obtain ⟨inner, ho⟩ := Kd.R_own h'
    obtain ⟨cells, hbl⟩ := own_typed ho ad.block rfl
    refine ⟨_, d.M_lower hb (d.M_bound h), fun k hk => ⟨Nat.le_trans hb hk.1, fun e => ?_⟩⟩
    obtain ⟨_, _, _, q, hq, cs', hc⟩ := hk
    obtain rfl : k = ad.block := by simpa using e
    rw [hbl] at hc
    injection hc with hc
    injection hc with _ hq' _
    subst hq'
    rw [List.contains_iff_mem.2 hq] at hne
    cases hne
theorem kOp_M0 {w : World} {base : Nat} {ok : Nat → Prop} (x : OpA) (h : x.attrs = []) : kOp.M w base ok x (opV x none 0) := by
  obtain ⟨k, t, a, b, s, c, as⟩ := x
  obtain rfl : as = [] := h
  exact kOp_M kAttrs_nil
theorem repsOp0 {w : World} {base : Nat} {ok : Nat → Prop} : ∀ (xs : List OpA), (∀ x ∈ xs, x.attrs = []) → Reps (kOp.M w base ok) 7 xs (xs.flatMap fun x => opV x none 0)
  | [], _ => Reps.none _ _
  | x :: xs, h => by
    have hs : Reps (kOp.M w base ok) 7 [x] (opV x none 0) := by
      have := (Reps.none (kOp.M w base ok) 7).snoc (kOp_M0 x (h x List.mem_cons_self)) rfl
      simpa using this
    have := Kd.reps_append hs (repsOp0 xs fun y hy => h y (List.mem_cons_of_mem _ hy))
    simpa using this

/-- cells as they are -/
def kRaw (n : Nat) : Kd (List Value) where
  sz := n
  E := []
  K := fun _ x cs => cs = x ∧ x.length = n ∧ ∀ u ∈ x, u.oneCell' = true
  M := fun _ _ _ x cs => cs = x ∧ x.length = n ∧ ∀ u ∈ x, u.oneCell' = true
  K_len := fun h => by rw [h.1]; exact h.2.1
  K_one := fun h => by rw [h.1]; exact h.2.2
  K_below := fun _ h => h
  K_of_M := fun h => h
  M_mono := fun _ h => h
  M_bound := fun h => h
  M_move := fun _ h => h
  M_lower := fun _ h => h
theorem Kd.C_raw {α : Type} {d : Kd α} (z : α) {w : World} {A : Option Addr} {n : Nat} {xs : List α} (h : d.C w A n xs) : ∃ vs, (kRaw d.sz).C w A n vs ∧ ∀ i, i < n → d.K w (xs.getD i z) (vs.getD i []) := by
  obtain ⟨h1, h2, h3⟩ := h
  by_cases h0 : n = 0
  · subst h0
    exact ⟨[], ⟨rfl, h2, fun h => by omega⟩, fun i hi => by omega⟩
  · obtain ⟨ad, e, hc⟩ := h3 (by omega)
    have each : ∀ i : Fin n, ∃ c : List Value, c.length = d.sz ∧ d.K w (xs.getD i.1 z) c ∧ ∀ j u, c[j]? = some u → w.cell? (ad.add (i.1 * d.sz + j)) = some u := by
      intro i
      have hi : i.1 < xs.length := by have := i.2; omega
      obtain ⟨c, a, b, e⟩ := hc i.1 _ (List.getElem?_eq_getElem hi)
      exact ⟨c, a, by rw [List.getD_eq_getElem?_getD, List.getElem?_eq_getElem hi]; exact b, e⟩
    obtain ⟨f, hf⟩ := Classical.axiomOfChoice each
    refine ⟨List.ofFn f, ⟨by simp, h2, fun _ => ⟨ad, e, fun j p hj => ?_⟩⟩, fun i hi => ?_⟩
    · rw [List.getElem?_ofFn] at hj
      split at hj
      · rename_i hlt
        injection hj with hj
        subst hj
        obtain ⟨a, b, c⟩ := hf ⟨j, hlt⟩
        exact ⟨_, a, ⟨rfl, a, d.K_one b⟩, c⟩
      · cases hj
    · have e2 : (List.ofFn f).getD i [] = f ⟨i, hi⟩ := by
        rw [List.getD_eq_getElem?_getD, List.getElem?_ofFn, dif_pos hi]; rfl
      rw [e2]
      exact (hf ⟨i, hi⟩).2.1
theorem Kd.C_ofRaw {α : Type} {d : Kd α} (z : α) {w : World} {A : Option Addr} {n : Nat} {xs : List α} {vs : List (List Value)} (h : (kRaw d.sz).C w A n vs) (hl : xs.length = n) (hK : ∀ i, i < n → d.K w (xs.getD i z) (vs.getD i [])) : d.C w A n xs := by
  obtain ⟨h1, h2, h3⟩ := h
  refine ⟨hl, h2, fun h0 => ?_⟩
  obtain ⟨ad, e, hc⟩ := h3 h0
  refine ⟨ad, e, fun j p hj => ?_⟩
  have hj1 := (List.getElem?_eq_some_iff.1 hj).1
  have hj2 : j < vs.length := by omega
  obtain ⟨c, a, b, cc⟩ := hc j _ (List.getElem?_eq_getElem hj2)
  have hk := hK j (by omega)
  rw [List.getD_eq_getElem?_getD, hj, List.getD_eq_getElem?_getD, List.getElem?_eq_getElem hj2] at hk
  obtain ⟨rfl, _⟩ := b
  exact ⟨_, a, hk, cc⟩

/-- a row of the call's own, whose elements' memory is its own too, or lay there from W0 on -/
def Mix {α : Type} (d : Kd α) (z : α) (e : Nat) (W0 w : World) (A : Option Addr) (n c : Nat) (xs : List α) : Prop :=
  ∃ vs, (kRaw d.sz).R e w W0.heap.size (OkFrom W0.heap.size) (.slice A n c) vs ∧ vs.length = xs.length ∧
    ∀ i, i < xs.length → d.M w W0.heap.size (fun k => OkFrom W0.heap.size k ∧ some k ≠ A.map (·.block)) (xs.getD i z) (vs.getD i []) ∨ d.K W0 (xs.getD i z) (vs.getD i [])
section
variable {α : Type} {d : Kd α} {z : α} {e : Nat} {W0 W w w1 : World} {A A' : Option Addr} {n c m c' : Nat} {xs ys : List α}
theorem Mix.of_R (h : d.R e w W0.heap.size (OkFrom W0.heap.size) (.slice A n c) xs) : Mix d z e W0 w A n c xs := by
  obtain ⟨h0, inner, ho, hr⟩ := h
  have hd : ∀ i, i < xs.length → d.M w W0.heap.size (fun k => OkFrom W0.heap.size k ∧ some k ≠ A.map (·.block)) (xs.getD i z) ((inner.drop (i * d.sz)).take d.sz) := by
    intro i hi
    have := hr.2 i _ (List.getElem?_eq_getElem hi)
    rw [List.getD_eq_getElem?_getD, List.getElem?_eq_getElem hi]
    rw [ownB] at this
    exact this
  have hg : ∀ i, i < xs.length → ((List.range xs.length).map fun i => (inner.drop (i * d.sz)).take d.sz).getD i [] = (inner.drop (i * d.sz)).take d.sz := by
    intro i hi
    rw [List.getD_eq_getElem?_getD, List.getElem?_map, List.getElem?_range hi]; rfl
  refine ⟨(List.range xs.length).map fun i => (inner.drop (i * d.sz)).take d.sz, ⟨h0, inner, by rw [List.length_map, List.length_range]; exact ho, ?_, fun j p hj => ?_⟩, by simp, fun i hi => .inl ?_⟩
  · rw [List.length_map, List.length_range]; exact hr.1
  · have hj1 := (List.getElem?_eq_some_iff.1 hj).1
    rw [List.length_map, List.length_range] at hj1
    rw [List.getElem?_map, List.getElem?_range hj1] at hj
    injection hj with hj
    subst hj
    have hM := hd j hj1
    exact ⟨rfl, d.K_len (d.K_of_M hM), d.K_one (d.K_of_M hM)⟩
  · rw [hg i hi]; exact hd i hi
theorem Mix.len (h : Mix d z e W0 w A n c xs) : n = xs.length ∧ n ≤ c := by
  obtain ⟨vs, hR, hl, _⟩ := h
  obtain ⟨h1, h2⟩ := Kd.R_len hR
  exact ⟨by omega, h2⟩
theorem Mix.C (hB : Below W0.heap.size W0 w) (h : Mix d z e W0 w A n c xs) : d.C w A n xs := by
  obtain ⟨h1, h2⟩ := h.len
  obtain ⟨vs, hR, hl, hK⟩ := h
  refine Kd.C_ofRaw z (Kd.R_C hR) h1.symm fun i hi => ?_
  rcases hK i (by omega) with h | h
  · exact d.K_of_M h
  · exact d.K_below hB h
theorem Mix.below (hb : Below w.heap.size w w1) (h : Mix d z e W0 w A n c xs) : Mix d z e W0 w1 A n c xs := by
  obtain ⟨vs, hR, hl, hK⟩ := h
  refine ⟨vs, Kd.R_below hR hb, hl, fun i hi => ?_⟩
  rcases hK i hi with h | h
  · exact .inl (Kd.M_below h hb)
  · exact .inr h
theorem XL_appendMix {P : Program} {N : Nat} {ops : Array Oper} {qs : QS} {rest : List Oper} {o : Oper} {l : Slots} {s x : Operand} {t : TypeId} (z : α) (ho : o.op = .call { callee := .builtin .append, args := #[s, x], argTypes := #[t, t] }) (hg : gd ops l o = some true) (hd : okD N o.dst = true) (e : Nat) (zv : Value) (bytes : Nat)
    (ht : P.underlying t = some (.slice e)) (hinfo : (P.info? e).map (fun i => (i.zero, i.size, i.bytes)) = some (some zv, d.sz, bytes)) (hz : zv.cells.size = d.sz) (hs0 : 0 < d.sz) (hb0 : 0 < bytes)
    (xs ys : List α) (vs2 : List (List Value)) (hv : evs l [s, x] = some [.slice A n c, .slice A' m c'])
    (HO : Mix d z e W0 W A n c xs) (HC : (kRaw d.sz).C W A' m vs2) (hm : ys.length = m) (hK : ∀ i, i < m → d.K W0 (ys.getD i z) (vs2.getD i [])) (hbase : W0.heap.size ≤ W.heap.size) (hl : (xs.length + m) * bytes ≤ 140737488355328)
    (hn : ∀ A1 c1 w1, Mix d z e W0 w1 A1 (xs ++ ys).length c1 (xs ++ ys) → W.grownBy w1 (A.map (·.block)) → (∀ k, A.map (·.block) = some k → W0.heap.size ≤ k) → XL P N ops rest qs (putS l o.dst (.slice A1 (xs ++ ys).length c1)) w1) : XL P N ops (o :: rest) qs l W := by
  obtain ⟨vs, hR, hlv, hE⟩ := HO
  have hlen2 : vs2.length = m := HC.1
  refine XL_appendAll (kRaw d.sz) ho hg hd W0.heap.size e zv bytes ht hinfo hz hs0 hb0 vs vs2 hv hR HC (fun _ _ h => h) hbase (by rw [hlv]; exact hl) ?_
  intro A1 c1 w1 hr hc hgr hle hat
  have hlen : (vs ++ vs2).length = (xs ++ ys).length := by simp [hlv, hlen2, hm]
  rw [hlen] at hr ⊢
  refine hn A1 c1 w1 ⟨vs ++ vs2, hr, hlen, fun i hi => ?_⟩ hgr hle
  rw [List.getD_eq_getElem?_getD, List.getD_eq_getElem?_getD]
  by_cases hx : i < xs.length
  · rw [List.getElem?_append_left hx, List.getElem?_append_left (by omega), ← List.getD_eq_getElem?_getD, ← List.getD_eq_getElem?_getD]
    rcases hE i hx with h | h
    · refine .inl (d.M_mono ?_ (Kd.M_grown (d.M_bound h) hgr fun k hk => hk.1.2))
      intro k hk
      refine ⟨hk.1.1, fun e1 => ?_⟩
      rcases hat with e2 | ⟨b, e2, hb⟩
      · exact hk.1.2 (by rw [e1, e2])
      · rw [e2] at e1
        injection e1 with e1
        have := hk.2.2.1
        omega
    · exact .inr h
  · rw [List.getElem?_append_right (by omega), List.getElem?_append_right (by omega), hlv, ← List.getD_eq_getElem?_getD, ← List.getD_eq_getElem?_getD]
    rw [List.length_append] at hi
    exact .inr (hK _ (by omega))
end
end Go.Proofs.YtekfdfafhfhfbaaDoor.RX
