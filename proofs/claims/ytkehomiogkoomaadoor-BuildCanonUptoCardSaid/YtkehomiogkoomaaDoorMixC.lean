/- Rows of cells whose attributes lie elsewhere or are new. No condition. -/
import Derived.Test.YtkehomiogkoomaaDoorMixK
import Derived.Test.YtkehomiogkoomaaDoorCell
set_option linter.unusedVariables false
set_option maxRecDepth 100000
namespace Go.Proofs.YtkehomiogkoomaaDoor.RX
open Go Go.RowKit Go.Proofs.YtkehomiogkoomaaDoor Go.Proofs.YtkehomiogkoomaaDoorW.PrintWords
section
variable {α : Type} {d : Kd α} {z : α} {e B : Nat} {W0 W w w1 : World} {A A' : Option Addr} {n c m c' : Nat} {xs ys : List α}
theorem MixK.one {b2 : Nat} {x : α} {cs : List Value} (h : (kRaw d.sz).R e w b2 (OkFrom b2) (.slice A n c) [cs]) (hK : d.K W0 x cs) (hb : B ≤ b2) : MixK d z e B W0 w A n c [x] :=
  ⟨[cs], Kd.R_low h hb, rfl, fun i hi => by
    obtain rfl : i = 0 := by simp at hi; exact hi
    exact hK⟩
/-- a walk over a string's scalars has moved -/
theorem MixK.iter {g p : Nat} {s : ByteArray} (h : MixK d z e B W0 w A n c xs) (hg : w.heap[g]? = some (.stringIter s p)) (k : w.grownBy w1 (some g)) : MixK d z e B W0 w1 A n c xs := by
  obtain ⟨vs, h1, h2, h3⟩ := h
  exact ⟨vs, Kd.R_iter h1 hg k, h2, h3⟩
theorem MixK.iter_kept {g p : Nat} {s : ByteArray} (hg : w.heap[g]? = some (.stringIter s p)) (h : MixK d z e B W0 w A n c xs) (k : w.grownBy w1 (A.map (·.block))) : w1.heap[g]? = some (.stringIter s p) := by
  obtain ⟨vs, h1, _⟩ := h
  exact Kd.iter_kept hg h1 k
theorem MixK.all (h : MixK d z e B W0 w A n c xs) : ∃ vs2, (kRaw d.sz).C w A n vs2 ∧ ∀ i, i < n → d.K W0 (xs.getD i z) (vs2.getD i []) := by
  obtain ⟨h1, _⟩ := h.len
  obtain ⟨vs, hR, hl, hK⟩ := h
  exact ⟨vs, Kd.R_C hR, fun i hi => hK i (by omega)⟩
theorem Mix.nil {b2 : Nat} (h : d.R e w b2 (OkFrom b2) (.slice A n c) []) (hb : W0.heap.size ≤ b2) : Mix d z e W0 w A n c [] := by
  obtain ⟨vs, h1, h2, _⟩ := Kd.R_raw2 z h
  exact ⟨vs, Kd.R_low h1 hb, h2, fun i hi => absurd hi (Nat.not_lt_zero _)⟩
/-- append of elements whose memory is new, or lay there from W0 on -/
theorem XL_appendMixJ {P : Program} {N : Nat} {ops : Array Oper} {qs : QS} {rest : List Oper} {o : Oper} {l : Slots} {s x : Operand} {t : TypeId} (z : α) (ho : o.op = .call { callee := .builtin .append, args := #[s, x], argTypes := #[t, t] }) (hg : gd ops l o = some true) (hd : okD N o.dst = true) (e : Nat) (zv : Value) (bytes : Nat)
    (ht : P.underlying t = some (.slice e)) (hinfo : (P.info? e).map (fun i => (i.zero, i.size, i.bytes)) = some (some zv, d.sz, bytes)) (hz : zv.cells.size = d.sz) (hs0 : 0 < d.sz) (hb0 : 0 < bytes)
    (xs ys : List α) (vs2 : List (List Value)) (hv : evs l [s, x] = some [.slice A n c, .slice A' m c'])
    (HO : Mix d z e W0 W A n c xs) (HC : (kRaw d.sz).C W A' m vs2) (hm : ys.length = m) (hK : ∀ i, i < m → d.M W W0.heap.size (fun k => OkFrom W0.heap.size k ∧ some k ≠ A.map (·.block)) (ys.getD i z) (vs2.getD i []) ∨ d.K W0 (ys.getD i z) (vs2.getD i [])) (hbase : W0.heap.size ≤ W.heap.size) (hl : (xs.length + m) * bytes ≤ 140737488355328)
    (hn : ∀ A1 c1 w1, Mix d z e W0 w1 A1 (xs ++ ys).length c1 (xs ++ ys) → W.grownBy w1 (A.map (·.block)) → (∀ k, A.map (·.block) = some k → W0.heap.size ≤ k) → XL P N ops rest qs (putS l o.dst (.slice A1 (xs ++ ys).length c1)) w1) : XL P N ops (o :: rest) qs l W := by
  obtain ⟨vs, hR, hlv, hE⟩ := HO
  have hlen2 : vs2.length = m := HC.1
  refine XL_appendAll (kRaw d.sz) ho hg hd W0.heap.size e zv bytes ht hinfo hz hs0 hb0 vs vs2 hv hR HC (fun _ _ h => h) hbase (by rw [hlv]; exact hl) ?_
  intro A1 c1 w1 hr hc hgr hle hat
  have hlen : (vs ++ vs2).length = (xs ++ ys).length := by simp [hlv, hlen2, hm]
  rw [hlen] at hr ⊢
  have hmove : ∀ (x : α) (cs : List Value), d.M W W0.heap.size (fun k => OkFrom W0.heap.size k ∧ some k ≠ A.map (·.block)) x cs → d.M w1 W0.heap.size (fun k => OkFrom W0.heap.size k ∧ some k ≠ A1.map (·.block)) x cs := by
    intro x cs h
    refine d.M_mono ?_ (Kd.M_grown (d.M_bound h) hgr fun k hk => hk.1.2)
    intro k hk
    refine ⟨hk.1.1, fun e1 => ?_⟩
    rcases hat with e2 | ⟨b, e2, hb⟩
    · exact hk.1.2 (by rw [e1, e2])
    · rw [e2] at e1
      injection e1 with e1
      have := hk.2.2.1
      omega
  refine hn A1 c1 w1 ⟨vs ++ vs2, hr, hlen, fun i hi => ?_⟩ hgr hle
  rw [List.getD_eq_getElem?_getD, List.getD_eq_getElem?_getD]
  by_cases hx : i < xs.length
  · rw [List.getElem?_append_left hx, List.getElem?_append_left (by omega), ← List.getD_eq_getElem?_getD, ← List.getD_eq_getElem?_getD]
    rcases hE i hx with h | h
    · exact .inl (hmove _ _ h)
    · exact .inr h
  · rw [List.getElem?_append_right (by omega), List.getElem?_append_right (by omega), hlv, ← List.getD_eq_getElem?_getD, ← List.getD_eq_getElem?_getD]
    rw [List.length_append] at hi
    rcases hK (i - xs.length) (by omega) with h | h
    · exact .inl (hmove _ _ h)
    · exact .inr h
/-- a row of another type's blocks is apart from this one -/
theorem Mix.apart {β : Type} {d' : Kd β} {e' b2 : Nat} {v : Value} {zs : List β} (h : d'.R e' w b2 (OkFrom b2) v zs) (hb : W0.heap.size ≤ b2) (HO : Mix d z e W0 w A n c xs) (hne : (e' :: d'.E).contains e = false) : (Kd.slice e' d').M w W0.heap.size (fun k => OkFrom W0.heap.size k ∧ some k ≠ A.map (·.block)) zs [v] := by
  obtain ⟨vs, hR, _⟩ := HO
  obtain ⟨okp, hM, hk⟩ := Kd.M_rowApart h hb hR hne
  exact (Kd.slice e' d').M_mono hk hM
theorem Mix.lt (h : Mix d z e W0 w A n c xs) : ∀ k, A.map (·.block) = some k → k < w.heap.size := by
  obtain ⟨vs, hR, _⟩ := h
  exact Kd.R_lt hR
end
theorem Mix.blk_ne {α : Type} {d : Kd α} {z : α} {e g t : Nat} {W0 w : World} {A : Option Addr} {n c : Nat} {xs : List α} {cs : Array Value} (h : Mix d z e W0 w A n c xs) (hb : Blk w g t cs) (hne : Nat.beq t e = false) : ∀ k, A.map (·.block) = some k → k ≠ g := by
  obtain ⟨vs, hR, _⟩ := h
  exact Kd.R_blk_ne hR hb hne
theorem C_cellK {W0 w : World} {A : Option Addr} {n : Nat} {xs : List CellA} (h : kCell.C W0 A n xs) (hB : Below W0.heap.size W0 w) {i : Int} (h0 : 0 ≤ i) (h1 : i < n) : ∃ ad B c, A = some ad ∧ CellsAt w (ad.add (i.toNat * 6)) (cellV (xs.getD i.toNat cell0) B c) ∧ (xs.getD i.toNat cell0).attrs.length ≤ c ∧ kAttr.C W0 B (xs.getD i.toNat cell0).attrs.length (xs.getD i.toNat cell0).attrs := by
  obtain ⟨ad, cs, e1, hc, hK⟩ := C_atK (z := cell0) h hB h0 h1
  obtain ⟨B, c, rfl, hl, hC⟩ := kCell_K hK
  exact ⟨ad, B, c, e1, hc, hl, hC⟩
end Go.Proofs.YtkehomiogkoomaaDoor.RX
