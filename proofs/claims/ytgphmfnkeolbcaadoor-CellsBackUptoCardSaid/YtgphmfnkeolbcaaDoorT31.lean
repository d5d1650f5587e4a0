import Derived.Test.YtgphmfnkeolbcaaDoorSpare2
import Derived.Test.YtgphmfnkeolbcaaDoorRow
import Derived.Test.YtgphmfnkeolbcaaDoorAt
import Derived.Test.YtgphmfnkeolbcaaDoorCls
import Derived.Test.YtgphmfnkeolbcaaDoorCell
import Derived.Test.YtgphmfnkeolbcaaDoorSpare
import Derived.Test.YtgphmfnkeolbcaaDoorT30
/- A row of operations that is written over, element after element: its shape. No condition. -/
set_option linter.unusedVariables false
set_option linter.unusedSimpArgs false
set_option maxRecDepth 100000
namespace Go.Proofs.YtgphmfnkeolbcaaDoor.RX
open Go Go.RowKit Go.Proofs.YtgphmfnkeolbcaaDoorW.PrintWords
theorem setAll_out : ∀ (vs : List Value) (cs : Array Value) (n k : Nat), k < n ∨ n + vs.length ≤ k → (setAll cs n vs)[k]? = cs[k]?
  | [], _, _, _, _ => rfl
  | v :: r, cs, n, k, h => by
    show (setAll (cs.setIfInBounds n v) (n + 1) r)[k]? = _
    rw [List.length_cons] at h
    rw [setAll_out r _ (n + 1) k (by omega), Array.getElem?_setIfInBounds_ne (by omega)]
/-- a row whose elements from i on end in slices that lie -/
structure ShapeO (e' e : Nat) (ok : Nat → Prop) (w : World) (A : Option Addr) (n c i : Nat) : Prop where
  o : LiesO e' 7 ok w A n c
  r : ∀ j, i ≤ j → j < n → ∃ ad pre B m c2, A = some ad ∧ CellsAt w (ad.add (j * 7)) (pre ++ [.slice B m c2]) ∧ pre.length = 6 ∧ LiesO e 4 ok w B m c2 ∧ m ≤ 100000000
section
variable {e' e : Nat} {ok : Nat → Prop} {w w1 : World} {A : Option Addr} {n c i : Nat}
theorem ShapeO.next (h : ShapeO e' e ok w A n c i) : ShapeO e' e ok w A n c (i + 1) := ⟨h.o, fun j h1 h2 => h.r j (by omega) h2⟩
theorem ShapeO.below (hb : Below w.heap.size w w1) (h : ShapeO e' e ok w A n c i) : ShapeO e' e ok w1 A n c i := ⟨h.o.below hb, fun j h1 h2 => by
  obtain ⟨ad, pre, B, m, c2, a, b, d, e, q⟩ := h.r j h1 h2
  exact ⟨ad, pre, B, m, c2, a, cells_below b hb, d, e.below hb, q⟩⟩
/-- element i has been written -/
theorem ShapeO.put (h : ShapeO e' e ok w A n c (i + 1)) {g : Nat} {cs : Array Value} {vs : List Value} (hvs : vs.length = 7) (hA : A = some ⟨g, 0, none⟩) (hgk : ok g) (hb : RX.Blk w g e' cs) (hg : w.grownBy w1 (some g)) (hb1 : RX.Blk w1 g e' (setAll cs (i * 7) vs)) :
    WroteO e' ok w w1 ∧ ShapeO e' e ok w1 A n c (i + 1) := by
  have hw : WroteO e' ok w w1 := ⟨some g, hg, fun k hk => by
    injection hk with hk
    subst hk
    exact ⟨hgk, cs, _, hb, hb1, setAll_size _ _ _⟩⟩
  have hs : SpoilO (· = e') ok w w1 := SpoilO.of_wrote hw rfl
  refine ⟨hw, h.o.spoil hs, fun j h1 h2 => ?_⟩
  obtain ⟨ad, pre, B, m, c2, a, b, d, k, hq⟩ := h.r j h1 h2
  obtain rfl : ad = ⟨g, 0, none⟩ := by rw [hA] at a; injection a with a; exact a.symm
  refine ⟨_, pre, B, m, c2, hA, cellsAt_blk hb1 fun q u hu => ?_, d, k.spoil hs, hq⟩
  rw [setAll_out _ _ _ _ (by omega)]
  exact blk_cellsAt b hb q u hu
end
end Go.Proofs.YtgphmfnkeolbcaaDoor.RX
/- Rows of the call's own whose elements' memory lies elsewhere, unchanged since a world W0. No condition. -/
set_option linter.unusedVariables false
set_option maxRecDepth 100000
namespace Go.Proofs.YtgphmfnkeolbcaaDoor.RX
open Go Go.RowKit Go.Proofs.YtgphmfnkeolbcaaDoor Go.Proofs.YtgphmfnkeolbcaaDoorW.PrintWords
def MixK {α : Type} (d : Kd α) (z : α) (e B : Nat) (W0 w : World) (A : Option Addr) (n c : Nat) (xs : List α) : Prop :=
  ∃ vs, (kRaw d.sz).R e w B (OkFrom B) (.slice A n c) vs ∧ vs.length = xs.length ∧ ∀ i, i < xs.length → d.K W0 (xs.getD i z) (vs.getD i [])
section
variable {α : Type} {d : Kd α} {z : α} {e B : Nat} {W0 W w w1 : World} {A A' : Option Addr} {n c m c' : Nat} {xs ys : List α}
theorem MixK.nil {b2 : Nat} (h : d.R e w b2 (OkFrom b2) (.slice A n c) []) (hb : B ≤ b2) : MixK d z e B W0 w A n c [] := by
  obtain ⟨vs, h1, h2, _⟩ := Kd.R_raw2 z h
  exact ⟨vs, Kd.R_low h1 hb, h2, fun i hi => absurd hi (Nat.not_lt_zero _)⟩
theorem MixK.len (h : MixK d z e B W0 w A n c xs) : n = xs.length ∧ n ≤ c := by
  obtain ⟨vs, hR, hl, _⟩ := h
  obtain ⟨h1, h2⟩ := Kd.R_len hR
  exact ⟨by omega, h2⟩
theorem MixK.below (h : MixK d z e B W0 w A n c xs) (hb : Below w.heap.size w w1) : MixK d z e B W0 w1 A n c xs := by
  obtain ⟨vs, hR, hl, hK⟩ := h
  exact ⟨vs, Kd.R_below hR hb, hl, hK⟩
theorem MixK.C (h : MixK d z e B W0 w A n c xs) (hB : Below W0.heap.size W0 w) : d.C w A n xs := by
  obtain ⟨h1, h2⟩ := h.len
  obtain ⟨vs, hR, hl, hK⟩ := h
  exact Kd.C_ofRaw z (Kd.R_C hR) h1.symm fun i hi => d.K_below hB (hK i (by omega))
theorem MixK.at (h : MixK d z e B W0 w A n c xs) {i : Int} (h0 : 0 ≤ i) (h1 : i < n) : ∃ ad cs, A = some ad ∧ CellsAt w (ad.add (i.toNat * d.sz)) cs ∧ d.K W0 (xs.getD i.toNat z) cs := by
  obtain ⟨hl1, _⟩ := h.len
  obtain ⟨vs, hR, hl, hK⟩ := h
  obtain ⟨ad, cs, e1, hM, hc⟩ := Kd.R_at [] hR h0 h1
  obtain ⟨rfl, _⟩ := (kRaw d.sz).K_of_M hM
  exact ⟨ad, _, e1, hc, hK _ (by omega)⟩
/-- a beginning of it, as raw cells -/
theorem MixK.take (h : MixK d z e B W0 w A n c xs) (hm : m ≤ n) : ∃ vs2, (kRaw d.sz).C w A m vs2 ∧ ∀ i, i < m → d.K W0 ((xs.take m).getD i z) (vs2.getD i []) := by
  obtain ⟨hl1, _⟩ := h.len
  obtain ⟨vs, hR, hl, hK⟩ := h
  refine ⟨vs.take m, Kd.C_take (Kd.R_C hR) hm, fun i hi => ?_⟩
  rw [List.getD_eq_getElem?_getD, List.getElem?_take, if_pos hi, List.getD_eq_getElem?_getD, List.getElem?_take, if_pos hi, ← List.getD_eq_getElem?_getD, ← List.getD_eq_getElem?_getD]
  exact hK i (by omega)
theorem XL_appendMixK {P : Program} {N : Nat} {ops : Array Oper} {qs : QS} {rest : List Oper} {o : Oper} {l : Slots} {s x : Operand} {t : TypeId} (z : α) (ho : o.op = .call { callee := .builtin .append, args := #[s, x], argTypes := #[t, t] }) (hg : gd ops l o = some true) (hd : okD N o.dst = true) (e : Nat) (zv : Value) (bytes : Nat)
    (ht : P.underlying t = some (.slice e)) (hinfo : (P.info? e).map (fun i => (i.zero, i.size, i.bytes)) = some (some zv, d.sz, bytes)) (hz : zv.cells.size = d.sz) (hs0 : 0 < d.sz) (hb0 : 0 < bytes)
    (xs ys : List α) (vs2 : List (List Value)) (hv : evs l [s, x] = some [.slice A n c, .slice A' m c'])
    (HO : MixK d z e B W0 W A n c xs) (HC : (kRaw d.sz).C W A' m vs2) (hm : ys.length = m) (hK : ∀ i, i < m → d.K W0 (ys.getD i z) (vs2.getD i [])) (hbase : B ≤ W.heap.size) (hl : (xs.length + m) * bytes ≤ 140737488355328)
    (hn : ∀ A1 c1 w1, MixK d z e B W0 w1 A1 (xs ++ ys).length c1 (xs ++ ys) → W.grownBy w1 (A.map (·.block)) → (∀ k, A.map (·.block) = some k → B ≤ k) → XL P N ops rest qs (putS l o.dst (.slice A1 (xs ++ ys).length c1)) w1) : XL P N ops (o :: rest) qs l W := by
  obtain ⟨vs, hR, hlv, hE⟩ := HO
  have hlen2 : vs2.length = m := HC.1
  refine XL_appendAll (kRaw d.sz) ho hg hd B e zv bytes ht hinfo hz hs0 hb0 vs vs2 hv hR HC (fun _ _ h => h) hbase (by rw [hlv]; exact hl) ?_
  intro A1 c1 w1 hr hc hgr hle hat
  have hlen : (vs ++ vs2).length = (xs ++ ys).length := by simp [hlv, hlen2, hm]
  rw [hlen] at hr ⊢
  refine hn A1 c1 w1 ⟨vs ++ vs2, hr, hlen, fun i hi => ?_⟩ hgr hle
  rw [List.getD_eq_getElem?_getD, List.getD_eq_getElem?_getD]
  by_cases hx : i < xs.length
  · rw [List.getElem?_append_left hx, List.getElem?_append_left (by omega), ← List.getD_eq_getElem?_getD, ← List.getD_eq_getElem?_getD]
    exact hE i hx
  · rw [List.getElem?_append_right (by omega), List.getElem?_append_right (by omega), hlv, ← List.getD_eq_getElem?_getD, ← List.getD_eq_getElem?_getD]
    rw [List.length_append] at hi
    exact hK _ (by omega)
end
theorem MixK.low {α : Type} {d : Kd α} {z : α} {e B B2 : Nat} {W0 w : World} {A : Option Addr} {n c : Nat} {xs : List α} (h : MixK d z e B2 W0 w A n c xs) (hb : B ≤ B2) : MixK d z e B W0 w A n c xs := by
  obtain ⟨vs, hR, h2, h3⟩ := h
  exact ⟨vs, Kd.R_low hR hb, h2, h3⟩
theorem MixK.lt {α : Type} {d : Kd α} {z : α} {e B : Nat} {W0 w : World} {A : Option Addr} {n c : Nat} {xs : List α} (h : MixK d z e B W0 w A n c xs) : ∀ k, A.map (·.block) = some k → k < w.heap.size := by
  obtain ⟨vs, hR, _⟩ := h
  exact Kd.R_lt hR
theorem Blk.off {w w1 : World} {g : Nat} {t : TypeId} {cs : Array Value} {r : Option Nat} (h : Blk w g t cs) (k : w.grownBy w1 r) (hn : ∀ x, r = some x → x ≠ g) : Blk w1 g t cs := (k.block g h.lt (fun e => hn g e.symm rfl)).trans h
/-- an operation of such a row -/
theorem MixK.op {e B : Nat} {W0 w : World} {A : Option Addr} {n c : Nat} {xs : List OpA} (h : MixK kOp op0 e B W0 w A n c xs) {i : Int} (h0 : 0 ≤ i) (h1 : i < n) : ∃ ad B c, A = some ad ∧ CellsAt w (ad.add (i.toNat * 7)) (opV (xs.getD i.toNat op0) B c) ∧ (xs.getD i.toNat op0).attrs.length ≤ c ∧ kAttr.C W0 B (xs.getD i.toNat op0).attrs.length (xs.getD i.toNat op0).attrs := by
  obtain ⟨ad, cs, e1, hc, hK⟩ := h.at h0 h1
  obtain ⟨B, c, rfl, hl, hC⟩ := kOp_K hK
  exact ⟨ad, B, c, e1, hc, hl, hC⟩
end Go.Proofs.YtgphmfnkeolbcaaDoor.RX
/- vellumref06.Canonical by its loop: gaps of inserts, deletes counted. No condition. -/
set_option linter.unusedVariables false
set_option linter.unusedSimpArgs false
set_option maxRecDepth 100000
namespace Go.Proofs.YtgphmfnkeolbcaaDoor
open Go Go.RowKit Go.Proofs.YtgphmfnkeolbcaaDoorW.PrintWords RX
namespace B
section
variable {xs out gap : List OpA} {g : Int} {i : Nat}
end
end B
namespace RX
theorem MixK.off {α : Type} {d : Kd α} {z : α} {e B : Nat} {W0 w w1 : World} {A : Option Addr} {n c : Nat} {xs : List α} {r : Option Nat} (h : MixK d z e B W0 w A n c xs) (k : w.grownBy w1 r) (hne : ∀ x, r = some x → A.map (·.block) ≠ some x) : MixK d z e B W0 w1 A n c xs := by
  obtain ⟨vs, hR, hl, hK⟩ := h
  exact ⟨vs, Kd.R_flat rfl hR k hne, hl, hK⟩
/-- two rows' blocks, apart -/
def Apt (A A' : Option Addr) : Prop := ∀ x, A.map (·.block) = some x → A'.map (·.block) ≠ some x
theorem Apt.none (A' : Option Addr) : Apt .none A' := fun x h => by cases h
theorem Apt.symm {A A' : Option Addr} (h : Apt A A') : Apt A' A := fun x h1 h2 => h x h2 h1
end RX
end Go.Proofs.YtgphmfnkeolbcaaDoor
/- vellumref06.Canonical: B.can. Conditions: sizes, good operations. -/
set_option linter.unusedVariables false
set_option linter.unusedSimpArgs false
set_option maxRecDepth 100000
namespace Go.Proofs.YtgphmfnkeolbcaaDoor
open Go Go.RowKit Go.Proofs.YtgphmfnkeolbcaaDoorW.PrintWords RX
namespace B
end B
/-- a list of operations that lies at w, their attributes as they lay at W0 -/
def RX.OpK (W0 w : World) (A : Option Addr) (n : Nat) (xs : List OpA) : Prop := n ≤ 9223372036854775807 ∧ ∀ i : Int, 0 ≤ i → i < n → ∃ ad B c, A = some ad ∧ CellsAt w (ad.add (i.toNat * 7)) (opV (xs.getD i.toNat op0) B c) ∧ (xs.getD i.toNat op0).attrs.length ≤ c ∧ kAttr.C W0 B (xs.getD i.toNat op0).attrs.length (xs.getD i.toNat op0).attrs
theorem RX.OpK.op {W0 w : World} {A : Option Addr} {n : Nat} {xs : List OpA} (h : RX.OpK W0 w A n xs) {i : Int} (h0 : 0 ≤ i) (h1 : i < n) : ∃ ad B c, A = some ad ∧ CellsAt w (ad.add (i.toNat * 7)) (opV (xs.getD i.toNat op0) B c) ∧ (xs.getD i.toNat op0).attrs.length ≤ c ∧ kAttr.C W0 B (xs.getD i.toNat op0).attrs.length (xs.getD i.toNat op0).attrs := h.2 i h0 h1
theorem RX.OpK.below {W0 w w1 : World} {A : Option Addr} {n : Nat} {xs : List OpA} (h : RX.OpK W0 w A n xs) (hb : Below w.heap.size w w1) : RX.OpK W0 w1 A n xs := ⟨h.1, fun i h0 h1 => by
  obtain ⟨ad, B, c, a, b, d⟩ := h.2 i h0 h1
  exact ⟨ad, B, c, a, cells_below b hb, d⟩⟩
end Go.Proofs.YtgphmfnkeolbcaaDoor
/- Rows of cells whose attributes lie elsewhere or are new. No condition. -/
set_option linter.unusedVariables false
set_option maxRecDepth 100000
namespace Go.Proofs.YtgphmfnkeolbcaaDoor.RX
open Go Go.RowKit Go.Proofs.YtgphmfnkeolbcaaDoor Go.Proofs.YtgphmfnkeolbcaaDoorW.PrintWords
section
variable {α : Type} {d : Kd α} {z : α} {e B : Nat} {W0 W w w1 : World} {A A' : Option Addr} {n c m c' : Nat} {xs ys : List α}
theorem MixK.one {b2 : Nat} {x : α} {cs : List Value} (h : (kRaw d.sz).R e w b2 (OkFrom b2) (.slice A n c) [cs]) (hK : d.K W0 x cs) (hb : B ≤ b2) : MixK d z e B W0 w A n c [x] :=
  ⟨[cs], Kd.R_low h hb, rfl, fun i hi => by
    obtain rfl : i = 0 := by simp at hi; exact hi
    exact hK⟩
/-- a walk over a string's scalars has moved -/
theorem MixK.iter {g p : Nat} {s : ByteArray} (h : MixK d z e B W0 w A n c xs) (hg : w.heap[g]? = some (.stringIter s p)) (k : w.grownBy w1 (some g)) : MixK d z e B W0 w1 A n c xs := by
  obtain ⟨vs, h1, h2, h3⟩ := h
  exact ⟨vs, Kd.R_iter h1 hg k, h2, h3⟩
theorem MixK.iter_kept {g p : Nat} {s : ByteArray} (hg : w.heap[g]? = some (.stringIter s p)) (h : MixK d z e B W0 w A n c xs) (k : w.grownBy w1 (A.map (·.block))) : w1.heap[g]? = some (.stringIter s p) := by
  obtain ⟨vs, h1, _⟩ := h
  exact Kd.iter_kept hg h1 k
theorem MixK.all (h : MixK d z e B W0 w A n c xs) : ∃ vs2, (kRaw d.sz).C w A n vs2 ∧ ∀ i, i < n → d.K W0 (xs.getD i z) (vs2.getD i []) := by
  obtain ⟨h1, _⟩ := h.len
  obtain ⟨vs, hR, hl, hK⟩ := h
  exact ⟨vs, Kd.R_C hR, fun i hi => hK i (by omega)⟩
theorem Mix.nil {b2 : Nat} (h : d.R e w b2 (OkFrom b2) (.slice A n c) []) (hb : W0.heap.size ≤ b2) : Mix d z e W0 w A n c [] := by
  obtain ⟨vs, h1, h2, _⟩ := Kd.R_raw2 z h
  exact ⟨vs, Kd.R_low h1 hb, h2, fun i hi => absurd hi (Nat.not_lt_zero _)⟩
/-- a row of another type's blocks is apart from this one -/
theorem Mix.apart {β : Type} {d' : Kd β} {e' b2 : Nat} {v : Value} {zs : List β} (h : d'.R e' w b2 (OkFrom b2) v zs) (hb : W0.heap.size ≤ b2) (HO : Mix d z e W0 w A n c xs) (hne : (e' :: d'.E).contains e = false) : (Kd.slice e' d').M w W0.heap.size (fun k => OkFrom W0.heap.size k ∧ some k ≠ A.map (·.block)) zs [v] := by
  obtain ⟨vs, hR, _⟩ := HO
  obtain ⟨okp, hM, hk⟩ := Kd.M_rowApart h hb hR hne
  exact (Kd.slice e' d').M_mono hk hM
theorem Mix.lt (h : Mix d z e W0 w A n c xs) : ∀ k, A.map (·.block) = some k → k < w.heap.size := by
  obtain ⟨vs, hR, _⟩ := h
  exact Kd.R_lt hR
end
end Go.Proofs.YtgphmfnkeolbcaaDoor.RX
/- The reference of layer cells: documents of cells. Conditions: sizes, the tables of utf8. -/
set_option linter.unusedVariables false
set_option linter.unusedSimpArgs false
set_option maxRecDepth 100000
namespace Go.Proofs.YtgphmfnkeolbcaaDoor
open Go Go.RowKit Go.Proofs.YtgphmfnkeolbcaaDoorW.PrintWords RX
theorem docSz {cs : List CellA} (h : ∀ c ∈ cs, B.cErr c = 0) (hz : ∀ i, i < cs.length → B.cellSz (cs.getD i cell0)) : (∀ i, i < (cs.map B.opC).length → opSz ((cs.map B.opC).getD i op0)) ∧ B.txS (cs.map B.opC) ≤ 64 * cs.length := by
  have hz' : ∀ c ∈ cs, B.cellSz c := fun c hc => by
    obtain ⟨i, hi, rfl⟩ := List.mem_iff_getElem.1 hc
    have := hz i hi
    rwa [List.getD_eq_getElem?_getD, List.getElem?_eq_getElem hi] at this
  refine ⟨fun i hi => ?_, B.doc_tx cs fun c hc => ⟨h c hc, hz' c hc⟩⟩
  have hm := getD_mem op0 hi
  obtain ⟨c, hc, e⟩ := List.mem_map.1 hm
  rw [← e]
  exact (B.op_sz (h c hc) (hz' c hc)).1
end Go.Proofs.YtgphmfnkeolbcaaDoor
