import Derived.Test.YtkehomiogkoomaaDoorOver
import Derived.Test.YtkehomiogkoomaaDoorSpare2
import Derived.Test.YtkehomiogkoomaaDoorRow
import Derived.Test.YtkehomiogkoomaaDoorAt
/- A row of operations that is written over, element after element: its shape. No condition. -/
set_option linter.unusedVariables false
set_option linter.unusedSimpArgs false
set_option maxRecDepth 100000
namespace Go.Proofs.YtkehomiogkoomaaDoor.RX
open Go Go.RowKit Go.Proofs.YtkehomiogkoomaaDoorW.PrintWords
theorem setAll_out : ∀ (vs : List Value) (cs : Array Value) (n k : Nat), k < n ∨ n + vs.length ≤ k → (setAll cs n vs)[k]? = cs[k]?
  | [], _, _, _, _ => rfl
  | v :: r, cs, n, k, h => by
    show (setAll (cs.setIfInBounds n v) (n + 1) r)[k]? = _
    rw [List.length_cons] at h
    rw [setAll_out r _ (n + 1) k (by omega), Array.getElem?_setIfInBounds_ne (by omega)]
/-- a row whose elements from i on end in slices that lie -/
structure ShapeO (e' e : Nat) (ok : Nat → Prop) (w : World) (A : Option Addr) (n c i : Nat) : Prop where
  o : LiesO e' 7 ok w A n c
  r : ∀ j, i ≤ j → j < n → ∃ ad pre B m c2, A = some ad ∧ CellsAt w (ad.add (j * 7)) (pre ++ [.slice B m c2]) ∧ pre.length = 6 ∧ LiesO e 4 ok w B m c2 ∧ m ≤ 100000000
section
variable {e' e : Nat} {ok : Nat → Prop} {w w1 : World} {A : Option Addr} {n c i : Nat}
theorem ShapeO.next (h : ShapeO e' e ok w A n c i) : ShapeO e' e ok w A n c (i + 1) := ⟨h.o, fun j h1 h2 => h.r j (by omega) h2⟩
theorem ShapeO.below (hb : Below w.heap.size w w1) (h : ShapeO e' e ok w A n c i) : ShapeO e' e ok w1 A n c i := ⟨h.o.below hb, fun j h1 h2 => by
  obtain ⟨ad, pre, B, m, c2, a, b, d, e, q⟩ := h.r j h1 h2
  exact ⟨ad, pre, B, m, c2, a, cells_below b hb, d, e.below hb, q⟩⟩
theorem ShapeO.wr {ok' : Nat → Prop} (h : ShapeO e' e ok w A n c i) (hw : SpoilO (· = e) ok' w w1) (hne : e' ≠ e) : ShapeO e' e ok w1 A n c i := ⟨h.o.spoil hw, fun j h1 h2 => by
  obtain ⟨ad, pre, B, m, c2, a, b, d, k, q⟩ := h.r j h1 h2
  obtain ⟨g, cs, e1, _, hb, _⟩ := h.o.at (by omega)
  obtain rfl : ad = ⟨g, 0, none⟩ := by rw [a] at e1; injection e1
  exact ⟨_, pre, B, m, c2, a, cellsAt_blk (hw.other hb hne) (blk_cellsAt b hb), d, k.spoil hw, q⟩⟩
/-- element i has been written -/
theorem ShapeO.put (h : ShapeO e' e ok w A n c (i + 1)) {g : Nat} {cs : Array Value} {vs : List Value} (hvs : vs.length = 7) (hA : A = some ⟨g, 0, none⟩) (hgk : ok g) (hb : RX.Blk w g e' cs) (hg : w.grownBy w1 (some g)) (hb1 : RX.Blk w1 g e' (setAll cs (i * 7) vs)) :
    WroteO e' ok w w1 ∧ ShapeO e' e ok w1 A n c (i + 1) := by
  have hw : WroteO e' ok w w1 := ⟨some g, hg, fun k hk => by
    injection hk with hk
    subst hk
    exact ⟨hgk, cs, _, hb, hb1, setAll_size _ _ _⟩⟩
  have hs : SpoilO (· = e') ok w w1 := SpoilO.of_wrote hw rfl
  refine ⟨hw, h.o.spoil hs, fun j h1 h2 => ?_⟩
  obtain ⟨ad, pre, B, m, c2, a, b, d, k, hq⟩ := h.r j h1 h2
  obtain rfl : ad = ⟨g, 0, none⟩ := by rw [hA] at a; injection a with a; exact a.symm
  refine ⟨_, pre, B, m, c2, hA, cellsAt_blk hb1 fun q u hu => ?_, d, k.spoil hs, hq⟩
  rw [setAll_out _ _ _ _ (by omega)]
  exact blk_cellsAt b hb q u hu
end
end Go.Proofs.YtkehomiogkoomaaDoor.RX
/- Rows of the call's own whose elements' memory lies elsewhere, unchanged since a world W0. No condition. -/
set_option linter.unusedVariables false
set_option maxRecDepth 100000
namespace Go.Proofs.YtkehomiogkoomaaDoor.RX
open Go Go.RowKit Go.Proofs.YtkehomiogkoomaaDoor Go.Proofs.YtkehomiogkoomaaDoorW.PrintWords
def MixK {α : Type} (d : Kd α) (z : α) (e B : Nat) (W0 w : World) (A : Option Addr) (n c : Nat) (xs : List α) : Prop :=
  ∃ vs, (kRaw d.sz).R e w B (OkFrom B) (.slice A n c) vs ∧ vs.length = xs.length ∧ ∀ i, i < xs.length → d.K W0 (xs.getD i z) (vs.getD i [])
section
variable {α : Type} {d : Kd α} {z : α} {e B : Nat} {W0 W w w1 : World} {A A' : Option Addr} {n c m c' : Nat} {xs ys : List α}
theorem MixK.nil {b2 : Nat} (h : d.R e w b2 (OkFrom b2) (.slice A n c) []) (hb : B ≤ b2) : MixK d z e B W0 w A n c [] := by
  obtain ⟨vs, h1, h2, _⟩ := Kd.R_raw2 z h
  exact ⟨vs, Kd.R_low h1 hb, h2, fun i hi => absurd hi (Nat.not_lt_zero _)⟩
theorem MixK.len (h : MixK d z e B W0 w A n c xs) : n = xs.length ∧ n ≤ c := by
  obtain ⟨vs, hR, hl, _⟩ := h
  obtain ⟨h1, h2⟩ := Kd.R_len hR
  exact ⟨by omega, h2⟩
theorem MixK.below (h : MixK d z e B W0 w A n c xs) (hb : Below w.heap.size w w1) : MixK d z e B W0 w1 A n c xs := by
  obtain ⟨vs, hR, hl, hK⟩ := h
  exact ⟨vs, Kd.R_below hR hb, hl, hK⟩
theorem MixK.C (h : MixK d z e B W0 w A n c xs) (hB : Below W0.heap.size W0 w) : d.C w A n xs := by
  obtain ⟨h1, h2⟩ := h.len
  obtain ⟨vs, hR, hl, hK⟩ := h
  exact Kd.C_ofRaw z (Kd.R_C hR) h1.symm fun i hi => d.K_below hB (hK i (by omega))
theorem MixK.at (h : MixK d z e B W0 w A n c xs) {i : Int} (h0 : 0 ≤ i) (h1 : i < n) : ∃ ad cs, A = some ad ∧ CellsAt w (ad.add (i.toNat * d.sz)) cs ∧ d.K W0 (xs.getD i.toNat z) cs := by
  obtain ⟨hl1, _⟩ := h.len
  obtain ⟨vs, hR, hl, hK⟩ := h
  obtain ⟨ad, cs, e1, hM, hc⟩ := Kd.R_at [] hR h0 h1
  obtain ⟨rfl, _⟩ := (kRaw d.sz).K_of_M hM
  exact ⟨ad, _, e1, hc, hK _ (by omega)⟩
/-- a beginning of it, as raw cells -/
theorem MixK.take (h : MixK d z e B W0 w A n c xs) (hm : m ≤ n) : ∃ vs2, (kRaw d.sz).C w A m vs2 ∧ ∀ i, i < m → d.K W0 ((xs.take m).getD i z) (vs2.getD i []) := by
  obtain ⟨hl1, _⟩ := h.len
  obtain ⟨vs, hR, hl, hK⟩ := h
  refine ⟨vs.take m, Kd.C_take (Kd.R_C hR) hm, fun i hi => ?_⟩
  rw [List.getD_eq_getElem?_getD, List.getElem?_take, if_pos hi, List.getD_eq_getElem?_getD, List.getElem?_take, if_pos hi, ← List.getD_eq_getElem?_getD, ← List.getD_eq_getElem?_getD]
  exact hK i (by omega)
theorem C_atK (h : d.C W0 A n xs) (hB : Below W0.heap.size W0 w) {i : Int} (h0 : 0 ≤ i) (h1 : i < n) : ∃ ad cs, A = some ad ∧ CellsAt w (ad.add (i.toNat * d.sz)) cs ∧ d.K W0 (xs.getD i.toNat z) cs := by
  obtain ⟨ad, cs, e1, hK, hc⟩ := Kd.atC h z h0 h1
  exact ⟨ad, cs, e1, cells_below hc hB, hK⟩
theorem XL_appendMixK {P : Program} {N : Nat} {ops : Array Oper} {qs : QS} {rest : List Oper} {o : Oper} {l : Slots} {s x : Operand} {t : TypeId} (z : α) (ho : o.op = .call { callee := .builtin .append, args := #[s, x], argTypes := #[t, t] }) (hg : gd ops l o = some true) (hd : okD N o.dst = true) (e : Nat) (zv : Value) (bytes : Nat)
    (ht : P.underlying t = some (.slice e)) (hinfo : (P.info? e).map (fun i => (i.zero, i.size, i.bytes)) = some (some zv, d.sz, bytes)) (hz : zv.cells.size = d.sz) (hs0 : 0 < d.sz) (hb0 : 0 < bytes)
    (xs ys : List α) (vs2 : List (List Value)) (hv : evs l [s, x] = some [.slice A n c, .slice A' m c'])
    (HO : MixK d z e B W0 W A n c xs) (HC : (kRaw d.sz).C W A' m vs2) (hm : ys.length = m) (hK : ∀ i, i < m → d.K W0 (ys.getD i z) (vs2.getD i [])) (hbase : B ≤ W.heap.size) (hl : (xs.length + m) * bytes ≤ 140737488355328)
    (hn : ∀ A1 c1 w1, MixK d z e B W0 w1 A1 (xs ++ ys).length c1 (xs ++ ys) → W.grownBy w1 (A.map (·.block)) → (∀ k, A.map (·.block) = some k → B ≤ k) → XL P N ops rest qs (putS l o.dst (.slice A1 (xs ++ ys).length c1)) w1) : XL P N ops (o :: rest) qs l W := by
  obtain ⟨vs, hR, hlv, hE⟩ := HO
  have hlen2 : vs2.length = m := HC.1
  refine XL_appendAll (kRaw d.sz) ho hg hd B e zv bytes ht hinfo hz hs0 hb0 vs vs2 hv hR HC (fun _ _ h => h) hbase (by rw [hlv]; exact hl) ?_
  intro A1 c1 w1 hr hc hgr hle hat
  have hlen : (vs ++ vs2).length = (xs ++ ys).length := by simp [hlv, hlen2, hm]
  rw [hlen] at hr ⊢
  refine hn A1 c1 w1 ⟨vs ++ vs2, hr, hlen, fun i hi => ?_⟩ hgr hle
  rw [List.getD_eq_getElem?_getD, List.getD_eq_getElem?_getD]
  by_cases hx : i < xs.length
  · rw [List.getElem?_append_left hx, List.getElem?_append_left (by omega), ← List.getD_eq_getElem?_getD, ← List.getD_eq_getElem?_getD]
    exact hE i hx
  · rw [List.getElem?_append_right (by omega), List.getElem?_append_right (by omega), hlv, ← List.getD_eq_getElem?_getD, ← List.getD_eq_getElem?_getD]
    rw [List.length_append] at hi
    exact hK _ (by omega)
end
theorem MixK.low {α : Type} {d : Kd α} {z : α} {e B B2 : Nat} {W0 w : World} {A : Option Addr} {n c : Nat} {xs : List α} (h : MixK d z e B2 W0 w A n c xs) (hb : B ≤ B2) : MixK d z e B W0 w A n c xs := by
  obtain ⟨vs, hR, h2, h3⟩ := h
  exact ⟨vs, Kd.R_low hR hb, h2, h3⟩
theorem MixK.lt {α : Type} {d : Kd α} {z : α} {e B : Nat} {W0 w : World} {A : Option Addr} {n c : Nat} {xs : List α} (h : MixK d z e B W0 w A n c xs) : ∀ k, A.map (·.block) = some k → k < w.heap.size := by
  obtain ⟨vs, hR, _⟩ := h
  exact Kd.R_lt hR
theorem Blk.off {w w1 : World} {g : Nat} {t : TypeId} {cs : Array Value} {r : Option Nat} (h : Blk w g t cs) (k : w.grownBy w1 r) (hn : ∀ x, r = some x → x ≠ g) : Blk w1 g t cs := (k.block g h.lt (fun e => hn g e.symm rfl)).trans h
theorem rawL1 {n : Nat} {w : World} {base : Nat} {ok : Nat → Prop} (cs : List Value) (hl : cs.length = n) (h1 : (cs.all fun u => u.oneCell') = true) : Reps ((kRaw n).M w base ok) n [cs] cs := by
  have := (Reps.none ((kRaw n).M w base ok) n).snoc (p := cs) (c := cs) ⟨rfl, hl, fun u hu => List.all_eq_true.1 h1 u hu⟩ hl
  simpa using this
/-- an operation of such a row -/
theorem MixK.op {e B : Nat} {W0 w : World} {A : Option Addr} {n c : Nat} {xs : List OpA} (h : MixK kOp op0 e B W0 w A n c xs) {i : Int} (h0 : 0 ≤ i) (h1 : i < n) : ∃ ad B c, A = some ad ∧ CellsAt w (ad.add (i.toNat * 7)) (opV (xs.getD i.toNat op0) B c) ∧ (xs.getD i.toNat op0).attrs.length ≤ c ∧ kAttr.C W0 B (xs.getD i.toNat op0).attrs.length (xs.getD i.toNat op0).attrs := by
  obtain ⟨ad, cs, e1, hc, hK⟩ := h.at h0 h1
  obtain ⟨B, c, rfl, hl, hC⟩ := kOp_K hK
  exact ⟨ad, B, c, e1, hc, hl, hC⟩
end Go.Proofs.YtkehomiogkoomaaDoor.RX
/- Rows of operations whose attributes lie elsewhere: a text or a count is written. No condition. -/

set_option linter.unusedVariables false
set_option maxRecDepth 100000
namespace Go.Proofs.YtkehomiogkoomaaDoor.RX
open Go Go.RowKit Go.Proofs.YtkehomiogkoomaaDoor Go.Proofs.YtkehomiogkoomaaDoorW.PrintWords
def setT (x : OpA) (t : ByteArray) : OpA := ⟨x.kind, t, x.vk, x.vn, x.vt, x.count, x.attrs⟩
def setN (x : OpA) (n : Int) : OpA := ⟨x.kind, x.text, x.vk, x.vn, x.vt, n, x.attrs⟩
section
variable {e B : Nat} {W0 w w1 : World} {A : Option Addr} {n c : Nat} {xs : List OpA}
theorem MixK.set1 {vs : List (List Value)} {i : Nat} {x' : OpA} {cs : List Value} (h : MixK kOp op0 e B W0 w A n c xs) (hl : vs.length = xs.length) (hK : ∀ i, i < xs.length → kOp.K W0 (xs.getD i op0) (vs.getD i [])) (hR : (kRaw 7).R e w1 B (OkFrom B) (.slice A n c) (vs.set i cs)) (hx : kOp.K W0 x' cs) : MixK kOp op0 e B W0 w1 A n c (xs.set i x') := by
  refine ⟨vs.set i cs, hR, by rw [List.length_set, List.length_set, hl], fun j hj => ?_⟩
  rw [List.length_set] at hj
  rw [List.getD_eq_getElem?_getD, List.getD_eq_getElem?_getD, List.getElem?_set, List.getElem?_set]
  by_cases e1 : i = j
  · subst e1
    rw [if_pos rfl, if_pos rfl, if_pos hj, if_pos (by omega)]
    exact hx
  · rw [if_neg e1, if_neg e1, ← List.getD_eq_getElem?_getD, ← List.getD_eq_getElem?_getD]
    exact hK j hj
end
variable {P : Program} {N : Nat} {ops : Array Oper} {qs : QS} {rest : List Oper} {o : Oper} {l : Slots}
theorem XL_mixText {e B : Nat} {W0 w : World} {A : Option Addr} {n c : Nat} {xs : List OpA} {t : TypeId} {p x : Operand} (ho : o.op = .store t p x) (hdn : o.dst = none) (hg : gd ops l o = some true) {ad : Addr} {i : Int} (s : ByteArray) (hv : evs l [p, x] = some [.pointer (some ((ad.add (i.toNat * 7)).add 1)), .string s]) (hA : A = some ad)
    (h : MixK kOp op0 e B W0 w A n c xs) (h0 : 0 ≤ i) (hi : i < n) (ht : sizeP P t = some 1)
    (hn : ∀ w1, MixK kOp op0 e B W0 w1 A n c (xs.set i.toNat (setT (xs.getD i.toNat op0) s)) → w.grownBy w1 (A.map (·.block)) → (∀ k, A.map (·.block) = some k → B ≤ k) → XL P N ops rest qs l w1) : XL P N ops (o :: rest) qs l w := by
  obtain ⟨hl1, _⟩ := h.len
  obtain ⟨vs, hR, hl, hK⟩ := h
  refine XL_rowpart 7 ho hdn hg B e 1 vs hv hA hR h0 hi [.string s] ⟨rfl, rfl⟩ (by simp only [List.length_singleton]; omega) ht fun w1 h1 h2 h3 => hn w1 (MixK.set1 ⟨vs, hR, hl, hK⟩ hl hK h1 ?_) h2 h3
  obtain ⟨A', c', e1, h4, h5⟩ := kOp_K (hK i.toNat (by omega))
  rw [e1]
  exact kOp_K_of (x := setT (xs.getD i.toNat op0) s) h4 h5
theorem XL_mixCount {e B : Nat} {W0 w : World} {A : Option Addr} {n c : Nat} {xs : List OpA} {t : TypeId} {p x : Operand} (ho : o.op = .store t p x) (hdn : o.dst = none) (hg : gd ops l o = some true) {ad : Addr} {i : Int} (s : Int) (hv : evs l [p, x] = some [.pointer (some ((ad.add (i.toNat * 7)).add 5)), .int .i64 s]) (hA : A = some ad)
    (h : MixK kOp op0 e B W0 w A n c xs) (h0 : 0 ≤ i) (hi : i < n) (ht : sizeP P t = some 1)
    (hn : ∀ w1, MixK kOp op0 e B W0 w1 A n c (xs.set i.toNat (setN (xs.getD i.toNat op0) s)) → w.grownBy w1 (A.map (·.block)) → (∀ k, A.map (·.block) = some k → B ≤ k) → XL P N ops rest qs l w1) : XL P N ops (o :: rest) qs l w := by
  obtain ⟨hl1, _⟩ := h.len
  obtain ⟨vs, hR, hl, hK⟩ := h
  refine XL_rowpart 7 ho hdn hg B e 5 vs hv hA hR h0 hi [.int .i64 s] ⟨rfl, rfl⟩ (by simp only [List.length_singleton]; omega) ht fun w1 h1 h2 h3 => hn w1 (MixK.set1 ⟨vs, hR, hl, hK⟩ hl hK h1 ?_) h2 h3
  obtain ⟨A', c', e1, h4, h5⟩ := kOp_K (hK i.toNat (by omega))
  rw [e1]
  exact kOp_K_of (x := setN (xs.getD i.toNat op0) s) h4 h5
section
variable {α : Type} {d : Kd α} {z : α} {e B : Nat} {W0 W w w1 : World} {A A' : Option Addr} {n c m c' : Nat} {xs ys : List α}
theorem XL_appendMixH {s x : Operand} {t : TypeId} (z : α) (ho : o.op = .call { callee := .builtin .append, args := #[s, x], argTypes := #[t, t] }) (hg : gd ops l o = some true) (hd : okD N o.dst = true) (e : Nat) (zv : Value) (bytes : Nat)
    (ht : P.underlying t = some (.slice e)) (hinfo : (P.info? e).map (fun i => (i.zero, i.size, i.bytes)) = some (some zv, d.sz, bytes)) (hz : zv.cells.size = d.sz) (hs0 : 0 < d.sz) (hb0 : 0 < bytes)
    (xs ys : List α) (vs2 : List (List Value)) (hv : evs l [s, x] = some [.slice A n c, .slice A' m c'])
    (HO : MixK d z e B W0 W A n c xs) (HC : (kRaw d.sz).C W A' m vs2) (hm : ys.length = m) (hK : ∀ i, i < m → d.K W0 (ys.getD i z) (vs2.getD i [])) (hbase : B ≤ W.heap.size) (hl : (xs.length + m) * bytes ≤ 140737488355328)
    (hn : ∀ A1 c1 w1, MixK d z e B W0 w1 A1 (xs ++ ys).length c1 (xs ++ ys) → W.grownBy w1 (A.map (·.block)) → (∀ k, A.map (·.block) = some k → B ≤ k) → (A1.map (·.block) = A.map (·.block) ∨ ∃ b, A1.map (·.block) = some b ∧ W.heap.size ≤ b) → XL P N ops rest qs (putS l o.dst (.slice A1 (xs ++ ys).length c1)) w1) : XL P N ops (o :: rest) qs l W := by
  obtain ⟨vs, hR, hlv, hE⟩ := HO
  have hlen2 : vs2.length = m := HC.1
  refine XL_appendAll (kRaw d.sz) ho hg hd B e zv bytes ht hinfo hz hs0 hb0 vs vs2 hv hR HC (fun _ _ h => h) hbase (by rw [hlv]; exact hl) ?_
  intro A1 c1 w1 hr hc hgr hle hat
  have hlen : (vs ++ vs2).length = (xs ++ ys).length := by simp [hlv, hlen2, hm]
  rw [hlen] at hr ⊢
  refine hn A1 c1 w1 ⟨vs ++ vs2, hr, hlen, fun i hi => ?_⟩ hgr hle hat
  rw [List.getD_eq_getElem?_getD, List.getD_eq_getElem?_getD]
  by_cases hx : i < xs.length
  · rw [List.getElem?_append_left hx, List.getElem?_append_left (by omega), ← List.getD_eq_getElem?_getD, ← List.getD_eq_getElem?_getD]
    exact hE i hx
  · rw [List.getElem?_append_right (by omega), List.getElem?_append_right (by omega), hlv, ← List.getD_eq_getElem?_getD, ← List.getD_eq_getElem?_getD]
    rw [List.length_append] at hi
    exact hK _ (by omega)
end
end Go.Proofs.YtkehomiogkoomaaDoor.RX
