import Derived.Test.YtkehomiogkoomaaDoorMixK
import Derived.Test.YtkehomiogkoomaaDoorAn3
import Derived.Test.YtkehomiogkoomaaDoorUtf4
/- Rows of operations whose attributes lie elsewhere: a text or a count is written. No condition. -/

set_option linter.unusedVariables false
set_option maxRecDepth 100000
namespace Go.Proofs.YtkehomiogkoomaaDoor.RX
open Go Go.RowKit Go.Proofs.YtkehomiogkoomaaDoor Go.Proofs.YtkehomiogkoomaaDoorW.PrintWords
def setT (x : OpA) (t : ByteArray) : OpA := ⟨x.kind, t, x.vk, x.vn, x.vt, x.count, x.attrs⟩
def setN (x : OpA) (n : Int) : OpA := ⟨x.kind, x.text, x.vk, x.vn, x.vt, n, x.attrs⟩
section
variable {e B : Nat} {W0 w w1 : World} {A : Option Addr} {n c : Nat} {xs : List OpA}
theorem MixK.set1 {vs : List (List Value)} {i : Nat} {x' : OpA} {cs : List Value} (h : MixK kOp op0 e B W0 w A n c xs) (hl : vs.length = xs.length) (hK : ∀ i, i < xs.length → kOp.K W0 (xs.getD i op0) (vs.getD i [])) (hR : (kRaw 7).R e w1 B (OkFrom B) (.slice A n c) (vs.set i cs)) (hx : kOp.K W0 x' cs) : MixK kOp op0 e B W0 w1 A n c (xs.set i x') := by
  refine ⟨vs.set i cs, hR, by rw [List.length_set, List.length_set, hl], fun j hj => ?_⟩
  rw [List.length_set] at hj
  rw [List.getD_eq_getElem?_getD, List.getD_eq_getElem?_getD, List.getElem?_set, List.getElem?_set]
  by_cases e1 : i = j
  · subst e1
    rw [if_pos rfl, if_pos rfl, if_pos hj, if_pos (by omega)]
    exact hx
  · rw [if_neg e1, if_neg e1, ← List.getD_eq_getElem?_getD, ← List.getD_eq_getElem?_getD]
    exact hK j hj
end
variable {P : Program} {N : Nat} {ops : Array Oper} {qs : QS} {rest : List Oper} {o : Oper} {l : Slots}
theorem XL_mixText {e B : Nat} {W0 w : World} {A : Option Addr} {n c : Nat} {xs : List OpA} {t : TypeId} {p x : Operand} (ho : o.op = .store t p x) (hdn : o.dst = none) (hg : gd ops l o = some true) {ad : Addr} {i : Int} (s : ByteArray) (hv : evs l [p, x] = some [.pointer (some ((ad.add (i.toNat * 7)).add 1)), .string s]) (hA : A = some ad)
    (h : MixK kOp op0 e B W0 w A n c xs) (h0 : 0 ≤ i) (hi : i < n) (ht : sizeP P t = some 1)
    (hn : ∀ w1, MixK kOp op0 e B W0 w1 A n c (xs.set i.toNat (setT (xs.getD i.toNat op0) s)) → w.grownBy w1 (A.map (·.block)) → (∀ k, A.map (·.block) = some k → B ≤ k) → XL P N ops rest qs l w1) : XL P N ops (o :: rest) qs l w := by
  obtain ⟨hl1, _⟩ := h.len
  obtain ⟨vs, hR, hl, hK⟩ := h
  refine XL_rowpart 7 ho hdn hg B e 1 vs hv hA hR h0 hi [.string s] ⟨rfl, rfl⟩ (by simp only [List.length_singleton]; omega) ht fun w1 h1 h2 h3 => hn w1 (MixK.set1 ⟨vs, hR, hl, hK⟩ hl hK h1 ?_) h2 h3
  obtain ⟨A', c', e1, h4, h5⟩ := kOp_K (hK i.toNat (by omega))
  rw [e1]
  exact kOp_K_of (x := setT (xs.getD i.toNat op0) s) h4 h5
theorem XL_mixCount {e B : Nat} {W0 w : World} {A : Option Addr} {n c : Nat} {xs : List OpA} {t : TypeId} {p x : Operand} (ho : o.op = .store t p x) (hdn : o.dst = none) (hg : gd ops l o = some true) {ad : Addr} {i : Int} (s : Int) (hv : evs l [p, x] = some [.pointer (some ((ad.add (i.toNat * 7)).add 5)), .int .i64 s]) (hA : A = some ad)
    (h : MixK kOp op0 e B W0 w A n c xs) (h0 : 0 ≤ i) (hi : i < n) (ht : sizeP P t = some 1)
    (hn : ∀ w1, MixK kOp op0 e B W0 w1 A n c (xs.set i.toNat (setN (xs.getD i.toNat op0) s)) → w.grownBy w1 (A.map (·.block)) → (∀ k, A.map (·.block) = some k → B ≤ k) → XL P N ops rest qs l w1) : XL P N ops (o :: rest) qs l w := by
  obtain ⟨hl1, _⟩ := h.len
  obtain ⟨vs, hR, hl, hK⟩ := h
  refine XL_rowpart 7 ho hdn hg B e 5 vs hv hA hR h0 hi [.int .i64 s] ⟨rfl, rfl⟩ (by simp only [List.length_singleton]; omega) ht fun w1 h1 h2 h3 => hn w1 (MixK.set1 ⟨vs, hR, hl, hK⟩ hl hK h1 ?_) h2 h3
  obtain ⟨A', c', e1, h4, h5⟩ := kOp_K (hK i.toNat (by omega))
  rw [e1]
  exact kOp_K_of (x := setN (xs.getD i.toNat op0) s) h4 h5
section
variable {α : Type} {d : Kd α} {z : α} {e B : Nat} {W0 W w w1 : World} {A A' : Option Addr} {n c m c' : Nat} {xs ys : List α}
theorem XL_appendMixH {s x : Operand} {t : TypeId} (z : α) (ho : o.op = .call { callee := .builtin .append, args := #[s, x], argTypes := #[t, t] }) (hg : gd ops l o = some true) (hd : okD N o.dst = true) (e : Nat) (zv : Value) (bytes : Nat)
    (ht : P.underlying t = some (.slice e)) (hinfo : (P.info? e).map (fun i => (i.zero, i.size, i.bytes)) = some (some zv, d.sz, bytes)) (hz : zv.cells.size = d.sz) (hs0 : 0 < d.sz) (hb0 : 0 < bytes)
    (xs ys : List α) (vs2 : List (List Value)) (hv : evs l [s, x] = some [.slice A n c, .slice A' m c'])
    (HO : MixK d z e B W0 W A n c xs) (HC : (kRaw d.sz).C W A' m vs2) (hm : ys.length = m) (hK : ∀ i, i < m → d.K W0 (ys.getD i z) (vs2.getD i [])) (hbase : B ≤ W.heap.size) (hl : (xs.length + m) * bytes ≤ 140737488355328)
    (hn : ∀ A1 c1 w1, MixK d z e B W0 w1 A1 (xs ++ ys).length c1 (xs ++ ys) → W.grownBy w1 (A.map (·.block)) → (∀ k, A.map (·.block) = some k → B ≤ k) → (A1.map (·.block) = A.map (·.block) ∨ ∃ b, A1.map (·.block) = some b ∧ W.heap.size ≤ b) → XL P N ops rest qs (putS l o.dst (.slice A1 (xs ++ ys).length c1)) w1) : XL P N ops (o :: rest) qs l W := by
  obtain ⟨vs, hR, hlv, hE⟩ := HO
  have hlen2 : vs2.length = m := HC.1
  refine XL_appendAll (kRaw d.sz) ho hg hd B e zv bytes ht hinfo hz hs0 hb0 vs vs2 hv hR HC (fun _ _ h => h) hbase (by rw [hlv]; exact hl) ?_
  intro A1 c1 w1 hr hc hgr hle hat
  have hlen : (vs ++ vs2).length = (xs ++ ys).length := by simp [hlv, hlen2, hm]
  rw [hlen] at hr ⊢
  refine hn A1 c1 w1 ⟨vs ++ vs2, hr, hlen, fun i hi => ?_⟩ hgr hle hat
  rw [List.getD_eq_getElem?_getD, List.getD_eq_getElem?_getD]
  by_cases hx : i < xs.length
  · rw [List.getElem?_append_left hx, List.getElem?_append_left (by omega), ← List.getD_eq_getElem?_getD, ← List.getD_eq_getElem?_getD]
    exact hE i hx
  · rw [List.getElem?_append_right (by omega), List.getElem?_append_right (by omega), hlv, ← List.getD_eq_getElem?_getD, ← List.getD_eq_getElem?_getD]
    rw [List.length_append] at hi
    exact hK _ (by omega)
end
end Go.Proofs.YtkehomiogkoomaaDoor.RX
/- Builders: operations that are cut in pieces, and inserts that change places with the deletes behind them. No condition. -/
set_option linter.unusedVariables false
set_option linter.unusedSimpArgs false
set_option maxRecDepth 100000
namespace Go.Proofs.YtkehomiogkoomaaDoor
open Go Go.RowKit Go.Proofs.YtkehomiogkoomaaDoorW.PrintWords RX
namespace B
/-- l is o itself or two pieces of it -/
structure Two (o a b : OpA) : Prop where
  pa : pErr a = 0
  pb : pErr b = 0
  m : meets a b
  e : jo a b = o
  sb : opB a + opB b = opB o
  sr : opR a + opR b = opR o
  ft : fine o → fine a ∧ fine b
def kN (cs : List Int) (i : Nat) : Nat := (Int.tmod (IntKind.u64.wrap (cs.getD (i % cs.length) 0)) 1000).toNat
noncomputable def cutAt (o : OpA) (K : Nat) : Nat := if o.kind = 1 then K % (U.scz o.text).length else if o.kind ≠ 2 then K % o.count.toNat else 0
noncomputable def pA (o : OpA) (k : Nat) : OpA := if o.kind = 1 then ⟨o.kind, runesBytes ((U.scz o.text).take k), o.vk, o.vn, o.vt, o.count, o.attrs⟩ else if o.kind ≠ 2 then ⟨o.kind, o.text, o.vk, o.vn, o.vt, (k : Int), o.attrs⟩ else o
noncomputable def pB (o : OpA) (k : Nat) : OpA := if o.kind = 1 then ⟨o.kind, runesBytes ((U.scz o.text).drop k), o.vk, o.vn, o.vt, o.count, o.attrs⟩ else if o.kind ≠ 2 then ⟨o.kind, o.text, o.vk, o.vn, o.vt, o.count - (k : Int), o.attrs⟩ else o
noncomputable def pcs (o : OpA) (K : Nat) : List OpA := (if 0 < cutAt o K then [pA o (cutAt o K)] else []) ++ [pB o (cutAt o K)]
/-- the pieces of the first i operations -/
noncomputable def parts (ys : List OpA) (cs : List Int) : Nat → List OpA
  | 0 => []
  | i + 1 => parts ys cs i ++ pcs (ys.getD i op0) (kN cs i)
end B
end Go.Proofs.YtkehomiogkoomaaDoor
