import Derived.Test.YtkehomiogkoomaaDoorKd
import Derived.Test.YtkehomiogkoomaaDoorBox
/- Attributes as slices' elements: key, kind, number, text. No condition. -/

set_option linter.unusedVariables false
set_option linter.unusedSimpArgs false
namespace Go.Proofs.YtkehomiogkoomaaDoor.RX
open Go Go.RowKit Go.Proofs.YtkehomiogkoomaaDoorW.PrintWords

abbrev At := ByteArray × Int × Int × ByteArray
def at0 : At := (ByteArray.empty, 0, 0, ByteArray.empty)
def atV (x : At) : List Value := [.string x.1, .int .i64 x.2.1, .int .i64 x.2.2.1, .string x.2.2.2]
def kAttr : Kd At := Kd.pair Kd.string (Kd.pair (Kd.int .i64) (Kd.pair (Kd.int .i64) Kd.string))
theorem kAttr_K {w : World} {x : At} {c : List Value} (h : kAttr.K w x c) : c = atV x := by
  obtain ⟨_, _, rfl, rfl, _, _, rfl, rfl, _, _, rfl, rfl, rfl⟩ := h
  rfl
theorem kAttr_M (w : World) (base : Nat) (ok : Nat → Prop) (x : At) : kAttr.M w base ok x (atV x) := ⟨[.string x.1], _, rfl, rfl, [.int .i64 x.2.1], _, rfl, rfl, [.int .i64 x.2.2.1], [.string x.2.2.2], rfl, rfl, rfl⟩
theorem kAttr_KM {w : World} {base : Nat} {ok : Nat → Prop} (x : At) (cs : List Value) (h : kAttr.K w x cs) : kAttr.M w base ok x cs := by rw [kAttr_K h]; exact kAttr_M _ _ _ _
theorem Kd.atAttr {w : World} {A : Option Addr} {n : Nat} {xs : List At} (h : kAttr.C w A n xs) {i : Int} (h0 : 0 ≤ i) (h1 : i < n) : ∃ ad, A = some ad ∧ CellsAt w (ad.add (i.toNat * 4)) (atV (xs.getD i.toNat at0)) := by
  obtain ⟨ad, c, e, hK, hc⟩ := Kd.atC h at0 h0 h1
  obtain rfl := kAttr_K hK
  exact ⟨ad, e, hc⟩
theorem repsAttr {w : World} {base : Nat} {ok : Nat → Prop} (xs : List At) : Reps (kAttr.M w base ok) 4 xs (xs.flatMap atV) := reps_flatMap (R := kAttr.M w base ok) (size := 4) atV (fun _ => rfl) (fun x => kAttr_M _ _ _ x) xs
end Go.Proofs.YtkehomiogkoomaaDoor.RX
/- Operations and pieces as elements and as arguments. No condition. -/
set_option linter.unusedVariables false
set_option linter.unusedSimpArgs false
set_option maxRecDepth 100000
namespace Go.Proofs.YtkehomiogkoomaaDoor.RX
open Go Go.RowKit Go.Proofs.YtkehomiogkoomaaDoorW.PrintWords

structure OpA where
  kind : Int
  text : ByteArray
  vk : Int
  vn : Int
  vt : ByteArray
  count : Int
  attrs : List At
def op0 : OpA := ⟨0, ByteArray.empty, 0, 0, ByteArray.empty, 0, []⟩
def OpA.tup (o : OpA) : Int × ByteArray × (Int × Int × ByteArray) × Int × List At := (o.kind, o.text, (o.vk, o.vn, o.vt), o.count, o.attrs)
def OpA.val (o : OpA) : Int × Int × ByteArray := (o.vk, o.vn, o.vt)
abbrev kAttrs : Kd (List At) := Kd.slice 71 kAttr
def kOp : Kd OpA := Kd.comap OpA.tup (Kd.pair (Kd.int .i64) (Kd.pair Kd.string (Kd.pair (Kd.pair (Kd.int .i64) (Kd.pair (Kd.int .i64) Kd.string)) (Kd.pair (Kd.int .i64) kAttrs))))
def opV (x : OpA) (A : Option Addr) (c : Nat) : List Value := [.int .i64 x.kind, .string x.text, .int .i64 x.vk, .int .i64 x.vn, .string x.vt, .int .i64 x.count, .slice A x.attrs.length c]
theorem kOp_K {w : World} {x : OpA} {cs : List Value} (h : kOp.K w x cs) : ∃ A c, cs = opV x A c ∧ x.attrs.length ≤ c ∧ kAttr.C w A x.attrs.length x.attrs := by
  obtain ⟨_, _, rfl, rfl, _, _, rfl, rfl, _, _, rfl, ⟨_, _, rfl, rfl, _, _, rfl, rfl, rfl⟩, _, _, rfl, rfl, A, c, rfl, hl, hC⟩ := h
  exact ⟨A, c, rfl, hl, hC⟩
/-! ### values of the interface -/
def valV (v : Int × Int × ByteArray) : Value :=
  if v.1 = 1 then .iface 171 (.bool (decide (v.2.1 = 1))) else if v.1 = 2 then .iface 172 (.int .i64 v.2.1) else if v.1 = 3 then .iface 173 (.string v.2.2) else .iface 175 (.agg #[])
def kVal : Kd (Int × Int × ByteArray) := Kd.scalar valV (fun v => by unfold valV; repeat (first | rfl | split))

/-! ### pieces -/
inductive PieceA where
  | ins (attrs : List At) (text : ByteArray) (len : Int)
  | emb (attrs : List At) (kind : ByteArray) (v : Int × Int × ByteArray)
  | ret (attrs : List At) (count : Int)
  | del (count : Int)
def PieceA.sum : PieceA → (List At × ByteArray × Int) ⊕ (List At × ByteArray × (Int × Int × ByteArray)) ⊕ (List At × Int) ⊕ Int
  | .ins a t n => .inl (a, t, n)
  | .emb a k v => .inr (.inl (a, k, v))
  | .ret a c => .inr (.inr (.inl (a, c)))
  | .del c => .inr (.inr (.inr c))
def kPiece : Kd PieceA := Kd.comap PieceA.sum (Kd.sum (Kd.boxed 95 (Kd.pair kAttrs (Kd.pair Kd.string (Kd.int .i64)))) (Kd.sum (Kd.boxed 97 (Kd.pair kAttrs (Kd.pair Kd.string kVal))) (Kd.sum (Kd.boxed 100 (Kd.pair kAttrs (Kd.int .i64))) (Kd.boxed 102 (Kd.int .i64)) rfl) rfl) rfl)
end Go.Proofs.YtkehomiogkoomaaDoor.RX
/- Elements with memory of their own beside a row; rows of operations that share their attributes' memory. No condition. -/

set_option linter.unusedVariables false
set_option linter.unusedSimpArgs false
set_option maxRecDepth 100000
namespace Go.Proofs.YtkehomiogkoomaaDoor.RX
open Go Go.RowKit Go.Proofs.YtkehomiogkoomaaDoorW.PrintWords

/-- cells as they are -/
def kRaw (n : Nat) : Kd (List Value) where
  sz := n
  E := []
  K := fun _ x cs => cs = x ∧ x.length = n ∧ ∀ u ∈ x, u.oneCell' = true
  M := fun _ _ _ x cs => cs = x ∧ x.length = n ∧ ∀ u ∈ x, u.oneCell' = true
  K_len := fun h => by rw [h.1]; exact h.2.1
  K_one := fun h => by rw [h.1]; exact h.2.2
  K_below := fun _ h => h
  K_of_M := fun h => h
  M_mono := fun _ h => h
  M_bound := fun h => h
  M_move := fun _ h => h
  M_lower := fun _ h => h
theorem Kd.C_ofRaw {α : Type} {d : Kd α} (z : α) {w : World} {A : Option Addr} {n : Nat} {xs : List α} {vs : List (List Value)} (h : (kRaw d.sz).C w A n vs) (hl : xs.length = n) (hK : ∀ i, i < n → d.K w (xs.getD i z) (vs.getD i [])) : d.C w A n xs := by
  obtain ⟨h1, h2, h3⟩ := h
  refine ⟨hl, h2, fun h0 => ?_⟩
  obtain ⟨ad, e, hc⟩ := h3 h0
  refine ⟨ad, e, fun j p hj => ?_⟩
  have hj1 := (List.getElem?_eq_some_iff.1 hj).1
  have hj2 : j < vs.length := by omega
  obtain ⟨c, a, b, cc⟩ := hc j _ (List.getElem?_eq_getElem hj2)
  have hk := hK j (by omega)
  rw [List.getD_eq_getElem?_getD, hj, List.getD_eq_getElem?_getD, List.getElem?_eq_getElem hj2] at hk
  obtain ⟨rfl, _⟩ := b
  exact ⟨_, a, hk, cc⟩

/-- a row of the call's own, whose elements' memory is its own too, or lay there from W0 on -/
def Mix {α : Type} (d : Kd α) (z : α) (e : Nat) (W0 w : World) (A : Option Addr) (n c : Nat) (xs : List α) : Prop :=
  ∃ vs, (kRaw d.sz).R e w W0.heap.size (OkFrom W0.heap.size) (.slice A n c) vs ∧ vs.length = xs.length ∧
    ∀ i, i < xs.length → d.M w W0.heap.size (fun k => OkFrom W0.heap.size k ∧ some k ≠ A.map (·.block)) (xs.getD i z) (vs.getD i []) ∨ d.K W0 (xs.getD i z) (vs.getD i [])
section
variable {α : Type} {d : Kd α} {z : α} {e : Nat} {W0 W w w1 : World} {A A' : Option Addr} {n c m c' : Nat} {xs ys : List α}
theorem Mix.len (h : Mix d z e W0 w A n c xs) : n = xs.length ∧ n ≤ c := by
  obtain ⟨vs, hR, hl, _⟩ := h
  obtain ⟨h1, h2⟩ := Kd.R_len hR
  exact ⟨by omega, h2⟩
theorem Mix.C (hB : Below W0.heap.size W0 w) (h : Mix d z e W0 w A n c xs) : d.C w A n xs := by
  obtain ⟨h1, h2⟩ := h.len
  obtain ⟨vs, hR, hl, hK⟩ := h
  refine Kd.C_ofRaw z (Kd.R_C hR) h1.symm fun i hi => ?_
  rcases hK i (by omega) with h | h
  · exact d.K_of_M h
  · exact d.K_below hB h
theorem Mix.below (hb : Below w.heap.size w w1) (h : Mix d z e W0 w A n c xs) : Mix d z e W0 w1 A n c xs := by
  obtain ⟨vs, hR, hl, hK⟩ := h
  refine ⟨vs, Kd.R_below hR hb, hl, fun i hi => ?_⟩
  rcases hK i hi with h | h
  · exact .inl (Kd.M_below h hb)
  · exact .inr h
end
end Go.Proofs.YtkehomiogkoomaaDoor.RX
