import Derived.Test.YtkehomiogkoomaaDoorBld2
import Derived.Test.YtkehomiogkoomaaDoorO3
import Derived.Test.YtkehomiogkoomaaDoorOp2
/- Builders: operations that are cut in pieces, and inserts that change places with the deletes behind them. No condition. -/
set_option linter.unusedVariables false
set_option linter.unusedSimpArgs false
set_option maxRecDepth 100000
namespace Go.Proofs.YtkehomiogkoomaaDoor
open Go Go.RowKit Go.Proofs.YtkehomiogkoomaaDoorW.PrintWords RX
namespace B
/-! ### pieces -/
theorem jo_assoc (c a b : OpA) : jo (jo c a) b = jo c (jo a b) := by
  unfold jo
  simp only
  rw [app_assoc, Int.add_assoc]
theorem push_push {X : List OpA} {a b : OpA} (hm : meets a b) : push (push X a) b = push X (jo a b) := by
  obtain ⟨m1, m2, m3⟩ := hm
  rcases snoc_cases X with rfl | ⟨ys, c, rfl⟩
  · rw [push_nil, ← List.nil_append [a], push_snoc, if_pos ⟨m1, m2, m3⟩]; rfl
  · rw [push_snoc, push_snoc]
    by_cases h : meets c a
    · have h2 : meets (jo c a) b := ⟨h.1.trans m1, m2, h.2.2.trans m3⟩
      have h3 : meets c (jo a b) := ⟨h.1, h.2.1, h.2.2⟩
      rw [if_pos h, if_pos h3, push_snoc, if_pos h2, jo_assoc]
    · have h3 : ¬ meets c (jo a b) := fun k => h ⟨k.1, k.2.1, k.2.2⟩
      rw [if_neg h, if_neg h3, push_snoc, if_pos ⟨m1, m2, m3⟩]
/-- l is o itself or two pieces of it -/
structure Two (o a b : OpA) : Prop where
  pa : pErr a = 0
  pb : pErr b = 0
  m : meets a b
  e : jo a b = o
  sb : opB a + opB b = opB o
  sr : opR a + opR b = opR o
  ft : fine o → fine a ∧ fine b
def kN (cs : List Int) (i : Nat) : Nat := (Int.tmod (IntKind.u64.wrap (cs.getD (i % cs.length) 0)) 1000).toNat
noncomputable def cutAt (o : OpA) (K : Nat) : Nat := if o.kind = 1 then K % (U.scz o.text).length else if o.kind ≠ 2 then K % o.count.toNat else 0
noncomputable def pA (o : OpA) (k : Nat) : OpA := if o.kind = 1 then ⟨o.kind, runesBytes ((U.scz o.text).take k), o.vk, o.vn, o.vt, o.count, o.attrs⟩ else if o.kind ≠ 2 then ⟨o.kind, o.text, o.vk, o.vn, o.vt, (k : Int), o.attrs⟩ else o
noncomputable def pB (o : OpA) (k : Nat) : OpA := if o.kind = 1 then ⟨o.kind, runesBytes ((U.scz o.text).drop k), o.vk, o.vn, o.vt, o.count, o.attrs⟩ else if o.kind ≠ 2 then ⟨o.kind, o.text, o.vk, o.vn, o.vt, o.count - (k : Int), o.attrs⟩ else o
noncomputable def pcs (o : OpA) (K : Nat) : List OpA := (if 0 < cutAt o K then [pA o (cutAt o K)] else []) ++ [pB o (cutAt o K)]
theorem rb_ne {l : List Int} (hv : ∀ r ∈ l, U.vz r) (h : l ≠ []) : runesBytes l ≠ ⟨#[]⟩ := by
  intro e
  obtain ⟨u1, u2⟩ := U.text_utf hv
  rw [e] at u2
  have h1 := U.utf_flat (s := ⟨#[]⟩) (by rw [← e]; exact u1)
  have h2 : U.flat (U.sc ⟨#[]⟩) = [] := h1.symm
  have h3 := U.flat_le (U.sc ⟨#[]⟩)
  rw [h2] at h3
  have h4 : U.sc ⟨#[]⟩ = [] := List.eq_nil_of_length_eq_zero (Nat.le_zero.1 h3)
  rw [h4] at u2
  exact h u2.symm
/-- the pieces of the first i operations -/
noncomputable def parts (ys : List OpA) (cs : List Int) : Nat → List OpA
  | 0 => []
  | i + 1 => parts ys cs i ++ pcs (ys.getD i op0) (kN cs i)
end B
end Go.Proofs.YtkehomiogkoomaaDoor
/- Cells as elements and as arguments. No condition. -/

set_option linter.unusedVariables false
set_option linter.unusedSimpArgs false
set_option maxRecDepth 100000
namespace Go.Proofs.YtkehomiogkoomaaDoor.RX
open Go Go.RowKit Go.Proofs.YtkehomiogkoomaaDoorW.PrintWords

structure CellA where
  rune : Int
  kind : ByteArray
  vk : Int
  vn : Int
  vt : ByteArray
  attrs : List At
def cell0 : CellA := ⟨0, ByteArray.empty, 0, 0, ByteArray.empty, []⟩
/-- a cell's cells -/
abbrev c6L (x : CellA) (v : Value) : List Value := [.int .i32 x.rune, .string x.kind, .int .i64 x.vk, .int .i64 x.vn, .string x.vt, v]
abbrev c6A (x : CellA) (v : Value) : Array Value := #[.int .i32 x.rune, .string x.kind, .int .i64 x.vk, .int .i64 x.vn, .string x.vt, v]
def CellA.tup (o : CellA) : Int × ByteArray × (Int × Int × ByteArray) × List At := (o.rune, o.kind, (o.vk, o.vn, o.vt), o.attrs)
def kCell : Kd CellA := Kd.comap CellA.tup (Kd.pair (Kd.int .i32) (Kd.pair Kd.string (Kd.pair (Kd.pair (Kd.int .i64) (Kd.pair (Kd.int .i64) Kd.string)) kAttrs)))
def cellV (x : CellA) (A : Option Addr) (c : Nat) : List Value := [.int .i32 x.rune, .string x.kind, .int .i64 x.vk, .int .i64 x.vn, .string x.vt, .slice A x.attrs.length c]
theorem kCell_K {w : World} {x : CellA} {cs : List Value} (h : kCell.K w x cs) : ∃ A c, cs = cellV x A c ∧ x.attrs.length ≤ c ∧ kAttr.C w A x.attrs.length x.attrs := by
  obtain ⟨_, _, rfl, rfl, _, _, rfl, rfl, _, _, rfl, ⟨_, _, rfl, rfl, _, _, rfl, rfl, rfl⟩, A, c, rfl, hl, hC⟩ := h
  exact ⟨A, c, rfl, hl, hC⟩
theorem kCell_K_of {w : World} {x : CellA} {A : Option Addr} {c : Nat} (hl : x.attrs.length ≤ c) (hC : kAttr.C w A x.attrs.length x.attrs) : kCell.K w x (cellV x A c) :=
  ⟨[.int .i32 x.rune], _, rfl, rfl, [.string x.kind], _, rfl, rfl, [.int .i64 x.vk, .int .i64 x.vn, .string x.vt], _, rfl, ⟨[.int .i64 x.vk], _, rfl, rfl, [.int .i64 x.vn], _, rfl, rfl, rfl⟩, A, c, rfl, hl, hC⟩
theorem Kd.atCell {w : World} {A : Option Addr} {n : Nat} {xs : List CellA} (h : kCell.C w A n xs) {i : Int} (h0 : 0 ≤ i) (h1 : i < n) : ∃ ad B c, A = some ad ∧ CellsAt w (ad.add (i.toNat * 6)) (cellV (xs.getD i.toNat cell0) B c) ∧ (xs.getD i.toNat cell0).attrs.length ≤ c ∧ kAttr.C w B (xs.getD i.toNat cell0).attrs.length (xs.getD i.toNat cell0).attrs := by
  obtain ⟨ad, cs, e, hK, hc⟩ := Kd.atC h cell0 h0 h1
  obtain ⟨B, c, rfl, hl, hC⟩ := kCell_K hK
  exact ⟨ad, B, c, e, hc, hl, hC⟩
theorem kCell_M {w : World} {base : Nat} {ok : Nat → Prop} {x : CellA} {B : Option Addr} {c : Nat} (h : kAttrs.M w base ok x.attrs [.slice B x.attrs.length c]) : kCell.M w base ok x (cellV x B c) :=
  ⟨[.int .i32 x.rune], _, rfl, rfl, [.string x.kind], _, rfl, rfl, [.int .i64 x.vk, .int .i64 x.vn, .string x.vt], _, rfl, ⟨[.int .i64 x.vk], _, rfl, rfl, [.int .i64 x.vn], _, rfl, rfl, rfl⟩, h⟩
theorem kCell_M0 {w : World} {base : Nat} {ok : Nat → Prop} (x : CellA) (h : x.attrs = []) : kCell.M w base ok x (cellV x none 0) := by
  obtain ⟨a, b, c, d, e, at9⟩ := x
  obtain rfl : at9 = [] := h
  exact kCell_M kAttrs_nil
/-- a walk over a string's scalars has moved: a row is no such walk -/
theorem Kd.R_iter {α : Type} {d : Kd α} {e : Nat} {w w1 : World} {base : Nat} {ok : Nat → Prop} {v : Value} {xs : List α} {g p : Nat} {s : ByteArray} (h : d.R e w base ok v xs) (hg : w.heap[g]? = some (.stringIter s p)) (k : w.grownBy w1 (some g)) : d.R e w1 base ok v xs := by
  have h2 := Kd.R_bound h
  refine Kd.R_mono (Kd.R_grown h2 k (fun j hj e1 => ?_)) (fun j hj => hj.1)
  obtain ⟨_, _, _, q, _, cells, hc⟩ := hj
  obtain rfl : j = g := by injection e1
  rw [hg] at hc
  cases hc
end Go.Proofs.YtkehomiogkoomaaDoor.RX
