import Derived.Test.YtkehomiogkoomaaDoorBld2
import Derived.Test.YtkehomiogkoomaaDoorUtf4
import Derived.Test.YtkehomiogkoomaaDoorOp2
/- Builders: operations that are cut in pieces, and inserts that change places with the deletes behind them. No condition. -/
set_option linter.unusedVariables false
set_option linter.unusedSimpArgs false
set_option maxRecDepth 100000
namespace Go.Proofs.YtkehomiogkoomaaDoor
open Go Go.RowKit Go.Proofs.YtkehomiogkoomaaDoorW.PrintWords RX
namespace B
/-! ### a canonical list is its own -/
theorem can_fix {xs : List OpA} (h : Can xs) : can xs = xs := by
  obtain ⟨h1, _, _, h4, h5⟩ := of_can h
  unfold can
  rw [run_fix xs h1 h4]
  by_cases hd : xs.length ≠ 0 ∧ (lst xs).kind = 4
  · rw [if_pos hd]
    rcases snoc_cases xs with rfl | ⟨ys, a, rfl⟩
    · exact absurd rfl hd.1
    · rw [lst_snoc] at hd ⊢
      obtain ⟨_, ga⟩ := bad_snoc.1 h1
      have hcn := count_of_ok ga (.inr hd.2)
      rw [List.length_append, List.length_singleton, Nat.add_sub_cancel, List.take_left]
      unfold dels
      rw [if_neg (by show ¬ a.count = 0; omega), ← ok_del ga hd.2, fin_snoc, if_neg (fun k => by have := k.1; omega)]
  · rw [if_neg hd]
    show fin (dels xs 0) = xs
    rw [show dels xs 0 = xs from if_pos rfl]
    unfold fin
    rw [if_neg (fun k => h5.elim k.1 (fun h => h k.2))]
/-- l is o itself or two pieces of it -/
structure Two (o a b : OpA) : Prop where
  pa : pErr a = 0
  pb : pErr b = 0
  m : meets a b
  e : jo a b = o
  sb : opB a + opB b = opB o
  sr : opR a + opR b = opR o
  ft : fine o → fine a ∧ fine b
def kN (cs : List Int) (i : Nat) : Nat := (Int.tmod (IntKind.u64.wrap (cs.getD (i % cs.length) 0)) 1000).toNat
noncomputable def cutAt (o : OpA) (K : Nat) : Nat := if o.kind = 1 then K % (U.scz o.text).length else if o.kind ≠ 2 then K % o.count.toNat else 0
noncomputable def pA (o : OpA) (k : Nat) : OpA := if o.kind = 1 then ⟨o.kind, runesBytes ((U.scz o.text).take k), o.vk, o.vn, o.vt, o.count, o.attrs⟩ else if o.kind ≠ 2 then ⟨o.kind, o.text, o.vk, o.vn, o.vt, (k : Int), o.attrs⟩ else o
noncomputable def pB (o : OpA) (k : Nat) : OpA := if o.kind = 1 then ⟨o.kind, runesBytes ((U.scz o.text).drop k), o.vk, o.vn, o.vt, o.count, o.attrs⟩ else if o.kind ≠ 2 then ⟨o.kind, o.text, o.vk, o.vn, o.vt, o.count - (k : Int), o.attrs⟩ else o
noncomputable def pcs (o : OpA) (K : Nat) : List OpA := (if 0 < cutAt o K then [pA o (cutAt o K)] else []) ++ [pB o (cutAt o K)]
/-- the pieces of the first i operations -/
noncomputable def parts (ys : List OpA) (cs : List Int) : Nat → List OpA
  | 0 => []
  | i + 1 => parts ys cs i ++ pcs (ys.getD i op0) (kN cs i)
theorem can_tx {xs : List OpA} (h : ∀ o ∈ xs, fine o) : txS (can xs) ≤ txS xs := by
  obtain ⟨h1, h2⟩ := run_sz xs h
  obtain ⟨d1, d2⟩ := dels_sz (g := (run xs).2) h1
  unfold can fin
  split
  · have := txS_take (dels (run xs).1 (run xs).2) ((dels (run xs).1 (run xs).2).length - 1); omega
  · omega
end B
end Go.Proofs.YtkehomiogkoomaaDoor
/- Cells as elements and as arguments. No condition. -/

set_option linter.unusedVariables false
set_option linter.unusedSimpArgs false
set_option maxRecDepth 100000
namespace Go.Proofs.YtkehomiogkoomaaDoor.RX
open Go Go.RowKit Go.Proofs.YtkehomiogkoomaaDoorW.PrintWords

structure CellA where
  rune : Int
  kind : ByteArray
  vk : Int
  vn : Int
  vt : ByteArray
  attrs : List At
def cell0 : CellA := ⟨0, ByteArray.empty, 0, 0, ByteArray.empty, []⟩
def CellA.tup (o : CellA) : Int × ByteArray × (Int × Int × ByteArray) × List At := (o.rune, o.kind, (o.vk, o.vn, o.vt), o.attrs)
def kCell : Kd CellA := Kd.comap CellA.tup (Kd.pair (Kd.int .i32) (Kd.pair Kd.string (Kd.pair (Kd.pair (Kd.int .i64) (Kd.pair (Kd.int .i64) Kd.string)) kAttrs)))
def cellV (x : CellA) (A : Option Addr) (c : Nat) : List Value := [.int .i32 x.rune, .string x.kind, .int .i64 x.vk, .int .i64 x.vn, .string x.vt, .slice A x.attrs.length c]
theorem kCell_K {w : World} {x : CellA} {cs : List Value} (h : kCell.K w x cs) : ∃ A c, cs = cellV x A c ∧ x.attrs.length ≤ c ∧ kAttr.C w A x.attrs.length x.attrs := by
  obtain ⟨_, _, rfl, rfl, _, _, rfl, rfl, _, _, rfl, ⟨_, _, rfl, rfl, _, _, rfl, rfl, rfl⟩, A, c, rfl, hl, hC⟩ := h
  exact ⟨A, c, rfl, hl, hC⟩
theorem kCell_K_of {w : World} {x : CellA} {A : Option Addr} {c : Nat} (hl : x.attrs.length ≤ c) (hC : kAttr.C w A x.attrs.length x.attrs) : kCell.K w x (cellV x A c) :=
  ⟨[.int .i32 x.rune], _, rfl, rfl, [.string x.kind], _, rfl, rfl, [.int .i64 x.vk, .int .i64 x.vn, .string x.vt], _, rfl, ⟨[.int .i64 x.vk], _, rfl, rfl, [.int .i64 x.vn], _, rfl, rfl, rfl⟩, A, c, rfl, hl, hC⟩
theorem Kd.atCell {w : World} {A : Option Addr} {n : Nat} {xs : List CellA} (h : kCell.C w A n xs) {i : Int} (h0 : 0 ≤ i) (h1 : i < n) : ∃ ad B c, A = some ad ∧ CellsAt w (ad.add (i.toNat * 6)) (cellV (xs.getD i.toNat cell0) B c) ∧ (xs.getD i.toNat cell0).attrs.length ≤ c ∧ kAttr.C w B (xs.getD i.toNat cell0).attrs.length (xs.getD i.toNat cell0).attrs := by
  obtain ⟨ad, cs, e, hK, hc⟩ := Kd.atC h cell0 h0 h1
  obtain ⟨B, c, rfl, hl, hC⟩ := kCell_K hK
  exact ⟨ad, B, c, e, hc, hl, hC⟩
theorem kCell_M {w : World} {base : Nat} {ok : Nat → Prop} {x : CellA} {B : Option Addr} {c : Nat} (h : kAttrs.M w base ok x.attrs [.slice B x.attrs.length c]) : kCell.M w base ok x (cellV x B c) :=
  ⟨[.int .i32 x.rune], _, rfl, rfl, [.string x.kind], _, rfl, rfl, [.int .i64 x.vk, .int .i64 x.vn, .string x.vt], _, rfl, ⟨[.int .i64 x.vk], _, rfl, rfl, [.int .i64 x.vn], _, rfl, rfl, rfl⟩, h⟩
theorem repsCell0 {w : World} {base : Nat} {ok : Nat → Prop} : Reps (kCell.M w base ok) 6 [] [] := Reps.none _ _
/-- a walk over a string's scalars has moved: a row is no such walk -/
theorem Kd.R_iter {α : Type} {d : Kd α} {e : Nat} {w w1 : World} {base : Nat} {ok : Nat → Prop} {v : Value} {xs : List α} {g p : Nat} {s : ByteArray} (h : d.R e w base ok v xs) (hg : w.heap[g]? = some (.stringIter s p)) (k : w.grownBy w1 (some g)) : d.R e w1 base ok v xs := by
  have h2 := Kd.R_bound h
  refine Kd.R_mono (Kd.R_grown h2 k (fun j hj e1 => ?_)) (fun j hj => hj.1)
  obtain ⟨_, _, _, q, _, cells, hc⟩ := hj
  obtain rfl : j = g := by injection e1
  rw [hg] at hc
  cases hc
theorem Kd.iter_kept {α : Type} {d : Kd α} {e : Nat} {w w1 : World} {base : Nat} {ok : Nat → Prop} {A : Option Addr} {n c : Nat} {xs : List α} {g p : Nat} {s : ByteArray} (hg : w.heap[g]? = some (.stringIter s p)) (h : d.R e w base ok (.slice A n c) xs) (k : w.grownBy w1 (A.map (·.block))) : w1.heap[g]? = some (.stringIter s p) := by
  obtain ⟨_, _, _, _, hk⟩ := k
  refine (hk g (Array.getElem?_eq_some_iff.1 hg).1 fun e1 => ?_).trans hg
  obtain ⟨inner, ho⟩ := Kd.R_own h
  obtain ⟨cells, hc⟩ := own_typed ho g (by rw [ownB]; exact e1.symm)
  rw [hg] at hc
  cases hc
end Go.Proofs.YtkehomiogkoomaaDoor.RX
