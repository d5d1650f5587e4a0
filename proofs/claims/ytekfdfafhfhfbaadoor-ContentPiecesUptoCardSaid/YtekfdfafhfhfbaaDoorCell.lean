/- Cells as elements and as arguments. No condition. -/
import Derived.Test.YtekfdfafhfhfbaaDoorOp2
set_option linter.unusedVariables false
set_option linter.unusedSimpArgs false
set_option maxRecDepth 100000
namespace Go.Proofs.YtekfdfafhfhfbaaDoor.RX
open Go Go.RowKit Go.Proofs.YtekfdfafhfhfbaaDoorW.PrintWords

structure CellA where
  rune : Int
  kind : ByteArray
  vk : Int
  vn : Int
  vt : ByteArray
  attrs : List At
def cell0 : CellA := ⟨0, ByteArray.empty, 0, 0, ByteArray.empty, []⟩
def CellA.tup (o : CellA) : Int × ByteArray × (Int × Int × ByteArray) × List At := (o.rune, o.kind, (o.vk, o.vn, o.vt), o.attrs)
def kCell : Kd CellA := Kd.comap CellA.tup (Kd.pair (Kd.int .i32) (Kd.pair Kd.string (Kd.pair (Kd.pair (Kd.int .i64) (Kd.pair (Kd.int .i64) Kd.string)) kAttrs)))
def cellV (x : CellA) (A : Option Addr) (c : Nat) : List Value := [.int .i32 x.rune, .string x.kind, .int .i64 x.vk, .int .i64 x.vn, .string x.vt, .slice A x.attrs.length c]
theorem kCell_K {w : World} {x : CellA} {cs : List Value} (h : kCell.K w x cs) : ∃ A c, cs = cellV x A c ∧ x.attrs.length ≤ c ∧ kAttr.C w A x.attrs.length x.attrs := by
  obtain ⟨_, _, rfl, rfl, _, _, rfl, rfl, _, _, rfl, ⟨_, _, rfl, rfl, _, _, rfl, rfl, rfl⟩, A, c, rfl, hl, hC⟩ := h
  exact ⟨A, c, rfl, hl, hC⟩
theorem kCell_K_of {w : World} {x : CellA} {A : Option Addr} {c : Nat} (hl : x.attrs.length ≤ c) (hC : kAttr.C w A x.attrs.length x.attrs) : kCell.K w x (cellV x A c) :=
  ⟨[.int .i32 x.rune], _, rfl, rfl, [.string x.kind], _, rfl, rfl, [.int .i64 x.vk, .int .i64 x.vn, .string x.vt], _, rfl, ⟨[.int .i64 x.vk], _, rfl, rfl, [.int .i64 x.vn], _, rfl, rfl, rfl⟩, A, c, rfl, hl, hC⟩
theorem Kd.atCell {w : World} {A : Option Addr} {n : Nat} {xs : List CellA} (h : kCell.C w A n xs) {i : Int} (h0 : 0 ≤ i) (h1 : i < n) : ∃ ad B c, A = some ad ∧ CellsAt w (ad.add (i.toNat * 6)) (cellV (xs.getD i.toNat cell0) B c) ∧ (xs.getD i.toNat cell0).attrs.length ≤ c ∧ kAttr.C w B (xs.getD i.toNat cell0).attrs.length (xs.getD i.toNat cell0).attrs := by
  obtain ⟨ad, cs, e, hK, hc⟩ := Kd.atC h cell0 h0 h1
  obtain ⟨B, c, rfl, hl, hC⟩ := kCell_K hK
  exact ⟨ad, B, c, e, hc, hl, hC⟩
theorem kCell_M {w : World} {base : Nat} {ok : Nat → Prop} {x : CellA} {B : Option Addr} {c : Nat} (h : kAttrs.M w base ok x.attrs [.slice B x.attrs.length c]) : kCell.M w base ok x (cellV x B c) :=
  ⟨[.int .i32 x.rune], _, rfl, rfl, [.string x.kind], _, rfl, rfl, [.int .i64 x.vk, .int .i64 x.vn, .string x.vt], _, rfl, ⟨[.int .i64 x.vk], _, rfl, rfl, [.int .i64 x.vn], _, rfl, rfl, rfl⟩, h⟩
theorem kCell_M0 {w : World} {base : Nat} {ok : Nat → Prop} (x : CellA) (h : x.attrs = []) : kCell.M w base ok x (cellV x none 0) := by
  obtain ⟨a, b, c, d, e, as⟩ := x
  obtain rfl : as = [] := h
  exact kCell_M kAttrs_nil
theorem repsCell0 {w : World} {base : Nat} {ok : Nat → Prop} : Reps (kCell.M w base ok) 6 [] [] := Reps.none _ _
/-- a walk over a string's scalars has moved: a row is no such walk -/
theorem Kd.R_iter {α : Type} {d : Kd α} {e : Nat} {w w1 : World} {base : Nat} {ok : Nat → Prop} {v : Value} {xs : List α} {g p : Nat} {s : ByteArray} (h : d.R e w base ok v xs) (hg : w.heap[g]? = some (.stringIter s p)) (k : w.grownBy w1 (some g)) : d.R e w1 base ok v xs := by
  have h2 := Kd.R_bound h
  refine Kd.R_mono (Kd.R_grown h2 k (fun j hj e1 => ?_)) (fun j hj => hj.1)
  obtain ⟨_, _, _, q, _, cells, hc⟩ := hj
  obtain rfl : j = g := by injection e1
  rw [hg] at hc
  cases hc
theorem Kd.iter_kept {α : Type} {d : Kd α} {e : Nat} {w w1 : World} {base : Nat} {ok : Nat → Prop} {A : Option Addr} {n c : Nat} {xs : List α} {g p : Nat} {s : ByteArray} (hg : w.heap[g]? = some (.stringIter s p)) (h : d.R e w base ok (.slice A n c) xs) (k : w.grownBy w1 (A.map (·.block))) : w1.heap[g]? = some (.stringIter s p) := by
  obtain ⟨_, _, _, _, hk⟩ := k
  refine (hk g (Array.getElem?_eq_some_iff.1 hg).1 fun e1 => ?_).trans hg
  obtain ⟨inner, ho⟩ := Kd.R_own h
  obtain ⟨cells, hc⟩ := own_typed ho g (by rw [ownB]; exact e1.symm)
  rw [hg] at hc
  cases hc
/-- three results: two cells' and a slot's -/
theorem ret_cellCCT {P : Program} {fn : Func} {N : Nat} {R : Ending → World → Prop} {l : Slots} {w : World} {c d b : Tmp} {t t' : TypeId} {p p' : Addr} {v v' u : Value} (hr : fn.results = #[.cell c t, .cell d t', .tmp b]) (hl : look l c = some (.pointer (some p))) (h : (loadVar t p).run P w = .ok v w) (hl' : look l d = some (.pointer (some p'))) (h' : (loadVar t' p').run P w = .ok v' w) (hb : look l b = some u) (hR : R (.returned (.tuple #[v, v', u])) w) : retS P fn N R .ret l w := by
  refine ⟨_, fun a ha => ?_, hR⟩
  have h3 : a.tmps.getD c undef = .pointer (some p) := by
    have := ha.at_ c _ hl
    simp [Array.getD_eq_getD_getElem?, this]
  have h3' : a.tmps.getD d undef = .pointer (some p') := by
    have := ha.at_ d _ hl'
    simp [Array.getD_eq_getD_getElem?, this]
  have h4 : a.tmps.getD b undef = u := by
    have := ha.at_ b _ hb
    simp [Array.getD_eq_getD_getElem?, this]
  unfold results
  rw [hr, Array.mapM_eq_mapM_toList]
  simp only [Sem.run_bind, Sem.run_map, Sem.run_pure, List.mapM_cons, List.mapM_nil, h3, h3', h4, asAddr, Result.andThen_ok, h, h']
  simp
theorem ret_cellCTT {P : Program} {fn : Func} {N : Nat} {R : Ending → World → Prop} {l : Slots} {w : World} {c d b : Tmp} {t : TypeId} {p : Addr} {v v' u : Value} (hr : fn.results = #[.cell c t, .tmp d, .tmp b]) (hl : look l c = some (.pointer (some p))) (h : (loadVar t p).run P w = .ok v w) (hl' : look l d = some v') (hb : look l b = some u) (hR : R (.returned (.tuple #[v, v', u])) w) : retS P fn N R .ret l w := by
  refine ⟨_, fun a ha => ?_, hR⟩
  have h3 : a.tmps.getD c undef = .pointer (some p) := by
    have := ha.at_ c _ hl
    simp [Array.getD_eq_getD_getElem?, this]
  have h3' : a.tmps.getD d undef = v' := by
    have := ha.at_ d _ hl'
    simp [Array.getD_eq_getD_getElem?, this]
  have h4 : a.tmps.getD b undef = u := by
    have := ha.at_ b _ hb
    simp [Array.getD_eq_getD_getElem?, this]
  unfold results
  rw [hr, Array.mapM_eq_mapM_toList]
  simp only [Sem.run_bind, Sem.run_map, Sem.run_pure, List.mapM_cons, List.mapM_nil, h3, h3', h4, asAddr, Result.andThen_ok, h]
  simp
end Go.Proofs.YtekfdfafhfhfbaaDoor.RX
