import Derived.Test.YtkehomiogkoomaaDoorSpare
import Derived.Test.YtkehomiogkoomaaDoorKd
import Derived.Laws.Strings
import Derived.Laws.Strings3
import Derived.Laws.DeepStrings4
import Derived.Laws.BytesArg
import Derived.Laws.Cover4
import Derived.Laws.IdiomStrings
import Derived.Lib.OthersKept
import Derived.Laws.RangeString
import Derived.Laws.Entries
import Derived.Laws.Concat
/- Rows of elements with memory of their own: read with their memory, written, joined, copied; what a step over two blocks leaves. No condition. -/

set_option linter.unusedVariables false
set_option linter.unusedSimpArgs false
namespace Go.Proofs.YtkehomiogkoomaaDoor.RX
open Go Go.RowKit Go.Proofs.YtkehomiogkoomaaDoorW.PrintWords

theorem Kd.R_raw2 {α : Type} {d : Kd α} (z : α) {e : Nat} {w : World} {base : Nat} {ok : Nat → Prop} {A : Option Addr} {n c : Nat} {xs : List α} (h : d.R e w base ok (.slice A n c) xs) : ∃ vs, (kRaw d.sz).R e w base ok (.slice A n c) vs ∧ vs.length = xs.length ∧ ∀ i, i < xs.length → d.M w base (fun k => ok k ∧ some k ≠ A.map (·.block)) (xs.getD i z) (vs.getD i []) := by
  obtain ⟨h0, inner, ho, hr⟩ := h
  have hd : ∀ i, i < xs.length → d.M w base (fun k => ok k ∧ some k ≠ A.map (·.block)) (xs.getD i z) ((inner.drop (i * d.sz)).take d.sz) := by
    intro i hi
    have := hr.2 i _ (List.getElem?_eq_getElem hi)
    rw [List.getD_eq_getElem?_getD, List.getElem?_eq_getElem hi]
    rw [ownB] at this
    exact this
  have hg : ∀ i, i < xs.length → ((List.range xs.length).map fun i => (inner.drop (i * d.sz)).take d.sz).getD i [] = (inner.drop (i * d.sz)).take d.sz := by
    intro i hi
    rw [List.getD_eq_getElem?_getD, List.getElem?_map, List.getElem?_range hi]; rfl
  refine ⟨(List.range xs.length).map fun i => (inner.drop (i * d.sz)).take d.sz, ⟨h0, inner, by rw [List.length_map, List.length_range]; exact ho, ?_, fun j p hj => ?_⟩, by simp, fun i hi => ?_⟩
  · rw [List.length_map, List.length_range]; exact hr.1
  · have hj1 := (List.getElem?_eq_some_iff.1 hj).1
    rw [List.length_map, List.length_range] at hj1
    rw [List.getElem?_map, List.getElem?_range hj1] at hj
    injection hj with hj
    subst hj
    have hM := hd j hj1
    exact ⟨rfl, d.K_len (d.K_of_M hM), d.K_one (d.K_of_M hM)⟩
  · rw [hg i hi]; exact hd i hi
/-- an element with its memory -/
theorem Kd.R_at {α : Type} {d : Kd α} (z : α) {e : Nat} {w : World} {base : Nat} {ok : Nat → Prop} {A : Option Addr} {n c : Nat} {xs : List α} (h : d.R e w base ok (.slice A n c) xs) {i : Int} (h0 : 0 ≤ i) (h1 : i < n) : ∃ ad cs, A = some ad ∧ d.M w base (fun k => ok k ∧ some k ≠ A.map (·.block)) (xs.getD i.toNat z) cs ∧ CellsAt w (ad.add (i.toNat * d.sz)) cs := by
  obtain ⟨vs, hR, hl, hM⟩ := Kd.R_raw2 z h
  obtain ⟨ad, cc, hA, hK, hc⟩ := Kd.atC (Kd.R_C hR) [] h0 h1
  have hn := (Kd.R_len hR).1
  refine ⟨ad, cc, hA, ?_, hc⟩
  rw [show cc = vs.getD i.toNat [] from hK.1]
  exact hM _ (by omega)
section
variable {P : Program} {N : Nat} {ops : Array Oper} {qs : QS} {rest : List Oper} {o : Oper} {l : Slots} {α : Type}
end

/-! ### a step over two blocks -/
structure Two (g : Nat) (r : Option Nat) (w w' : World) : Prop where
  os : w'.os = w.os
  tape : w'.tape = w.tape
  output : w'.output = w.output
  size : w.heap.size ≤ w'.heap.size
  block : ∀ k, k < w.heap.size → k ≠ g → r ≠ some k → w'.heap[k]? = w.heap[k]?
theorem Two.refl (g : Nat) (r : Option Nat) (w : World) : Two g r w w := ⟨rfl, rfl, rfl, Nat.le_refl _, fun _ _ _ _ => rfl⟩
theorem Two.below {g : Nat} {r : Option Nat} {a b c : World} (h : Two g r a b) (k : Below b.heap.size b c) : Two g r a c :=
  ⟨k.os.trans h.os, k.tape.trans h.tape, k.output.trans h.output, Nat.le_trans h.size k.size, fun x hx h1 h2 => (k.block x (Nat.lt_of_lt_of_le hx h.size)).trans (h.block x hx h1 h2)⟩
theorem Two.grown {g : Nat} {r s : Option Nat} {a b c : World} (h : Two g r a b) (k : b.grownBy c s) (hs : ∀ x, s = some x → x = g ∨ r = some x ∨ a.heap.size ≤ x) : Two g r a c :=
  ⟨k.os.trans h.os, k.tape.trans h.tape, k.output.trans h.output, Nat.le_trans h.size k.size, fun x hx h1 h2 => (k.block x (Nat.lt_of_lt_of_le hx h.size) (fun e => by
    rcases hs x e.symm with h3 | h3 | h3
    · exact h1 h3
    · exact h2 h3
    · omega)).trans (h.block x hx h1 h2)⟩
theorem Two.store {g : Nat} {r : Option Nat} {a b c : World} (h : Two g r a b) (k : b.grownBy c (some g)) : Two g r a c := h.grown k fun x e => .inl (by injection e with e; exact e.symm)
theorem Two.row {g : Nat} {r : Option Nat} {a b c : World} (h : Two g r a b) {A : Option Addr} (k : b.grownBy c (A.map (·.block))) (hA : A.map (·.block) = r ∨ ∃ b, A.map (·.block) = some b ∧ a.heap.size ≤ b) : Two g r a c := h.grown k fun x e => by
  rcases hA with h1 | ⟨b, h1, h2⟩
  · exact .inr (.inl (by rw [← h1, e]))
  · rw [h1] at e; injection e with e; subst e; exact .inr (.inr h2)
theorem Two.trans {g : Nat} {r s : Option Nat} {a b c : World} (h : Two g r a b) (k : Two g s b c) (hs : s = r ∨ ∃ x, s = some x ∧ a.heap.size ≤ x) : Two g r a c :=
  ⟨k.os.trans h.os, k.tape.trans h.tape, k.output.trans h.output, Nat.le_trans h.size k.size, fun x hx h1 h2 => (k.block x (Nat.lt_of_lt_of_le hx h.size) h1 (fun e => by
    rcases hs with h3 | ⟨y, h3, h4⟩
    · exact h2 (h3 ▸ e)
    · rw [h3] at e; injection e with e; omega)).trans (h.block x hx h1 h2)⟩
end Go.Proofs.YtkehomiogkoomaaDoor.RX
/- Strings: an index, a cut, conversions, going over one. No condition. -/
set_option linter.unusedVariables false
set_option linter.unusedSimpArgs false
namespace Go.Proofs.YtkehomiogkoomaaDoor.RX
open Go Go.RowKit Go.Proofs.YtkehomiogkoomaaDoorW.PrintWords

theorem wr_i32 {x : Int} (h1 : -2147483648 ≤ x) (h2 : x ≤ 2147483647) : Value.int .i32 (IntKind.i32.wrap x) = .int .i32 x := by rw [IntWalk.i32_in x ⟨h1, h2⟩]
theorem wr_u8 {x : Int} (h1 : 0 ≤ x) (h2 : x ≤ 255) : Value.int .u8 (IntKind.u8.wrap x) = .int .u8 x := by rw [IntWalk.u8_in x ⟨h1, h2⟩]
theorem wr_u64 {x : Int} (h1 : 0 ≤ x) (h2 : x ≤ 18446744073709551615) : Value.int .u64 (IntKind.u64.wrap x) = .int .u64 x := by rw [IntWalk.u64_in x ⟨h1, h2⟩]

section
variable {P : Program} {l : Slots} {t ty : TypeId} {x lo hi y : Operand} {s : ByteArray} {k k' : IntKind} {w : World}
theorem runs_slice_slh {i j : Int} (ht : P.underlying t = some .string) (hx : ev l x = some (.string s)) (hl : ev l lo = some (.int k i)) (hh : ev l hi = some (.int k' j)) (h0 : 0 ≤ i) (h1 : i ≤ j) (h2 : j ≤ s.size) :
    RunsAs P l (.slice t x (some lo) (some hi) none) ty (.string (s.extract i.toNat j.toNat)) w := by
  intro o ho _
  have e1 : evD l x = .string s := by rw [evD, hx]; rfl
  have e2 : evD l hi = .int k' j := by rw [evD, hh]; rfl
  have e3 : evD l lo = .int k i := by rw [evD, hl]; rfl
  unfold execOp
  simp only [ho, e1, e2, e3, Option.map_none, Option.map_some, Sem.run_bind]
  rw [run_sliceAt_string _ _ _ _ _ _ ht, run_slice_string_if _ _ _ _ _ _ _ ht, if_pos ⟨by omega, h2⟩, if_pos ⟨h0, h1⟩]
  simp
theorem runs_index_s {i : Int} (ht : P.underlying t = some .string) (hx : ev l x = some (.string s)) (hy : ev l y = some (.int k i)) (h0 : 0 ≤ i) (h1 : i < s.size) :
    RunsAs P l (.index t x y) ty (.int .u8 ((s.data.toList.getD i.toNat 0).toNat : Int)) w := by
  refine runs_index hx hy ?_
  rw [run_index_string _ _ _ _ _ ht, dif_pos ⟨h0, h1⟩]
  have hlt : i.toNat < s.data.toList.length := by rw [Array.length_toList]; have : s.data.size = s.size := rfl; omega
  rw [List.getD_eq_getElem?_getD, List.getElem?_eq_getElem hlt]
  rfl
theorem runs_conv {src dst : TypeId} {v v' : Value} (hx : ev l x = some v) (h : (convert src dst v).run P w = .ok v' w) : RunsAs P l (.convert src dst x) ty v' w := by
  intro o ho _
  have e1 : evD l x = v := by rw [evD, hx]; rfl
  unfold execOp
  simp only [ho, e1, Sem.run_bind, Sem.run_pure, Result.andThen_ok, h]
end
theorem add_plain (g j : Nat) : (⟨g, 0, none⟩ : Addr).add j = ⟨g, j, none⟩ := by unfold Addr.add; split <;> simp_all
/-- string(bs), bs any row of bytes -/
theorem conv_bytesC {P : Program} {w : World} {src dst e n c : Nat} {A : Option Addr} {base : Nat} {ok : Nat → Prop} (xs : List Int) (hs : P.underlying src = some (.slice e)) (he : P.underlying e = some (.int .u8)) (hd : P.underlying dst = some .string)
    (h : (Kd.int .u8).R e w base ok (.slice A n c) xs) : (convert src dst (.slice A n c)).run P w = .ok (.string (strOfNums xs)) w := by
  obtain ⟨hn, _⟩ := Kd.R_len h
  have hC := Kd.R_C h
  cases A with
  | none =>
    obtain ⟨_, _, _⟩ := hC
    obtain ⟨inner, ho⟩ := Kd.R_own h
    rcases ho.2 with ⟨he', h0⟩ | ⟨g, cap, cur, he', _⟩
    · injection he' with _ h1 h2
      subst h1; subst h2
      have : xs = [] := List.length_eq_zero_iff.1 hn.symm
      subst this
      rw [run_convert_bytes_nil w src e hs he 0 0 dst hd]; rfl
    · cases he'
  | some ad =>
    obtain ⟨inner, ho⟩ := Kd.R_own h
    rcases ho.2 with ⟨he', h0⟩ | ⟨g, cap, cur, he', _, hh, _⟩
    · cases he'
    · injection he' with h1 h2 h3
      injection h1 with h1
      subst h1
      refine run_convert_bytes_arg w src e hs he g 0 n c xs hn.symm (fun i hi => ?_) dst hd
      obtain ⟨ad', e1, hc⟩ := Kd.atI hC (i := (i : Int)) (by omega) (by omega)
      injection e1 with e1
      subst e1
      have := hc 0 _ rfl
      simp only [Int.toNat_natCast, Nat.mul_one] at this
      rw [add_plain] at this
      rw [Nat.zero_add]
      have e2 : (⟨g, i, none⟩ : Addr).add 0 = ⟨g, i, none⟩ := rfl
      rw [e2] at this
      rw [this]
      simp [rd]
section
variable {P : Program} {N : Nat} {ops : Array Oper} {qs : QS} {rest : List Oper} {o : Oper} {l : Slots} {w : World}
end
end Go.Proofs.YtkehomiogkoomaaDoor.RX
