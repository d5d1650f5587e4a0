/- Iterators: what they go over as a list; marks; what lies below a bound stays. No condition. -/
import Derived.Test.YtkehomiogkoomaaDoorIn
set_option linter.unusedVariables false
set_option linter.unusedSimpArgs false
namespace Go.Proofs.YtkehomiogkoomaaDoor
open Go Go.RowKit Go.Proofs.YtkehomiogkoomaaDoorW.PrintWords RX
namespace RX
theorem Fr.mark {N : Nat} {l : Slots} {a : Act} (h0 : lookS l dk = none) (h : Fr N l a) : Fr N ((dk, encD []) :: l) a :=
  ⟨h.size, h.lt, by
    have e1 := h.defers
    have e2 : dsOf l = [] := by unfold dsOf; rw [h0]
    have e3 : dsOf ((dk, encD []) :: l) = [] := by unfold dsOf; rw [lookS_eq]; rfl
    rw [e1, e2, e3], fun i v hv => by
    obtain ⟨hi, hv⟩ := look_some hv
    rw [lookS_ne hi] at hv
    exact h.at_ i v (by rw [look_of hi]; exact hv)⟩
theorem dsOf_enc {l : Slots} {ds : List Nat} (h : lookS l dk = some (encD ds)) : dsOf l = ds.map mkD := by unfold dsOf; rw [h]; exact decD_enc ds
theorem X_mark0 {P : Program} {N : Nat} {c : Code} {qs : QS} {l : Slots} {w : World} (h0 : lookS l dk = none) (h : X P N c qs ((dk, encD []) :: l) w) : X P N c qs l w := fun a ha => h a (ha.mark h0)
end RX
theorem bel_lo {n : Nat} {a b : World} (h : Below a.heap.size a b) (hn : n ≤ a.heap.size) : Below n a b := ⟨h.os, h.tape, h.output, h.size, fun k hk => h.block k (Nat.lt_of_lt_of_le hk hn)⟩
theorem bel_st {n g : Nat} {a b : World} (h : a.grownBy b (some g)) (hn : n ≤ a.heap.size) (hg : n ≤ g) : Below n a b := ⟨h.os, h.tape, h.output, h.size, fun k hk => h.block k (Nat.lt_of_lt_of_le hk hn) (fun e => by injection e with e; omega)⟩
theorem bel_lo2 {n m : Nat} {a b : World} (h : Below n a b) (hn : m ≤ n) : Below m a b := ⟨h.os, h.tape, h.output, h.size, fun k hk => h.block k (Nat.lt_of_lt_of_le hk hn)⟩
theorem bel_blk {n g t : Nat} {a b : World} {cs : Array Value} (h : Below n a b) (hg : g < n) (hb : RX.Blk a g t cs) : RX.Blk b g t cs := (h.block g hg).trans hb
/-- J abides a world that has grown -/
theorem abides_below {β : Type} {B : Nat} {J : β → World → Prop} (h : AbidesFrom B J) {s : β} {W W' : World} (hb : Below W.heap.size W W') (hj : J s W) : J s W' := h s W W' none hj (grown_of_below hb none) (fun r e => by cases e)
/-- f 0, f 1, .. -/
def seqP {α : Type} (m : Nat) (f : Nat → α) : List α := (List.range m).map f
section
variable {α : Type} {m : Nat} {f : Nat → α} {pre : List α} {x : α}
theorem seq_len : (seqP m f).length = m := by simp [seqP]
theorem seq_zero : seqP 0 f = [] := rfl
theorem seq_succ : seqP (m + 1) f = seqP m f ++ [f m] := by simp [seqP, List.range_succ]
theorem seq_right (h : pre = seqP pre.length f) (hx : x = f pre.length) : pre ++ [x] = seqP (pre ++ [x]).length f := by
  rw [List.length_append, List.length_singleton, seq_succ, ← h, hx]
theorem seq_last (h : pre = seqP pre.length f) (h2 : pre ++ [x] = seqP (pre ++ [x]).length f) : x = f pre.length := by
  rw [List.length_append, List.length_singleton, seq_succ] at h2
  have := (List.append_inj' h2 rfl).2
  simpa using this
theorem seq_wrong (h : pre = seqP pre.length f) (hx : ¬ (pre.length < m ∧ x = f pre.length)) : ¬ (pre ++ [x] = seqP (pre ++ [x]).length f ∧ (pre ++ [x]).length ≤ m) := fun ⟨h1, h2⟩ =>
  hx ⟨by rw [List.length_append, List.length_singleton] at h2; omega, seq_last h h1⟩
theorem seq_getD (d : α) {i : Nat} (h : i < m) : (seqP m f).getD i d = f i := by
  unfold seqP
  rw [List.getD_eq_getElem?_getD, List.getElem?_map, List.getElem?_range h]; rfl
end
end Go.Proofs.YtkehomiogkoomaaDoor
