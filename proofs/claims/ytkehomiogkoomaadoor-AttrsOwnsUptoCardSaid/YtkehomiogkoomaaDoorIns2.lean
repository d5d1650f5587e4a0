/- Cells moved within a block, and into a new one: rules and lists. No condition. -/
import Derived.Test.YtkehomiogkoomaaDoorPut
set_option linter.unusedVariables false
set_option linter.unusedSimpArgs false
namespace Go.Proofs.YtkehomiogkoomaaDoor
open Go Go.RowKit Go.Proofs.YtkehomiogkoomaaDoorW.PrintWords RX
theorem runs_slice_lB {P : Program} {l : Slots} {t e ty : TypeId} {sz : Nat} {x lo : Operand} {g n c : Nat} {k : IntKind} {v : Int} {i : Nat} {w : World} (ht : RX.elemOf P t = some e) (hs : sizeP P e = some sz) (hx : ev l x = some (.slice (some ⟨g, 0, none⟩) n c)) (hh : ev l lo = some (.int k v)) (he : v = (i : Int)) (h1 : i ≤ n) (h2 : n ≤ c) (h3 : i < c) :
    RunsAs P l (.slice t x (some lo) none none) ty (.slice (some ⟨g, i * sz, none⟩) (n - i) (c - i)) w := by
  subst he
  have h := runs_slice_l (P := P) (ty := ty) (w := w) ht hs hx hh (by omega) (by omega) h2
  rw [show ((i : Nat) : Int).toNat = i from rfl, if_neg (by omega)] at h
  have ha : (⟨g, 0, none⟩ : Addr).add (i * sz) = ⟨g, i * sz, none⟩ := by unfold Addr.add; split <;> simp_all
  rw [Option.map_some, ha] at h
  exact h
theorem runs_slice_hN {P : Program} {l : Slots} {t e ty : TypeId} {sz : Nat} {x hi : Operand} {A : Option Addr} {n c : Nat} {k : IntKind} {v : Int} {i : Nat} {w : World} (ht : RX.elemOf P t = some e) (hs : sizeP P e = some sz) (hx : ev l x = some (.slice A n c)) (hh : ev l hi = some (.int k v)) (he : v = (i : Int)) (h1 : i ≤ c) :
    RunsAs P l (.slice t x none (some hi) none) ty (.slice A i c) w := by
  subst he
  exact runs_slice_h (h := (i : Int)) ht hs hx hh (by omega) (by omega)
theorem splice_size (a : Array Value) (o : Nat) (D : List Value) (h : o + D.length ≤ a.size) : (a.toList.take o ++ D ++ a.toList.drop (o + D.length)).toArray.size = a.size := by
  rw [List.size_toArray, List.length_append, List.length_append, List.length_take, List.length_drop, Array.length_toList]
  omega
theorem grown_past {a b c : World} {r : Option Nat} {g : Nat} (h1 : a.grownBy b r) (h2 : b.grownBy c (some g)) (hg : a.heap.size ≤ g) : a.grownBy c r :=
  ⟨h2.os.trans h1.os, h2.tape.trans h1.tape, h2.output.trans h1.output, Nat.le_trans h1.size h2.size, fun k hk hne => (h2.block k (Nat.lt_of_lt_of_le hk h1.size) (fun e => by injection e with e; omega)).trans (h1.block k hk hne)⟩
theorem insB {L c1 c2 D R : List Value} {i n : Nat} {xs : List At} {x : At} (hn : xs.length = n) (hi : i < n) (hL : (i + 1) * 4 ≤ L.length) (hci : L.take (i * 4) = (xs.take i).flatMap atV) (hD : D = (xs.drop i).flatMap atV) (h1 : L.take ((i + 1) * 4) ++ D ++ R = c1) (h2 : c1.take (i * 4) ++ atV x ++ c1.drop (i * 4 + (atV x).length) = c2) : c2.take ((n + 1) * 4) = (xs.take i ++ x :: xs.drop i).flatMap atV := by
  have ht : (L.take ((i + 1) * 4)).length = i * 4 + (atV x).length := by rw [List.length_take]; show _ = i * 4 + 4; omega
  have e1 : c1.drop (i * 4 + (atV x).length) = D ++ R := by rw [← h1, List.append_assoc, ← ht, List.drop_left]
  have e2 : c1.take (i * 4) = L.take (i * 4) := by
    rw [← h1, List.append_assoc, List.take_append_of_le_length (by rw [ht]; omega), List.take_take, Nat.min_eq_left (by omega)]
  refine ins_list (L := R) (F := L) (n := n) hn (by omega) hci ?_
  rw [← h2, e1, e2, hD]
  simp only [List.append_assoc]
theorem insC {L c0 c1 c2 D R1 R2 : List Value} {i n : Nat} {xs : List At} {x : At} (hn : xs.length = n) (hi : i < n) (hL : i * 4 ≤ L.length) (hci : L.take (i * 4) = (xs.take i).flatMap atV) (h0 : c0.take (i * 4) = L.take (i * 4)) (hD : D = (xs.drop i).flatMap atV) (h1 : c0.take (i * 4) ++ atV x ++ R1 = c1) (h2 : c1.take ((i + 1) * 4) ++ D ++ R2 = c2) : c2.take ((n + 1) * 4) = (xs.take i ++ x :: xs.drop i).flatMap atV := by
  have ht : (c0.take (i * 4) ++ atV x).length = (i + 1) * 4 := by rw [h0, List.length_append, List.length_take]; show _ + 4 = _; omega
  have e1 : c1.take ((i + 1) * 4) = c0.take (i * 4) ++ atV x := by rw [← h1, ← ht, List.take_left]
  refine ins_list (L := R2) (F := L) (n := n) hn (by omega) hci ?_
  rw [← h2, e1, h0, hD]
end Go.Proofs.YtkehomiogkoomaaDoor
