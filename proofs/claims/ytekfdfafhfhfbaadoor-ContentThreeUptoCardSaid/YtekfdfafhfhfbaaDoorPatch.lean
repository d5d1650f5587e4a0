/- Patches: rising lists of attributes, looked up by their keys. Plain lists, no program. No condition. -/
import Derived.Test.YtekfdfafhfhfbaaDoorMerge
import Derived.Test.YtekfdfafhfhfbaaDoorA2
import Derived.Sort.Walk0
set_option linter.unusedVariables false
set_option linter.unusedSimpArgs false
namespace Go.Proofs.YtekfdfafhfhfbaaDoor
open Go RX

abbrev kl (a b : ByteArray) : Bool := Op.bytesLess a.toList b.toList
theorem kl_iff {a b : ByteArray} : kl a b = true ↔ a.toList < b.toList := by unfold kl; rw [bytesLess_eq]; simp
theorem kl_irrefl (a : ByteArray) : kl a a = false := by
  cases h : kl a a with
  | false => rfl
  | true => exact absurd (kl_iff.1 h) (List.lt_irrefl _)
theorem kl_trans {a b c : ByteArray} (h1 : kl a b = true) (h2 : kl b c = true) : kl a c = true := kl_iff.2 (List.lt_trans (kl_iff.1 h1) (kl_iff.1 h2))
theorem kl_asymm {a b : ByteArray} (h : kl a b = true) : kl b a = false := by
  cases h2 : kl b a with
  | false => rfl
  | true => have := kl_trans h h2; rw [kl_irrefl] at this; cases this
theorem kl_tri {a b : ByteArray} (h1 : kl a b = false) (h2 : kl b a = false) : a = b := by
  refine bytes_ext (List.le_antisymm ?_ ?_)
  · exact fun h => by rw [kl_iff.2 h] at h2; cases h2
  · exact fun h => by rw [kl_iff.2 h] at h1; cases h1
theorem kl_ne {a b : ByteArray} (h : kl a b = true) : a ≠ b := fun e => by subst e; rw [kl_irrefl] at h; cases h

def Ris (xs : List At) : Prop := xs.Pairwise (fun x y => kl x.1 y.1 = true)
theorem Ris.tail {x : At} {xs : List At} (h : Ris (x :: xs)) : Ris xs := (List.pairwise_cons.1 h).2
theorem Ris.head {x : At} {xs : List At} (h : Ris (x :: xs)) : ∀ y ∈ xs, kl x.1 y.1 = true := (List.pairwise_cons.1 h).1
theorem Ris.below {x : At} {xs : List At} {k : ByteArray} (h : Ris (x :: xs)) (hk : kl k x.1 = true) : ∀ y ∈ x :: xs, kl k y.1 = true := by
  intro y hy
  rcases List.mem_cons.1 hy with rfl | hy
  · exact hk
  · exact kl_trans hk (h.head y hy)

/-! ### the kinds of steps -/
def isNull (x : At) : Bool := decide (x.2.1 = 0)
/-! ### good lists -/
def Good (nulls : Bool) (xs : List At) : Prop := (∀ x ∈ xs, pairErr x = 0 ∧ (nulls = true ∨ isNull x = false)) ∧ Ris xs
theorem getD_at (xs : List At) (i : Nat) (h : i < xs.length) : xs.getD i at0 = xs[i] := by simp [List.getD_eq_getElem?_getD, List.getElem?_eq_getElem h]
theorem chkUpto_zero (nulls : Bool) (xs : List At) : ∀ n, chkUpto nulls xs n = 0 ↔ ∀ i, i < n → attrAt nulls xs i = 0
  | 0 => ⟨fun _ i h => by omega, fun _ => rfl⟩
  | n + 1 => by
    have ih := chkUpto_zero nulls xs n
    show (if chkUpto nulls xs n ≠ 0 then chkUpto nulls xs n else attrAt nulls xs n) = 0 ↔ _
    constructor
    · intro h i hi
      by_cases h0 : chkUpto nulls xs n = 0
      · rw [if_neg (by omega)] at h
        by_cases e : i = n
        · subst e; exact h
        · exact ih.1 h0 i (by omega)
      · rw [if_pos h0] at h; exact absurd h h0
    · intro h
      rw [if_neg (by simpa using ih.2 fun i hi => h i (by omega))]
      exact h n (by omega)
theorem attrAt_zero (nulls : Bool) (xs : List At) (i : Nat) : attrAt nulls xs i = 0 ↔ pairErr (xs.getD i at0) = 0 ∧ (nulls = true ∨ isNull (xs.getD i at0) = false) ∧ (0 < i → kl (xs.getD (i - 1) at0).1 (xs.getD i at0).1 = true) := by
  unfold attrAt
  by_cases h0 : pairErr (xs.getD i at0) = 0
  · rw [if_neg (by simpa using h0)]
    by_cases h1 : (xs.getD i at0).2.1 = 0 ∧ nulls = false
    · rw [if_pos h1]
      refine ⟨fun h => by omega, fun h => ?_⟩
      rcases h.2.1 with h | h
      · rw [h1.2] at h; cases h
      · unfold isNull at h
        rw [decide_eq_false_iff_not] at h; exact absurd h1.1 h
    · rw [if_neg h1]
      have h1' : nulls = true ∨ isNull (xs.getD i at0) = false := by
        cases nulls
        · right; simpa [isNull] using h1
        · exact .inl rfl
      by_cases h2 : 0 < i ∧ (Op.bytesLess (xs.getD i at0).1.toList (xs.getD (i - 1) at0).1.toList || (xs.getD i at0).1.toList == (xs.getD (i - 1) at0).1.toList) = true
      · rw [if_pos h2]
        constructor
        · intro h; omega
        · rintro ⟨_, _, h⟩
          have h := h h2.1
          exfalso
          have h3 := h2.2
          rw [Bool.or_eq_true] at h3
          rcases h3 with h3 | h3
          · have := kl_asymm h; unfold kl at this; rw [h3] at this; cases this
          · exact kl_ne h (bytes_ext (by simpa using h3)).symm
      · rw [if_neg h2]
        refine ⟨fun _ => ⟨h0, h1', fun hi => ?_⟩, fun _ => rfl⟩
        cases h : kl (xs.getD (i - 1) at0).1 (xs.getD i at0).1 with
        | true => rfl
        | false =>
          exfalso
          refine h2 ⟨hi, ?_⟩
          rw [Bool.or_eq_true]
          cases h' : Op.bytesLess (xs.getD i at0).1.toList (xs.getD (i - 1) at0).1.toList with
          | true => exact .inl rfl
          | false => right; rw [kl_tri h' h]; simp
  · rw [if_pos h0]
    exact ⟨fun h => absurd h h0, fun h => absurd h.1 h0⟩
theorem chkA_good (nulls : Bool) (xs : List At) : chkA nulls xs = 0 ↔ Good nulls xs := by
  unfold chkA
  rw [chkUpto_zero]
  simp only [attrAt_zero]
  constructor
  · intro h
    refine ⟨fun x hx => ?_, ?_⟩
    · obtain ⟨i, hi, rfl⟩ := List.mem_iff_getElem.1 hx
      have := h i hi
      rw [getD_at xs i hi] at this
      exact ⟨this.1, this.2.1⟩
    · have key : ∀ d i, i + d + 1 < xs.length → kl (xs.getD i at0).1 (xs.getD (i + d + 1) at0).1 = true := by
        intro d
        induction d with
        | zero => intro i hi; exact (h (i + 1) hi).2.2 (by omega)
        | succ d ih => intro i hi; exact kl_trans (ih i (by omega)) ((h (i + (d + 1) + 1) hi).2.2 (by omega))
      unfold Ris
      rw [List.pairwise_iff_getElem]
      intro i j hi hj hij
      have := key (j - i - 1) i (by omega)
      rw [show i + (j - i - 1) + 1 = j from by omega, getD_at xs i hi, getD_at xs j hj] at this
      exact this
  · rintro ⟨h1, h2⟩ i hi
    have hm := h1 _ (List.getElem_mem hi)
    rw [getD_at xs i hi]
    refine ⟨hm.1, hm.2, fun h0 => ?_⟩
    unfold Ris at h2
    rw [List.pairwise_iff_getElem] at h2
    rw [getD_at xs (i - 1) (by omega)]
    exact h2 (i - 1) i (by omega) hi (by omega)
end Go.Proofs.YtekfdfafhfhfbaaDoor
