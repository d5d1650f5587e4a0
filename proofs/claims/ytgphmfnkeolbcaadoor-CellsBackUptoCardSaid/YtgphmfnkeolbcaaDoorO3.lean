import Derived.Test.YtgphmfnkeolbcaaDoorUtf3
import Derived.Test.YtgphmfnkeolbcaaDoorAt
import Derived.Test.YtgphmfnkeolbcaaDoorA2
import Derived.Sort.Walk0
import Derived.Test.YtgphmfnkeolbcaaDoorO2
import Derived.Test.YtgphmfnkeolbcaaDoorB1
import Derived.Test.YtgphmfnkeolbcaaDoorAn2
import Derived.Test.YtgphmfnkeolbcaaDoorMk
/- UTF-8, plainly: what the reference's ways answer, by a text's scalars. Plain, no program. No condition. -/

set_option linter.unusedVariables false
set_option linter.unusedSimpArgs false
set_option maxRecDepth 100000
namespace Go.Proofs.YtgphmfnkeolbcaaDoor.U
open Go Go.Lib

/-- how many bytes a first byte tells -/
def nOf (b : Nat) : Nat := if 240 ≤ b then 4 else if 224 ≤ b then 3 else if 192 ≤ b then 2 else 1
def r0Of (b : Nat) : Int := if 240 ≤ b then (b : Int) - 240 else if 224 ≤ b then (b : Int) - 224 else if 192 ≤ b then (b : Int) - 192 else (b : Int)
def acc (l : List UInt8) : Nat → Int
  | 0 => r0Of (g l 0)
  | k + 1 => acc l k * 64 + ((g l (k + 1) % 64 : Nat) : Int)
set_option maxHeartbeats 2000000 in
theorem acc_enc {r : Nat} (hv : vr r) (t : List UInt8) : nOf (g (enc r ++ t) 0) = (enc r).length ∧ acc (enc r ++ t) ((enc r).length - 1) = (r : Int) := by
  have hv' := hv
  unfold vr at hv'
  by_cases h1 : r < 128
  · rw [enc_1 h1]
    have e0 : g ([UInt8.ofNat r] ++ t) 0 = r := by simp only [g, List.cons_append, List.getD_cons_zero, UInt8.toNat_ofNat']; omega
    rw [e0]
    refine ⟨by unfold nOf; rw [if_neg (by omega), if_neg (by omega), if_neg (by omega)]; rfl, ?_⟩
    show r0Of (g ([UInt8.ofNat r] ++ t) 0) = _
    rw [e0]; unfold r0Of; rw [if_neg (by omega), if_neg (by omega), if_neg (by omega)]
  · by_cases h2 : r < 2048
    · rw [enc_2 (by omega) h2]
      generalize hl : [UInt8.ofNat (192 + r / 64), UInt8.ofNat (128 + r % 64)] ++ t = l
      have e0 : g l 0 = 192 + r / 64 := by rw [← hl]; simp only [g, List.cons_append, List.getD_cons_zero, UInt8.toNat_ofNat']; omega
      have e1 : g l 1 = 128 + r % 64 := by rw [← hl]; simp only [g, List.cons_append, List.getD_cons_zero, List.getD_cons_succ, UInt8.toNat_ofNat']; omega
      refine ⟨by rw [e0]; unfold nOf; rw [if_neg (by omega), if_neg (by omega), if_pos (by omega)]; rfl, ?_⟩
      show r0Of (g l 0) * 64 + ((g l 1 % 64 : Nat) : Int) = _
      rw [e0, e1]; unfold r0Of; rw [if_neg (by omega), if_neg (by omega), if_pos (by omega)]; omega
    · by_cases h3 : r < 65536
      · rw [enc_3 hv (by omega) h3]
        generalize hl : [UInt8.ofNat (224 + r / 4096), UInt8.ofNat (128 + r / 64 % 64), UInt8.ofNat (128 + r % 64)] ++ t = l
        have e0 : g l 0 = 224 + r / 4096 := by rw [← hl]; simp only [g, List.cons_append, List.getD_cons_zero, UInt8.toNat_ofNat']; omega
        have e1 : g l 1 = 128 + r / 64 % 64 := by rw [← hl]; simp only [g, List.cons_append, List.getD_cons_zero, List.getD_cons_succ, UInt8.toNat_ofNat']; omega
        have e2 : g l 2 = 128 + r % 64 := by rw [← hl]; simp only [g, List.cons_append, List.getD_cons_zero, List.getD_cons_succ, UInt8.toNat_ofNat']; omega
        refine ⟨by rw [e0]; unfold nOf; rw [if_neg (by omega), if_pos (by omega)]; rfl, ?_⟩
        show (r0Of (g l 0) * 64 + ((g l 1 % 64 : Nat) : Int)) * 64 + ((g l 2 % 64 : Nat) : Int) = _
        rw [e0, e1, e2]; unfold r0Of; rw [if_neg (by omega), if_pos (by omega)]; omega
      · rw [enc_4 hv (by omega)]
        generalize hl : [UInt8.ofNat (240 + r / 262144), UInt8.ofNat (128 + r / 4096 % 64), UInt8.ofNat (128 + r / 64 % 64), UInt8.ofNat (128 + r % 64)] ++ t = l
        have e0 : g l 0 = 240 + r / 262144 := by rw [← hl]; simp only [g, List.cons_append, List.getD_cons_zero, UInt8.toNat_ofNat']; omega
        have e1 : g l 1 = 128 + r / 4096 % 64 := by rw [← hl]; simp only [g, List.cons_append, List.getD_cons_zero, List.getD_cons_succ, UInt8.toNat_ofNat']; omega
        have e2 : g l 2 = 128 + r / 64 % 64 := by rw [← hl]; simp only [g, List.cons_append, List.getD_cons_zero, List.getD_cons_succ, UInt8.toNat_ofNat']; omega
        have e3 : g l 3 = 128 + r % 64 := by rw [← hl]; simp only [g, List.cons_append, List.getD_cons_zero, List.getD_cons_succ, UInt8.toNat_ofNat']; omega
        refine ⟨by rw [e0]; unfold nOf; rw [if_pos (by omega)]; rfl, ?_⟩
        show ((r0Of (g l 0) * 64 + ((g l 1 % 64 : Nat) : Int)) * 64 + ((g l 2 % 64 : Nat) : Int)) * 64 + ((g l 3 % 64 : Nat) : Int) = _
        rw [e0, e1, e2, e3]; unfold r0Of; rw [if_pos (by omega)]; omega

theorem first_none {l : List UInt8} {rs : List Nat} {t : List UInt8} (h : Brk l rs t) (n : Nat) (hn : n = nOf (g l 0)) (r : Int) (hr : r = acc l (n - 1)) (hno : ¬ (n ≤ l.length ∧ vz r ∧ enc r.toNat = l.take n)) : headP rs = (0, 0) := by
  match rs, h with
  | [], h => rfl
  | r' :: rs, h =>
    exfalso
    refine hno ?_
    have hv' := h.ok r' (by simp)
    have e := h.eq
    rw [flat_cons, List.append_assoc] at e
    obtain ⟨h1, h2⟩ := acc_enc hv' (flat rs ++ t)
    rw [← e] at h1 h2
    have hnn : n = (enc r').length := hn.trans h1
    rw [hnn, h2] at hr
    subst hr
    refine ⟨?_, ⟨by omega, by rw [Int.toNat_natCast]; exact hv'⟩, ?_⟩
    · rw [hnn, e, List.length_append]; omega
    · rw [Int.toNat_natCast, hnn, e, List.take_left]
noncomputable def scz (s : ByteArray) : List Int := (sc s).map fun (r : Nat) => (r : Int)
end Go.Proofs.YtgphmfnkeolbcaaDoor.U
/- Two rising lists of attributes gone through key by key. Plain lists. (under way) -/

set_option linter.unusedVariables false
set_option linter.unusedSimpArgs false
namespace Go.Proofs.YtgphmfnkeolbcaaDoor
open Go RX

/-- the steps: what each list has of a key -/
def merge : List At → List At → List (Option At × Option At)
  | [], [] => []
  | x :: a, [] => (some x, none) :: merge a []
  | [], y :: b => (none, some y) :: merge [] b
  | x :: a, y :: b => if Op.bytesLess x.1.toList y.1.toList then (some x, none) :: merge a (y :: b) else if Op.bytesLess y.1.toList x.1.toList then (none, some y) :: merge (x :: a) b else (some x, some y) :: merge a b
  termination_by a b => a.length + b.length
end Go.Proofs.YtgphmfnkeolbcaaDoor
/- Patches: rising lists of attributes, looked up by their keys. Plain lists, no program. No condition. -/
set_option linter.unusedVariables false
set_option linter.unusedSimpArgs false
namespace Go.Proofs.YtgphmfnkeolbcaaDoor
open Go RX

abbrev kl (a b : ByteArray) : Bool := Op.bytesLess a.toList b.toList
theorem kl_iff {a b : ByteArray} : kl a b = true ↔ a.toList < b.toList := by unfold kl; rw [bytesLess_eq]; simp
theorem kl_irrefl (a : ByteArray) : kl a a = false := by
  cases h : kl a a with
  | false => rfl
  | true => exact absurd (kl_iff.1 h) (List.lt_irrefl _)
theorem kl_trans {a b c : ByteArray} (h1 : kl a b = true) (h2 : kl b c = true) : kl a c = true := kl_iff.2 (List.lt_trans (kl_iff.1 h1) (kl_iff.1 h2))
theorem kl_asymm {a b : ByteArray} (h : kl a b = true) : kl b a = false := by
  cases h2 : kl b a with
  | false => rfl
  | true => have := kl_trans h h2; rw [kl_irrefl] at this; cases this
theorem kl_tri {a b : ByteArray} (h1 : kl a b = false) (h2 : kl b a = false) : a = b := by
  refine bytes_ext (List.le_antisymm ?_ ?_)
  · exact fun h => by rw [kl_iff.2 h] at h2; cases h2
  · exact fun h => by rw [kl_iff.2 h] at h1; cases h1
theorem kl_ne {a b : ByteArray} (h : kl a b = true) : a ≠ b := fun e => by subst e; rw [kl_irrefl] at h; cases h

def Ris (xs : List At) : Prop := xs.Pairwise (fun x y => kl x.1 y.1 = true)
theorem Ris.tail {x : At} {xs : List At} (h : Ris (x :: xs)) : Ris xs := (List.pairwise_cons.1 h).2
theorem Ris.head {x : At} {xs : List At} (h : Ris (x :: xs)) : ∀ y ∈ xs, kl x.1 y.1 = true := (List.pairwise_cons.1 h).1
theorem Ris.below {x : At} {xs : List At} {k : ByteArray} (h : Ris (x :: xs)) (hk : kl k x.1 = true) : ∀ y ∈ x :: xs, kl k y.1 = true := by
  intro y hy
  rcases List.mem_cons.1 hy with rfl | hy
  · exact hk
  · exact kl_trans hk (h.head y hy)

def comp (f : Option At × Option At → Option At) (a b : List At) : List At := (merge a b).filterMap f
/-! ### the kinds of steps -/
def isNull (x : At) : Bool := decide (x.2.1 = 0)
def cmpF (nulls : Bool) : Option At × Option At → Option At
  | (_, some y) => if nulls = true ∨ isNull y = false then some y else none
  | (some x, none) => if nulls = true ∨ isNull x = false then some x else none
  | (none, none) => none
/-! ### good lists -/
def Good (nulls : Bool) (xs : List At) : Prop := (∀ x ∈ xs, pairErr x = 0 ∧ (nulls = true ∨ isNull x = false)) ∧ Ris xs
theorem getD_at (xs : List At) (i : Nat) (h : i < xs.length) : xs.getD i at0 = xs[i] := by simp [List.getD_eq_getElem?_getD, List.getElem?_eq_getElem h]
theorem chkUpto_zero (nulls : Bool) (xs : List At) : ∀ n, chkUpto nulls xs n = 0 ↔ ∀ i, i < n → attrAt nulls xs i = 0
  | 0 => ⟨fun _ i h => by omega, fun _ => rfl⟩
  | n + 1 => by
    have ih := chkUpto_zero nulls xs n
    show (if chkUpto nulls xs n ≠ 0 then chkUpto nulls xs n else attrAt nulls xs n) = 0 ↔ _
    constructor
    · intro h i hi
      by_cases h0 : chkUpto nulls xs n = 0
      · rw [if_neg (by omega)] at h
        by_cases e : i = n
        · subst e; exact h
        · exact ih.1 h0 i (by omega)
      · rw [if_pos h0] at h; exact absurd h h0
    · intro h
      rw [if_neg (by simpa using ih.2 fun i hi => h i (by omega))]
      exact h n (by omega)
theorem attrAt_zero (nulls : Bool) (xs : List At) (i : Nat) : attrAt nulls xs i = 0 ↔ pairErr (xs.getD i at0) = 0 ∧ (nulls = true ∨ isNull (xs.getD i at0) = false) ∧ (0 < i → kl (xs.getD (i - 1) at0).1 (xs.getD i at0).1 = true) := by
  unfold attrAt
  by_cases h0 : pairErr (xs.getD i at0) = 0
  · rw [if_neg (by simpa using h0)]
    by_cases h1 : (xs.getD i at0).2.1 = 0 ∧ nulls = false
    · rw [if_pos h1]
      refine ⟨fun h => by omega, fun h => ?_⟩
      rcases h.2.1 with h | h
      · rw [h1.2] at h; cases h
      · unfold isNull at h
        rw [decide_eq_false_iff_not] at h; exact absurd h1.1 h
    · rw [if_neg h1]
      have h1' : nulls = true ∨ isNull (xs.getD i at0) = false := by
        cases nulls
        · right; simpa [isNull] using h1
        · exact .inl rfl
      by_cases h2 : 0 < i ∧ (Op.bytesLess (xs.getD i at0).1.toList (xs.getD (i - 1) at0).1.toList || (xs.getD i at0).1.toList == (xs.getD (i - 1) at0).1.toList) = true
      · rw [if_pos h2]
        constructor
        · intro h; omega
        · rintro ⟨_, _, h⟩
          have h := h h2.1
          exfalso
          have h3 := h2.2
          rw [Bool.or_eq_true] at h3
          rcases h3 with h3 | h3
          · have := kl_asymm h; unfold kl at this; rw [h3] at this; cases this
          · exact kl_ne h (bytes_ext (by simpa using h3)).symm
      · rw [if_neg h2]
        refine ⟨fun _ => ⟨h0, h1', fun hi => ?_⟩, fun _ => rfl⟩
        cases h : kl (xs.getD (i - 1) at0).1 (xs.getD i at0).1 with
        | true => rfl
        | false =>
          exfalso
          refine h2 ⟨hi, ?_⟩
          rw [Bool.or_eq_true]
          cases h' : Op.bytesLess (xs.getD i at0).1.toList (xs.getD (i - 1) at0).1.toList with
          | true => exact .inl rfl
          | false => right; rw [kl_tri h' h]; simp
  · rw [if_pos h0]
    exact ⟨fun h => absurd h h0, fun h => absurd h.1 h0⟩
theorem chkA_good (nulls : Bool) (xs : List At) : chkA nulls xs = 0 ↔ Good nulls xs := by
  unfold chkA
  rw [chkUpto_zero]
  simp only [attrAt_zero]
  constructor
  · intro h
    refine ⟨fun x hx => ?_, ?_⟩
    · obtain ⟨i, hi, rfl⟩ := List.mem_iff_getElem.1 hx
      have := h i hi
      rw [getD_at xs i hi] at this
      exact ⟨this.1, this.2.1⟩
    · have key : ∀ d i, i + d + 1 < xs.length → kl (xs.getD i at0).1 (xs.getD (i + d + 1) at0).1 = true := by
        intro d
        induction d with
        | zero => intro i hi; exact (h (i + 1) hi).2.2 (by omega)
        | succ d ih => intro i hi; exact kl_trans (ih i (by omega)) ((h (i + (d + 1) + 1) hi).2.2 (by omega))
      unfold Ris
      rw [List.pairwise_iff_getElem]
      intro i j hi hj hij
      have := key (j - i - 1) i (by omega)
      rw [show i + (j - i - 1) + 1 = j from by omega, getD_at xs i hi, getD_at xs j hj] at this
      exact this
  · rintro ⟨h1, h2⟩ i hi
    have hm := h1 _ (List.getElem_mem hi)
    rw [getD_at xs i hi]
    refine ⟨hm.1, hm.2, fun h0 => ?_⟩
    unfold Ris at h2
    rw [List.pairwise_iff_getElem] at h2
    rw [getD_at xs (i - 1) (by omega)]
    exact h2 (i - 1) i (by omega) hi (by omega)
end Go.Proofs.YtgphmfnkeolbcaaDoor
/- What the references of layers content and ops answer: what the program answers. Conditions: sizes, the tables of utf8. -/
set_option linter.unusedVariables false
set_option linter.unusedSimpArgs false
set_option maxRecDepth 100000
namespace Go.Proofs.YtgphmfnkeolbcaaDoor
open Go Go.RowKit Go.Proofs.YtgphmfnkeolbcaaDoorW.PrintWords RX
theorem opSz.b {o : OpA} (h : opSz o) : o.text.size ≤ 100000000 ∧ o.vt.size ≤ 100000000 := by have h1 := h.1; have h2 := h.2.1; omega
end Go.Proofs.YtgphmfnkeolbcaaDoor
