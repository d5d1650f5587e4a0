/- Patches: rising lists of attributes, looked up by their keys. Plain lists, no program. No condition. -/
import Derived.Test.YtkehomiogkoomaaDoorMerge
import Derived.Test.YtkehomiogkoomaaDoorA2
import Derived.Sort.Walk0
set_option linter.unusedVariables false
set_option linter.unusedSimpArgs false
namespace Go.Proofs.YtkehomiogkoomaaDoor
open Go RX

abbrev kl (a b : ByteArray) : Bool := Op.bytesLess a.toList b.toList
theorem kl_iff {a b : ByteArray} : kl a b = true ↔ a.toList < b.toList := by unfold kl; rw [bytesLess_eq]; simp
theorem kl_irrefl (a : ByteArray) : kl a a = false := by
  cases h : kl a a with
  | false => rfl
  | true => exact absurd (kl_iff.1 h) (List.lt_irrefl _)
theorem kl_trans {a b c : ByteArray} (h1 : kl a b = true) (h2 : kl b c = true) : kl a c = true := kl_iff.2 (List.lt_trans (kl_iff.1 h1) (kl_iff.1 h2))
theorem kl_asymm {a b : ByteArray} (h : kl a b = true) : kl b a = false := by
  cases h2 : kl b a with
  | false => rfl
  | true => have := kl_trans h h2; rw [kl_irrefl] at this; cases this
theorem kl_tri {a b : ByteArray} (h1 : kl a b = false) (h2 : kl b a = false) : a = b := by
  refine bytes_ext (List.le_antisymm ?_ ?_)
  · exact fun h => by rw [kl_iff.2 h] at h2; cases h2
  · exact fun h => by rw [kl_iff.2 h] at h1; cases h1
theorem kl_ne {a b : ByteArray} (h : kl a b = true) : a ≠ b := fun e => by subst e; rw [kl_irrefl] at h; cases h

def Ris (xs : List At) : Prop := xs.Pairwise (fun x y => kl x.1 y.1 = true)
def get (xs : List At) (k : ByteArray) : Option At := xs.find? (fun x => decide (x.1 = k))
theorem get_key {xs : List At} {k : ByteArray} {x : At} (h : get xs k = some x) : x.1 = k := by
  have := List.find?_some h
  simpa using this
theorem get_none {xs : List At} {k : ByteArray} (h : ∀ x ∈ xs, kl k x.1 = true) : get xs k = none := by
  unfold get
  rw [List.find?_eq_none]
  intro x hx
  have := kl_ne (h x hx)
  simpa using fun e => this e.symm
theorem get_cons (x : At) (xs : List At) (k : ByteArray) : get (x :: xs) k = if x.1 = k then some x else get xs k := by
  unfold get
  rw [List.find?_cons]
  by_cases h : x.1 = k <;> simp [h]
theorem Ris.tail {x : At} {xs : List At} (h : Ris (x :: xs)) : Ris xs := (List.pairwise_cons.1 h).2
theorem Ris.head {x : At} {xs : List At} (h : Ris (x :: xs)) : ∀ y ∈ xs, kl x.1 y.1 = true := (List.pairwise_cons.1 h).1
theorem Ris.below {x : At} {xs : List At} {k : ByteArray} (h : Ris (x :: xs)) (hk : kl k x.1 = true) : ∀ y ∈ x :: xs, kl k y.1 = true := by
  intro y hy
  rcases List.mem_cons.1 hy with rfl | hy
  · exact hk
  · exact kl_trans hk (h.head y hy)

/-! ### merging -/
theorem merge_all (Q : Option At × Option At → Prop) (a b : List At) : (∀ x ∈ a, Q (some x, none)) → (∀ y ∈ b, Q (none, some y)) → (∀ x ∈ a, ∀ y ∈ b, x.1 = y.1 → Q (some x, some y)) → ∀ s ∈ merge a b, Q s := by
  induction a, b using merge.induct with
  | case1 => intro _ _ _ s hs; simp [merge] at hs
  | case2 x a ih =>
    intro h1 h2 h3 s hs
    rw [merge, List.mem_cons] at hs
    rcases hs with rfl | hs
    · exact h1 x (by simp)
    · exact ih (fun z hz => h1 z (by simp [hz])) h2 (fun z hz => by simp) s hs
  | case3 y b ih =>
    intro h1 h2 h3 s hs
    rw [merge, List.mem_cons] at hs
    rcases hs with rfl | hs
    · exact h2 y (by simp)
    · exact ih h1 (fun z hz => h2 z (by simp [hz])) (fun z hz => by simp at hz) s hs
  | case4 x a y b hl ih =>
    intro h1 h2 h3 s hs
    rw [merge, if_pos hl, List.mem_cons] at hs
    rcases hs with rfl | hs
    · exact h1 x (by simp)
    · exact ih (fun z hz => h1 z (by simp [hz])) h2 (fun z hz u hu => h3 z (by simp [hz]) u hu) s hs
  | case5 x a y b hl hl2 ih =>
    intro h1 h2 h3 s hs
    rw [merge, if_neg hl, if_pos hl2, List.mem_cons] at hs
    rcases hs with rfl | hs
    · exact h2 y (by simp)
    · exact ih h1 (fun z hz => h2 z (by simp [hz])) (fun z hz u hu => h3 z hz u (by simp [hu])) s hs
  | case6 x a y b hl hl2 ih =>
    intro h1 h2 h3 s hs
    rw [merge, if_neg hl, if_neg hl2, List.mem_cons] at hs
    rcases hs with rfl | hs
    · exact h3 x (by simp) y (by simp) (kl_tri (by simpa using hl) (by simpa using hl2))
    · exact ih (fun z hz => h1 z (by simp [hz])) (fun z hz => h2 z (by simp [hz])) (fun z hz u hu => h3 z (by simp [hz]) u (by simp [hu])) s hs

theorem merge_above {a b : List At} {k : ByteArray} (ha : ∀ x ∈ a, kl k x.1 = true) (hb : ∀ y ∈ b, kl k y.1 = true) : ∀ s ∈ merge a b, kl k (stepKey s) = true :=
  merge_all _ a b (fun x hx => ha x hx) (fun y hy => hb y hy) (fun x hx y hy _ => ha x hx)
/-- what is found of a key in a list of steps -/
def find (m : List (Option At × Option At)) (k : ByteArray) : Option (Option At × Option At) := m.find? (fun s => decide (stepKey s = k))
theorem find_cons (s : Option At × Option At) (m : List (Option At × Option At)) (k : ByteArray) : find (s :: m) k = if stepKey s = k then some s else find m k := by
  unfold find
  rw [List.find?_cons]
  by_cases h : stepKey s = k <;> simp [h]
theorem find_none {m : List (Option At × Option At)} {k : ByteArray} (h : ∀ s ∈ m, kl k (stepKey s) = true) : find m k = none := by
  unfold find
  rw [List.find?_eq_none]
  intro x hx
  have := kl_ne (h x hx)
  simpa using fun e => this e.symm
def both2 : Option At → Option At → Option (Option At × Option At)
  | none, none => none
  | x, y => some (x, y)
theorem both2_x (x : At) (y : Option At) : both2 (some x) y = some (some x, y) := by cases y <;> rfl
theorem both2_y (x : Option At) (y : At) : both2 x (some y) = some (x, some y) := by cases x <;> rfl

theorem merge_find (a b : List At) : Ris a → Ris b → (merge a b).Pairwise (fun s t => kl (stepKey s) (stepKey t) = true) ∧ ∀ k, find (merge a b) k = both2 (get a k) (get b k) := by
  induction a, b using merge.induct with
  | case1 => intro _ _; exact ⟨by simp [merge], fun k => by simp [merge, find, get, both2]⟩
  | case2 x a ih =>
    intro ha hb
    obtain ⟨h1, h2⟩ := ih ha.tail hb
    rw [merge]
    have hab := merge_above (k := x.1) (b := []) ha.head (by simp)
    refine ⟨List.pairwise_cons.2 ⟨hab, h1⟩, fun k => ?_⟩
    rw [find_cons, h2, get_cons]
    show (if x.1 = k then _ else _) = _
    by_cases e : x.1 = k
    · rw [if_pos e, if_pos e, both2_x]; rfl
    · rw [if_neg e, if_neg e]
  | case3 y b ih =>
    intro ha hb
    obtain ⟨h1, h2⟩ := ih ha hb.tail
    rw [merge]
    have hab := merge_above (k := y.1) (a := []) (by simp) hb.head
    refine ⟨List.pairwise_cons.2 ⟨hab, h1⟩, fun k => ?_⟩
    rw [find_cons, h2, get_cons]
    show (if y.1 = k then _ else _) = _
    by_cases e : y.1 = k
    · rw [if_pos e, if_pos e, both2_y]; rfl
    · rw [if_neg e, if_neg e]
  | case4 x a y b hl ih =>
    intro ha hb
    obtain ⟨h1, h2⟩ := ih ha.tail hb
    rw [merge, if_pos hl]
    have hbl := hb.below hl
    have hab := merge_above (k := x.1) ha.head hbl
    refine ⟨List.pairwise_cons.2 ⟨hab, h1⟩, fun k => ?_⟩
    rw [find_cons, h2, get_cons x]
    show (if x.1 = k then _ else _) = _
    by_cases e : x.1 = k
    · rw [if_pos e, if_pos e, both2_x]
      subst e
      rw [get_none hbl]
    · rw [if_neg e, if_neg e]
  | case5 x a y b hl hl2 ih =>
    intro ha hb
    obtain ⟨h1, h2⟩ := ih ha hb.tail
    rw [merge, if_neg hl, if_pos hl2]
    have hal := ha.below hl2
    have hab := merge_above (k := y.1) hal hb.head
    refine ⟨List.pairwise_cons.2 ⟨hab, h1⟩, fun k => ?_⟩
    rw [find_cons, h2, get_cons y]
    show (if y.1 = k then _ else _) = _
    by_cases e : y.1 = k
    · rw [if_pos e, if_pos e, both2_y]
      subst e
      rw [get_none hal]
    · rw [if_neg e, if_neg e]
  | case6 x a y b hl hl2 ih =>
    intro ha hb
    obtain ⟨h1, h2⟩ := ih ha.tail hb.tail
    rw [merge, if_neg hl, if_neg hl2]
    have exy : x.1 = y.1 := kl_tri (by simpa using hl) (by simpa using hl2)
    have hab := merge_above (k := x.1) ha.head (by rw [exy]; exact hb.head)
    refine ⟨List.pairwise_cons.2 ⟨hab, h1⟩, fun k => ?_⟩
    rw [find_cons, h2, get_cons x, get_cons y]
    show (if x.1 = k then _ else _) = _
    by_cases e : x.1 = k
    · rw [if_pos e, if_pos e, if_pos (exy ▸ e), both2_x]
    · rw [if_neg e, if_neg e, if_neg (exy ▸ e)]

/-- a step's answer bears the step's key -/
def Keyed (f : Option At × Option At → Option At) : Prop := ∀ x y z, ((∀ u v, x = some u → y = some v → u.1 = v.1) → f (x, y) = some z → z.1 = stepKey (x, y))
def comp (f : Option At × Option At → Option At) (a b : List At) : List At := (merge a b).filterMap f
theorem filter_get {f : Option At × Option At → Option At} : ∀ {m : List (Option At × Option At)}, (∀ s ∈ m, ∀ z, f s = some z → z.1 = stepKey s) → m.Pairwise (fun s t => kl (stepKey s) (stepKey t) = true) →
    Ris (m.filterMap f) ∧ (∀ z ∈ m.filterMap f, ∃ s ∈ m, stepKey s = z.1) ∧ ∀ k, get (m.filterMap f) k = (find m k).bind f
  | [], _, _ => ⟨by simp [Ris], by simp, fun k => by simp [get, find]⟩
  | s :: m, hf, h => by
    obtain ⟨h1, h2⟩ := List.pairwise_cons.1 h
    obtain ⟨i1, i2, i3⟩ := filter_get (fun t ht => hf t (by simp [ht])) h2
    cases e : f s with
    | none =>
      rw [List.filterMap_cons_none e]
      refine ⟨i1, fun z hz => ?_, fun k => ?_⟩
      · obtain ⟨t, ht, et⟩ := i2 z hz
        exact ⟨t, by simp [ht], et⟩
      · rw [i3, find_cons]
        by_cases ek : stepKey s = k
        · subst ek
          rw [if_pos rfl, find_none h1]
          simp [e]
        · rw [if_neg ek]
    | some z =>
      rw [List.filterMap_cons_some e]
      have hz := hf s (by simp) z e
      refine ⟨List.pairwise_cons.2 ⟨fun u hu => ?_, i1⟩, fun u hu => ?_, fun k => ?_⟩
      · obtain ⟨t, ht, et⟩ := i2 u hu
        rw [hz, ← et]
        exact h1 t ht
      · rcases List.mem_cons.1 hu with rfl | hu
        · exact ⟨s, by simp, hz.symm⟩
        · obtain ⟨t, ht, et⟩ := i2 u hu
          exact ⟨t, by simp [ht], et⟩
      · rw [get_cons, i3, find_cons, hz]
        by_cases ek : stepKey s = k
        · rw [if_pos ek, if_pos ek]; simp [e]
        · rw [if_neg ek, if_neg ek]
theorem keyed_all {f : Option At × Option At → Option At} (hf : Keyed f) (a b : List At) : ∀ s ∈ merge a b, ∀ z, f s = some z → z.1 = stepKey s :=
  merge_all _ a b (fun x _ z hz => hf _ _ z (by simp) hz) (fun y _ z hz => hf _ _ z (by simp) hz) (fun x _ y _ e z hz => hf _ _ z (by rintro u v ⟨⟩ ⟨⟩; exact e) hz)
theorem comp_ris {f : Option At × Option At → Option At} (hf : Keyed f) {a b : List At} (ha : Ris a) (hb : Ris b) : Ris (comp f a b) := (filter_get (keyed_all hf a b) (merge_find a b ha hb).1).1
theorem comp_get {f : Option At × Option At → Option At} (hf : Keyed f) {a b : List At} (ha : Ris a) (hb : Ris b) (k : ByteArray) : get (comp f a b) k = (both2 (get a k) (get b k)).bind f := by
  unfold comp
  rw [(filter_get (keyed_all hf a b) (merge_find a b ha hb).1).2.2, (merge_find a b ha hb).2]
theorem comp_mem {f : Option At × Option At → Option At} (Q : At → Prop) (a b : List At) (h1 : ∀ x ∈ a, ∀ z, f (some x, none) = some z → Q z) (h2 : ∀ y ∈ b, ∀ z, f (none, some y) = some z → Q z) (h3 : ∀ x ∈ a, ∀ y ∈ b, ∀ z, f (some x, some y) = some z → Q z) : ∀ z ∈ comp f a b, Q z := by
  intro z hz
  obtain ⟨s, hs, e⟩ := List.mem_filterMap.1 hz
  exact merge_all (fun s => ∀ z, f s = some z → Q z) a b h1 h2 (fun x hx y hy _ => h3 x hx y hy) s hs z e
theorem comp_le (f : Option At × Option At → Option At) (a b : List At) : (comp f a b).length ≤ a.length + b.length := by
  refine Nat.le_trans (List.length_filterMap_le _ _) ?_
  induction a, b using merge.induct with
  | case1 => simp [merge]
  | case2 x a ih => rw [merge]; simp only [List.length_cons, List.length_nil] at ih ⊢; omega
  | case3 y b ih => rw [merge]; simp only [List.length_cons, List.length_nil] at ih ⊢; omega
  | case4 x a y b hl ih => rw [merge, if_pos hl]; simp only [List.length_cons] at ih ⊢; omega
  | case5 x a y b hl hl2 ih => rw [merge, if_neg hl, if_pos hl2]; simp only [List.length_cons] at ih ⊢; omega
  | case6 x a y b hl hl2 ih => rw [merge, if_neg hl, if_neg hl2]; simp only [List.length_cons] at ih ⊢; omega

/-! ### the kinds of steps -/
def isNull (x : At) : Bool := decide (x.2.1 = 0)
def cmpF (nulls : Bool) : Option At × Option At → Option At
  | (_, some y) => if nulls = true ∨ isNull y = false then some y else none
  | (some x, none) => if nulls = true ∨ isNull x = false then some x else none
  | (none, none) => none
def btwF : Option At × Option At → Option At
  | (some x, none) => some (x.1, 0, 0, ⟨#[]⟩)
  | (none, some y) => some y
  | (some x, some y) => if x.2 = y.2 then none else some y
  | (none, none) => none
def trnF (first : Bool) : Option At × Option At → Option At
  | (none, y) => y
  | (some x, y) => if first then none else y
theorem cmpF_keyed (n : Bool) : Keyed (cmpF n) := by
  rintro (_ | x) (_ | y) z h e
  · simp [cmpF] at e
  · simp only [cmpF] at e; split at e <;> simp_all [stepKey]
  · simp only [cmpF] at e; split at e <;> simp_all [stepKey]
  · simp only [cmpF] at e; have := h x y rfl rfl; split at e <;> simp_all [stepKey]
theorem trnF_keyed (f : Bool) : Keyed (trnF f) := by
  rintro (_ | x) (_ | y) z h e
  · simp [trnF] at e
  · simp only [trnF] at e; simp_all [stepKey]
  · simp only [trnF] at e; split at e <;> simp_all [stepKey]
  · simp only [trnF] at e; have := h x y rfl rfl; split at e <;> simp_all [stepKey]

/-! ### good lists -/
def Good (nulls : Bool) (xs : List At) : Prop := (∀ x ∈ xs, pairErr x = 0 ∧ (nulls = true ∨ isNull x = false)) ∧ Ris xs
theorem getD_at (xs : List At) (i : Nat) (h : i < xs.length) : xs.getD i at0 = xs[i] := by simp [List.getD_eq_getElem?_getD, List.getElem?_eq_getElem h]
theorem chkUpto_zero (nulls : Bool) (xs : List At) : ∀ n, chkUpto nulls xs n = 0 ↔ ∀ i, i < n → attrAt nulls xs i = 0
  | 0 => ⟨fun _ i h => by omega, fun _ => rfl⟩
  | n + 1 => by
    have ih := chkUpto_zero nulls xs n
    show (if chkUpto nulls xs n ≠ 0 then chkUpto nulls xs n else attrAt nulls xs n) = 0 ↔ _
    constructor
    · intro h i hi
      by_cases h0 : chkUpto nulls xs n = 0
      · rw [if_neg (by omega)] at h
        by_cases e : i = n
        · subst e; exact h
        · exact ih.1 h0 i (by omega)
      · rw [if_pos h0] at h; exact absurd h h0
    · intro h
      rw [if_neg (by simpa using ih.2 fun i hi => h i (by omega))]
      exact h n (by omega)
theorem attrAt_zero (nulls : Bool) (xs : List At) (i : Nat) : attrAt nulls xs i = 0 ↔ pairErr (xs.getD i at0) = 0 ∧ (nulls = true ∨ isNull (xs.getD i at0) = false) ∧ (0 < i → kl (xs.getD (i - 1) at0).1 (xs.getD i at0).1 = true) := by
  unfold attrAt
  by_cases h0 : pairErr (xs.getD i at0) = 0
  · rw [if_neg (by simpa using h0)]
    by_cases h1 : (xs.getD i at0).2.1 = 0 ∧ nulls = false
    · rw [if_pos h1]
      refine ⟨fun h => by omega, fun h => ?_⟩
      rcases h.2.1 with h | h
      · rw [h1.2] at h; cases h
      · unfold isNull at h
        rw [decide_eq_false_iff_not] at h; exact absurd h1.1 h
    · rw [if_neg h1]
      have h1' : nulls = true ∨ isNull (xs.getD i at0) = false := by
        cases nulls
        · right; simpa [isNull] using h1
        · exact .inl rfl
      by_cases h2 : 0 < i ∧ (Op.bytesLess (xs.getD i at0).1.toList (xs.getD (i - 1) at0).1.toList || (xs.getD i at0).1.toList == (xs.getD (i - 1) at0).1.toList) = true
      · rw [if_pos h2]
        constructor
        · intro h; omega
        · rintro ⟨_, _, h⟩
          have h := h h2.1
          exfalso
          have h3 := h2.2
          rw [Bool.or_eq_true] at h3
          rcases h3 with h3 | h3
          · have := kl_asymm h; unfold kl at this; rw [h3] at this; cases this
          · exact kl_ne h (bytes_ext (by simpa using h3)).symm
      · rw [if_neg h2]
        refine ⟨fun _ => ⟨h0, h1', fun hi => ?_⟩, fun _ => rfl⟩
        cases h : kl (xs.getD (i - 1) at0).1 (xs.getD i at0).1 with
        | true => rfl
        | false =>
          exfalso
          refine h2 ⟨hi, ?_⟩
          rw [Bool.or_eq_true]
          cases h' : Op.bytesLess (xs.getD i at0).1.toList (xs.getD (i - 1) at0).1.toList with
          | true => exact .inl rfl
          | false => right; rw [kl_tri h' h]; simp
  · rw [if_pos h0]
    exact ⟨fun h => absurd h h0, fun h => absurd h.1 h0⟩
theorem chkA_good (nulls : Bool) (xs : List At) : chkA nulls xs = 0 ↔ Good nulls xs := by
  unfold chkA
  rw [chkUpto_zero]
  simp only [attrAt_zero]
  constructor
  · intro h
    refine ⟨fun x hx => ?_, ?_⟩
    · obtain ⟨i, hi, rfl⟩ := List.mem_iff_getElem.1 hx
      have := h i hi
      rw [getD_at xs i hi] at this
      exact ⟨this.1, this.2.1⟩
    · have key : ∀ d i, i + d + 1 < xs.length → kl (xs.getD i at0).1 (xs.getD (i + d + 1) at0).1 = true := by
        intro d
        induction d with
        | zero => intro i hi; exact (h (i + 1) hi).2.2 (by omega)
        | succ d ih => intro i hi; exact kl_trans (ih i (by omega)) ((h (i + (d + 1) + 1) hi).2.2 (by omega))
      unfold Ris
      rw [List.pairwise_iff_getElem]
      intro i j hi hj hij
      have := key (j - i - 1) i (by omega)
      rw [show i + (j - i - 1) + 1 = j from by omega, getD_at xs i hi, getD_at xs j hj] at this
      exact this
  · rintro ⟨h1, h2⟩ i hi
    have hm := h1 _ (List.getElem_mem hi)
    rw [getD_at xs i hi]
    refine ⟨hm.1, hm.2, fun h0 => ?_⟩
    unfold Ris at h2
    rw [List.pairwise_iff_getElem] at h2
    rw [getD_at xs (i - 1) (by omega)]
    exact h2 (i - 1) i (by omega) hi (by omega)
theorem good_sz {nulls : Bool} {xs : List At} (h : Good nulls xs) : ∀ i, i < xs.length → (xs.getD i at0).1.size ≤ 9223372036854775807 ∧ (xs.getD i at0).2.2.2.size ≤ 9223372036854775807 := by
  intro i hi
  rw [getD_at xs i hi]
  have := (h.1 _ (List.getElem_mem hi)).1
  unfold pairErr plainErr at this
  refine ⟨?_, ?_⟩
  · split at this <;> omega
  · split at this
    · omega
    · split at this
      · omega
      · split at this
        · omega
        · split at this
          · omega
          · split at this <;> omega
theorem good_cmp (n : Bool) {na nb : Bool} {a b : List At} (ha : Good na a) (hb : Good nb b) : Good n (comp (cmpF n) a b) := by
  refine ⟨comp_mem _ a b ?_ ?_ ?_, comp_ris (cmpF_keyed n) ha.2 hb.2⟩
  · intro x hx z hz; simp only [cmpF] at hz; split at hz <;> simp_all; subst hz; exact (ha.1 _ hx).1
  · intro x hx z hz; simp only [cmpF] at hz; split at hz <;> simp_all; subst hz; exact (hb.1 _ hx).1
  · intro w hw x hx z hz; simp only [cmpF] at hz; split at hz <;> simp_all; subst hz; exact (hb.1 _ hx).1
end Go.Proofs.YtkehomiogkoomaaDoor
