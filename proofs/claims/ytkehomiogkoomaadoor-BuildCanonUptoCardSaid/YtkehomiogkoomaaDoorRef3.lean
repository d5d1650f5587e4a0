import Derived.Test.YtkehomiogkoomaaDoorPatch
/- The laws of patches: composing is associative, a difference leads there, both ways round. Plain lists. No condition. -/

set_option linter.unusedVariables false
set_option linter.unusedSimpArgs false
namespace Go.Proofs.YtkehomiogkoomaaDoor
open Go RX

theorem get_of_mem : ∀ {xs : List At}, Ris xs → ∀ {x : At}, x ∈ xs → get xs x.1 = some x
  | y :: xs, h, x, hx => by
    rw [get_cons]
    rcases List.mem_cons.1 hx with rfl | hx
    · rw [if_pos rfl]
    · rw [if_neg (fun e => kl_ne (h.head x hx) e)]
      exact get_of_mem h.tail hx
end Go.Proofs.YtkehomiogkoomaaDoor
/- The reference's joins of patches, as the same plain functions. Plain lists, no program. No condition. -/

set_option linter.unusedVariables false
set_option linter.unusedSimpArgs false
namespace Go.Proofs.YtkehomiogkoomaaDoor
open Go RX

abbrev jn (a b : List At) : List At := comp (cmpF true) a b
theorem drop_at (xs : List At) (i : Nat) (h : i < xs.length) : xs.drop i = xs.getD i at0 :: xs.drop (i + 1) := by rw [List.drop_eq_getElem_cons h, getD_at xs i h]
theorem jnc_low {x y : At} {a b : List At} (h : kl y.1 x.1 = true) : jn (x :: a) (y :: b) = y :: jn (x :: a) b := by
  unfold jn comp
  rw [merge, if_neg (show ¬ Op.bytesLess x.1.toList y.1.toList = true from by rw [show Op.bytesLess x.1.toList y.1.toList = false from kl_asymm h]; simp), if_pos h, List.filterMap_cons_some (show cmpF true (none, some y) = some y from rfl)]
theorem jnc_x {x y : At} {a b : List At} (h : kl x.1 y.1 = true) : jn (x :: a) (y :: b) = x :: jn a (y :: b) := by
  unfold jn comp
  rw [merge, if_pos h, List.filterMap_cons_some (show cmpF true (some x, none) = some x from rfl)]
theorem jnc_xnil {x : At} {a : List At} : jn (x :: a) [] = x :: jn a [] := by
  unfold jn comp
  rw [merge, List.filterMap_cons_some (show cmpF true (some x, none) = some x from rfl)]
theorem jnc_nil {y : At} {b : List At} : jn [] (y :: b) = y :: jn [] b := by
  unfold jn comp
  rw [merge, List.filterMap_cons_some (show cmpF true (none, some y) = some y from rfl)]
theorem jnc_eq {x y : At} {a b : List At} (ha : Ris (x :: a)) (h : y.1 = x.1) : jn (x :: a) (y :: b) = jn a (y :: b) := by
  have hl : jn (x :: a) (y :: b) = y :: jn a b := by
    unfold jn comp
    rw [merge, if_neg (by rw [h, show Op.bytesLess x.1.toList x.1.toList = false from kl_irrefl _]; simp), if_neg (by rw [h, show Op.bytesLess x.1.toList x.1.toList = false from kl_irrefl _]; simp), List.filterMap_cons_some (show cmpF true (some x, some y) = some y from rfl)]
  rw [hl]
  cases a with
  | nil => rw [jnc_nil]
  | cons z a => rw [jnc_low]; rw [h]; exact ha.head z (by simp)
theorem jn_low {xs ys : List At} {i j : Nat} (hj : j < xs.length) (hi : i < ys.length) (h : kl (ys.getD i at0).1 (xs.getD j at0).1 = true) : jn (xs.drop j) (ys.drop i) = ys.getD i at0 :: jn (xs.drop j) (ys.drop (i + 1)) := by
  rw [drop_at xs j hj, drop_at ys i hi, jnc_low h]
theorem jn_eq {xs ys : List At} {i j : Nat} (hx : Ris xs) (hj : j < xs.length) (hi : i < ys.length) (h : (ys.getD i at0).1 = (xs.getD j at0).1) : jn (xs.drop j) (ys.drop i) = jn (xs.drop (j + 1)) (ys.drop i) := by
  have hr : Ris (xs.drop j) := List.Pairwise.sublist (List.drop_sublist _ _) hx
  rw [drop_at xs j hj] at hr ⊢
  rw [drop_at ys i hi, jnc_eq hr h]
theorem jn_x {xs ys : List At} {i j : Nat} (hj : j < xs.length) (h : ys.length ≤ i ∨ (kl (ys.getD i at0).1 (xs.getD j at0).1 = false ∧ ¬ (ys.getD i at0).1 = (xs.getD j at0).1)) : jn (xs.drop j) (ys.drop i) = xs.getD j at0 :: jn (xs.drop (j + 1)) (ys.drop i) := by
  rw [drop_at xs j hj]
  by_cases hi : i < ys.length
  · rw [drop_at ys i hi]
    rcases h with h | ⟨h1, h2⟩
    · omega
    · refine jnc_x ?_
      cases h3 : kl (xs.getD j at0).1 (ys.getD i at0).1 with
      | true => rfl
      | false => exact absurd (kl_tri h1 h3) h2
  · rw [List.drop_eq_nil_of_le (show ys.length ≤ i from by omega), jnc_xnil]
theorem jn_end {xs ys : List At} {i j : Nat} (hj : xs.length ≤ j) : jn (xs.drop j) (ys.drop i) = ys.drop i := by
  rw [List.drop_eq_nil_of_le hj]
  generalize ys.drop i = l
  induction l with
  | nil => simp [comp, merge]
  | cons y l ih => rw [jnc_nil, ih]
theorem jn_has {xs ys : List At} (hx : Ris xs) (hy : Ris ys) {k : Nat} (hk : k < ys.length) : (get (jn xs ys) (ys.getD k at0).1).isSome = true := by
  have h := get_of_mem hy (x := ys.getD k at0) (by rw [getD_at ys k hk]; exact List.getElem_mem hk)
  rw [comp_get (cmpF_keyed true) hx hy, h, both2_y]
  rfl
/-! ### a key's value -/
def gv (xs : List At) (k : ByteArray) : Int × Int × ByteArray := (get xs k).elim (0, 0, ByteArray.empty) (·.2)
theorem get_at {xs : List At} {k : ByteArray} : ∀ {i : Nat}, i < xs.length → (∀ j, j < i → ¬ (xs.getD j at0).1 = k) → (xs.getD i at0).1 = k → get xs k = some (xs.getD i at0) := by
  induction xs with
  | nil => intro i h; simp at h
  | cons x xs ih =>
    intro i hi h1 h2
    rw [get_cons]
    cases i with
    | zero =>
      replace h2 : x.1 = k := h2
      rw [if_pos h2]; rfl
    | succ i =>
      have h0 : ¬ x.1 = k := h1 0 (by omega)
      rw [if_neg h0, ih (i := i) (by simpa using hi) (fun j hj => h1 (j + 1) (by omega)) h2]
      rfl
theorem get_end {xs : List At} {k : ByteArray} (h : ∀ j, j < xs.length → ¬ (xs.getD j at0).1 = k) : get xs k = none := by
  unfold get
  rw [List.find?_eq_none]
  intro x hx
  obtain ⟨j, hj, e⟩ := List.getElem_of_mem hx
  have := h j hj
  rw [getD_at xs j hj, e] at this
  simpa using this
/-! ### filters -/
theorem take_map_snoc {β : Type} (f : At → Option β) {xs : List At} {i : Nat} (h : i < xs.length) : (xs.take (i + 1)).filterMap f = (xs.take i).filterMap f ++ (f (xs.getD i at0)).toList := by
  rw [List.take_succ_eq_append_getElem h, List.filterMap_append, getD_at xs i h]
  cases e : f xs[i] <;> simp [e]
def wF (x : At) : Option At := if x.2.1 = 0 then none else some x
theorem fm_congr {β γ : Type} {f g : β → Option γ} : ∀ {l : List β}, (∀ x ∈ l, f x = g x) → l.filterMap f = l.filterMap g
  | [], _ => rfl
  | x :: l, h => by rw [List.filterMap_cons, List.filterMap_cons, h x (by simp), fm_congr fun y hy => h y (by simp [hy])]
theorem whole_eq (a b : List At) : (jn a b).filterMap wF = comp (cmpF false) a b := by
  unfold jn comp
  rw [List.filterMap_filterMap]
  refine fm_congr ?_
  rintro ⟨x, y⟩ _
  cases y with
  | some y => by_cases h : y.2.1 = 0 <;> simp [cmpF, wF, isNull, h]
  | none =>
    cases x with
    | some x => by_cases h : x.2.1 = 0 <;> simp [cmpF, wF, isNull, h]
    | none => rfl
end Go.Proofs.YtkehomiogkoomaaDoor
