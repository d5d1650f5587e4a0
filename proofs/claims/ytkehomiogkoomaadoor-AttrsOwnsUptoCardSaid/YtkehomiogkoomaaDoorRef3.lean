import Derived.Test.YtkehomiogkoomaaDoorIn
import Derived.Test.YtkehomiogkoomaaDoorHand
import Derived.Test.YtkehomiogkoomaaDoorR1
import Derived.Test.YtkehomiogkoomaaDoorStr
/- Iterators: what they go over as a list; marks; what lies below a bound stays. No condition. -/

set_option linter.unusedVariables false
set_option linter.unusedSimpArgs false
namespace Go.Proofs.YtkehomiogkoomaaDoor
open Go Go.RowKit Go.Proofs.YtkehomiogkoomaaDoorW.PrintWords RX
namespace RX
theorem Fr.mark {N : Nat} {l : Slots} {a : Act} (h0 : lookS l dk = none) (h : Fr N l a) : Fr N ((dk, encD []) :: l) a :=
  ⟨h.size, h.lt, by
    have e1 := h.defers
    have e2 : dsOf l = [] := by unfold dsOf; rw [h0]
    have e3 : dsOf ((dk, encD []) :: l) = [] := by unfold dsOf; rw [lookS_eq]; rfl
    rw [e1, e2, e3], fun i v hv => by
    obtain ⟨hi, hv⟩ := look_some hv
    rw [lookS_ne hi] at hv
    exact h.at_ i v (by rw [look_of hi]; exact hv)⟩
theorem dsOf_enc {l : Slots} {ds : List Nat} (h : lookS l dk = some (encD ds)) : dsOf l = ds.map mkD := by unfold dsOf; rw [h]; exact decD_enc ds
theorem X_mark0 {P : Program} {N : Nat} {c : Code} {qs : QS} {l : Slots} {w : World} (h0 : lookS l dk = none) (h : X P N c qs ((dk, encD []) :: l) w) : X P N c qs l w := fun a ha => h a (ha.mark h0)
end RX
theorem bel_lo {n : Nat} {a b : World} (h : Below a.heap.size a b) (hn : n ≤ a.heap.size) : Below n a b := ⟨h.os, h.tape, h.output, h.size, fun k hk => h.block k (Nat.lt_of_lt_of_le hk hn)⟩
theorem bel_st {n g : Nat} {a b : World} (h : a.grownBy b (some g)) (hn : n ≤ a.heap.size) (hg : n ≤ g) : Below n a b := ⟨h.os, h.tape, h.output, h.size, fun k hk => h.block k (Nat.lt_of_lt_of_le hk hn) (fun e => by injection e with e; omega)⟩
/-- J abides a world that has grown -/
theorem abides_below {β : Type} {B : Nat} {J : β → World → Prop} (h : AbidesFrom B J) {s : β} {W W' : World} (hb : Below W.heap.size W W') (hj : J s W) : J s W' := h s W W' none hj (grown_of_below hb none) (fun r e => by cases e)
section
variable {α : Type} {m : Nat} {f : Nat → α} {pre : List α} {x : α}
end
end Go.Proofs.YtkehomiogkoomaaDoor
/- The reference of layer build: single operations, lengths. Conditions: sizes, the tables of utf8, the errors' variables. -/
set_option linter.unusedVariables false
set_option linter.unusedSimpArgs false
set_option maxRecDepth 100000
namespace Go.Proofs.YtkehomiogkoomaaDoor
open Go Go.RowKit Go.Proofs.YtkehomiogkoomaaDoorW.PrintWords RX
def insO (o : OpA) : Prop := o.kind = 1 ∨ o.kind = 2
instance (o : OpA) : Decidable (insO o) := by unfold insO; exact inferInstance
end Go.Proofs.YtkehomiogkoomaaDoor
/- The reference's joins of patches, as the same plain functions. Plain lists, no program. No condition. -/

set_option linter.unusedVariables false
set_option linter.unusedSimpArgs false
namespace Go.Proofs.YtkehomiogkoomaaDoor
open Go RX

abbrev jn (a b : List At) : List At := comp (cmpF true) a b
theorem drop_at (xs : List At) (i : Nat) (h : i < xs.length) : xs.drop i = xs.getD i at0 :: xs.drop (i + 1) := by rw [List.drop_eq_getElem_cons h, getD_at xs i h]
theorem jnc_low {x y : At} {a b : List At} (h : kl y.1 x.1 = true) : jn (x :: a) (y :: b) = y :: jn (x :: a) b := by
  unfold jn comp
  rw [merge, if_neg (show ¬ Op.bytesLess x.1.toList y.1.toList = true from by rw [show Op.bytesLess x.1.toList y.1.toList = false from kl_asymm h]; simp), if_pos h, List.filterMap_cons_some (show cmpF true (none, some y) = some y from rfl)]
theorem jnc_x {x y : At} {a b : List At} (h : kl x.1 y.1 = true) : jn (x :: a) (y :: b) = x :: jn a (y :: b) := by
  unfold jn comp
  rw [merge, if_pos h, List.filterMap_cons_some (show cmpF true (some x, none) = some x from rfl)]
theorem jnc_xnil {x : At} {a : List At} : jn (x :: a) [] = x :: jn a [] := by
  unfold jn comp
  rw [merge, List.filterMap_cons_some (show cmpF true (some x, none) = some x from rfl)]
theorem jnc_nil {y : At} {b : List At} : jn [] (y :: b) = y :: jn [] b := by
  unfold jn comp
  rw [merge, List.filterMap_cons_some (show cmpF true (none, some y) = some y from rfl)]
theorem jnc_eq {x y : At} {a b : List At} (ha : Ris (x :: a)) (h : y.1 = x.1) : jn (x :: a) (y :: b) = jn a (y :: b) := by
  have hl : jn (x :: a) (y :: b) = y :: jn a b := by
    unfold jn comp
    rw [merge, if_neg (by rw [h, show Op.bytesLess x.1.toList x.1.toList = false from kl_irrefl _]; simp), if_neg (by rw [h, show Op.bytesLess x.1.toList x.1.toList = false from kl_irrefl _]; simp), List.filterMap_cons_some (show cmpF true (some x, some y) = some y from rfl)]
  rw [hl]
  cases a with
  | nil => rw [jnc_nil]
  | cons z a => rw [jnc_low]; rw [h]; exact ha.head z (by simp)
theorem jn_low {xs ys : List At} {i j : Nat} (hj : j < xs.length) (hi : i < ys.length) (h : kl (ys.getD i at0).1 (xs.getD j at0).1 = true) : jn (xs.drop j) (ys.drop i) = ys.getD i at0 :: jn (xs.drop j) (ys.drop (i + 1)) := by
  rw [drop_at xs j hj, drop_at ys i hi, jnc_low h]
theorem jn_eq {xs ys : List At} {i j : Nat} (hx : Ris xs) (hj : j < xs.length) (hi : i < ys.length) (h : (ys.getD i at0).1 = (xs.getD j at0).1) : jn (xs.drop j) (ys.drop i) = jn (xs.drop (j + 1)) (ys.drop i) := by
  have hr : Ris (xs.drop j) := List.Pairwise.sublist (List.drop_sublist _ _) hx
  rw [drop_at xs j hj] at hr ⊢
  rw [drop_at ys i hi, jnc_eq hr h]
theorem jn_x {xs ys : List At} {i j : Nat} (hj : j < xs.length) (h : ys.length ≤ i ∨ (kl (ys.getD i at0).1 (xs.getD j at0).1 = false ∧ ¬ (ys.getD i at0).1 = (xs.getD j at0).1)) : jn (xs.drop j) (ys.drop i) = xs.getD j at0 :: jn (xs.drop (j + 1)) (ys.drop i) := by
  rw [drop_at xs j hj]
  by_cases hi : i < ys.length
  · rw [drop_at ys i hi]
    rcases h with h | ⟨h1, h2⟩
    · omega
    · refine jnc_x ?_
      cases h3 : kl (xs.getD j at0).1 (ys.getD i at0).1 with
      | true => rfl
      | false => exact absurd (kl_tri h1 h3) h2
  · rw [List.drop_eq_nil_of_le (show ys.length ≤ i from by omega), jnc_xnil]
theorem jn_end {xs ys : List At} {i j : Nat} (hj : xs.length ≤ j) : jn (xs.drop j) (ys.drop i) = ys.drop i := by
  rw [List.drop_eq_nil_of_le hj]
  generalize ys.drop i = l
  induction l with
  | nil => simp [comp, merge]
  | cons y l ih => rw [jnc_nil, ih]
theorem jn_has {xs ys : List At} (hx : Ris xs) (hy : Ris ys) {k : Nat} (hk : k < ys.length) : (get (jn xs ys) (ys.getD k at0).1).isSome = true := by
  have h := get_of_mem hy (x := ys.getD k at0) (by rw [getD_at ys k hk]; exact List.getElem_mem hk)
  rw [comp_get (cmpF_keyed true) hx hy, h, both2_y]
  rfl
/-! ### a key's value -/
def gv (xs : List At) (k : ByteArray) : Int × Int × ByteArray := (get xs k).elim (0, 0, ByteArray.empty) (·.2)
theorem get_at {xs : List At} {k : ByteArray} : ∀ {i : Nat}, i < xs.length → (∀ j, j < i → ¬ (xs.getD j at0).1 = k) → (xs.getD i at0).1 = k → get xs k = some (xs.getD i at0) := by
  induction xs with
  | nil => intro i h; simp at h
  | cons x xs ih =>
    intro i hi h1 h2
    rw [get_cons]
    cases i with
    | zero =>
      replace h2 : x.1 = k := h2
      rw [if_pos h2]; rfl
    | succ i =>
      have h0 : ¬ x.1 = k := h1 0 (by omega)
      rw [if_neg h0, ih (i := i) (by simpa using hi) (fun j hj => h1 (j + 1) (by omega)) h2]
      rfl
theorem get_end {xs : List At} {k : ByteArray} (h : ∀ j, j < xs.length → ¬ (xs.getD j at0).1 = k) : get xs k = none := by
  unfold get
  rw [List.find?_eq_none]
  intro x hx
  obtain ⟨j, hj, e⟩ := List.getElem_of_mem hx
  have := h j hj
  rw [getD_at xs j hj, e] at this
  simpa using this
/-! ### filters -/
theorem take_map_snoc {β : Type} (f : At → Option β) {xs : List At} {i : Nat} (h : i < xs.length) : (xs.take (i + 1)).filterMap f = (xs.take i).filterMap f ++ (f (xs.getD i at0)).toList := by
  rw [List.take_succ_eq_append_getElem h, List.filterMap_append, getD_at xs i h]
  cases e : f xs[i] <;> simp [e]
def wF (x : At) : Option At := if x.2.1 = 0 then none else some x
def oF (f : Bool) (a : List At) (y : At) : Option At := if f = true ∧ (get a y.1).isSome = true then none else some y
theorem fm_congr {β γ : Type} {f g : β → Option γ} : ∀ {l : List β}, (∀ x ∈ l, f x = g x) → l.filterMap f = l.filterMap g
  | [], _ => rfl
  | x :: l, h => by rw [List.filterMap_cons, List.filterMap_cons, h x (by simp), fm_congr fun y hy => h y (by simp [hy])]
theorem whole_eq (a b : List At) : (jn a b).filterMap wF = comp (cmpF false) a b := by
  unfold jn comp
  rw [List.filterMap_filterMap]
  refine fm_congr ?_
  rintro ⟨x, y⟩ _
  cases y with
  | some y => by_cases h : y.2.1 = 0 <;> simp [cmpF, wF, isNull, h]
  | none =>
    cases x with
    | some x => by_cases h : x.2.1 = 0 <;> simp [cmpF, wF, isNull, h]
    | none => rfl
theorem find_mem : ∀ {m : List (Option At × Option At)}, m.Pairwise (fun s t => kl (stepKey s) (stepKey t) = true) → ∀ s ∈ m, find m (stepKey s) = some s
  | s :: m, h, t, ht => by
    obtain ⟨h1, h2⟩ := List.pairwise_cons.1 h
    rw [find_cons]
    rcases List.mem_cons.1 ht with rfl | ht
    · rw [if_pos rfl]
    · rw [if_neg (kl_ne (h1 t ht)), find_mem h2 t ht]
theorem step_get {a b : List At} (ha : Ris a) (hb : Ris b) {s : Option At × Option At} (hs : s ∈ merge a b) : get a (stepKey s) = s.1 ∧ get b (stepKey s) = s.2 := by
  obtain ⟨h1, h2⟩ := merge_find a b ha hb
  have h := h2 (stepKey s)
  rw [find_mem h1 s hs] at h
  cases e1 : get a (stepKey s) <;> cases e2 : get b (stepKey s) <;> rw [e1, e2] at h <;> simp only [both2, Option.some.injEq, reduceCtorEq] at h <;> rw [h] <;> exact ⟨rfl, rfl⟩
theorem merge_snd (a b : List At) : (merge a b).filterMap (·.2) = b := by
  induction a, b using merge.induct with
  | case1 => simp [merge]
  | case2 x a ih => rw [merge, List.filterMap_cons_none rfl, ih]
  | case3 y b ih => rw [merge, List.filterMap_cons_some (f := fun x : Option At × Option At => x.2) (b := y) rfl, ih]
  | case4 x a y b hl ih => rw [merge, if_pos hl, List.filterMap_cons_none rfl, ih]
  | case5 x a y b hl hl2 ih => rw [merge, if_neg hl, if_pos hl2, List.filterMap_cons_some (f := fun x : Option At × Option At => x.2) (b := y) rfl, ih]
  | case6 x a y b hl hl2 ih => rw [merge, if_neg hl, if_neg hl2, List.filterMap_cons_some (f := fun x : Option At × Option At => x.2) (b := y) rfl, ih]
theorem over_eq (f : Bool) {a b : List At} (ha : Ris a) (hb : Ris b) : b.filterMap (oF f a) = comp (trnF f) a b := by
  have h := merge_snd a b
  conv => lhs; rw [← h]
  unfold comp
  rw [List.filterMap_filterMap]
  refine fm_congr ?_
  intro s hs
  obtain ⟨g1, g2⟩ := step_get ha hb hs
  obtain ⟨x, y⟩ := s
  cases y with
  | none => cases x <;> cases f <;> rfl
  | some y =>
    have ey : y.1 = stepKey (x, some y) := get_key g2
    show oF f a y = trnF f (x, some y)
    unfold oF
    rw [ey, g1]
    cases x <;> cases f <;> simp [trnF]
end Go.Proofs.YtkehomiogkoomaaDoor
