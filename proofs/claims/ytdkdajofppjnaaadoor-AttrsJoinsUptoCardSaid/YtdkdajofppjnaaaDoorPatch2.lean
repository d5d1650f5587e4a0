/- The laws of patches: composing is associative, a difference leads there, both ways round. Plain lists. No condition. -/
import Derived.Test.YtdkdajofppjnaaaDoorPatch
set_option linter.unusedVariables false
set_option linter.unusedSimpArgs false
namespace Go.Proofs.YtdkdajofppjnaaaDoor
open Go RX

theorem good_btw {na nb : Bool} {a b : List At} (ha : Good na a) (hb : Good nb b) : Good true (comp btwF a b) := by
  refine ⟨comp_mem _ a b ?_ ?_ ?_, comp_ris btwF_keyed ha.2 hb.2⟩
  · intro x hx z hz
    simp only [btwF, Option.some.injEq] at hz
    subst hz
    exact ⟨pairErr_null x (ha.1 x hx).1, .inl rfl⟩
  · intro y hy z hz
    simp only [btwF, Option.some.injEq] at hz
    subst hz
    exact ⟨(hb.1 _ hy).1, .inl rfl⟩
  · intro x hx y hy z hz
    simp only [btwF] at hz
    split at hz
    · cases hz
    · injection hz with hz
      subst hz
      exact ⟨(hb.1 _ hy).1, .inl rfl⟩
theorem good_trn (f : Bool) {na nb : Bool} {a b : List At} (ha : Good na a) (hb : Good nb b) : Good true (comp (trnF f) a b) := by
  refine ⟨comp_mem _ a b ?_ ?_ ?_, comp_ris (trnF_keyed f) ha.2 hb.2⟩
  · intro x hx z hz
    simp only [trnF] at hz
    split at hz <;> cases hz
  · intro y hy z hz
    simp only [trnF, Option.some.injEq] at hz
    subst hz
    exact ⟨(hb.1 _ hy).1, .inl rfl⟩
  · intro x hx y hy z hz
    simp only [trnF] at hz
    split at hz
    · cases hz
    · injection hz with hz
      subst hz
      exact ⟨(hb.1 _ hy).1, .inl rfl⟩
theorem good_sub {n : Bool} {a b : List At} (h : Good n b) (hs : a.Sublist b) : Good n a := ⟨fun x hx => h.1 x (hs.subset hx), h.2.sublist hs⟩
theorem good_nil (n : Bool) : Good n [] := ⟨by simp, by simp [Ris]⟩
theorem get_nil (k : ByteArray) : get [] k = none := rfl
theorem law_three {a b c : List At} (ha : Ris a) (hb : Ris b) (hc : Ris c) : comp (cmpF true) (comp (cmpF true) a b) c = comp (cmpF true) a (comp (cmpF true) b c) := by
  have h1 := comp_ris (cmpF_keyed true) ha hb
  have h2 := comp_ris (cmpF_keyed true) hb hc
  refine ris_ext (comp_ris (cmpF_keyed true) h1 hc) (comp_ris (cmpF_keyed true) ha h2) fun k => ?_
  rw [comp_get (cmpF_keyed true) h1 hc, comp_get (cmpF_keyed true) ha h2, comp_get (cmpF_keyed true) ha hb, comp_get (cmpF_keyed true) hb hc]
  cases get a k <;> cases get b k <;> cases get c k <;> simp [both2, cmpF]
theorem law_nil_r {a : List At} (ha : Ris a) : comp (cmpF true) a [] = a := by
  refine ris_ext (comp_ris (cmpF_keyed true) ha (by simp [Ris])) ha fun k => ?_
  rw [comp_get (cmpF_keyed true) ha (by simp [Ris]), get_nil]
  cases get a k <;> simp [both2, cmpF]
theorem law_nil_l {a : List At} (ha : Ris a) : comp (cmpF true) [] a = a := by
  refine ris_ext (comp_ris (cmpF_keyed true) (by simp [Ris]) ha) ha fun k => ?_
  rw [comp_get (cmpF_keyed true) (by simp [Ris]) ha, get_nil]
  cases get a k <;> simp [both2, cmpF]
theorem law_apply {a b c : List At} (ha : Ris a) (hb : Ris b) (hc : Ris c) : comp (cmpF false) a (comp (cmpF true) b c) = comp (cmpF false) (comp (cmpF false) a b) c := by
  have h1 := comp_ris (cmpF_keyed false) ha hb
  have h2 := comp_ris (cmpF_keyed true) hb hc
  refine ris_ext (comp_ris (cmpF_keyed false) ha h2) (comp_ris (cmpF_keyed false) h1 hc) fun k => ?_
  rw [comp_get (cmpF_keyed false) h1 hc, comp_get (cmpF_keyed false) ha h2, comp_get (cmpF_keyed false) ha hb, comp_get (cmpF_keyed true) hb hc]
  cases get a k with
  | none =>
    cases get b k with
    | none => cases get c k <;> simp [both2, cmpF]
    | some y =>
      cases get c k with
      | none => by_cases e : isNull y = false <;> simp [both2, cmpF, e]
      | some z => by_cases e : isNull y = false <;> simp [both2, cmpF, e]
  | some x =>
    cases get b k with
    | none =>
      cases get c k with
      | none => by_cases e : isNull x = false <;> simp [both2, cmpF, e]
      | some z => by_cases e : isNull x = false <;> simp [both2, cmpF, e]
    | some y =>
      cases get c k with
      | none => by_cases e : isNull y = false <;> simp [both2, cmpF, e]
      | some z => by_cases e : isNull y = false <;> simp [both2, cmpF, e]
theorem law_both {a b : List At} (ha : Ris a) (hb : Ris b) : comp (cmpF true) a (comp (trnF true) a b) = comp (cmpF true) b (comp (trnF false) b a) := by
  have h1 := comp_ris (trnF_keyed true) ha hb
  have h2 := comp_ris (trnF_keyed false) hb ha
  refine ris_ext (comp_ris (cmpF_keyed true) ha h1) (comp_ris (cmpF_keyed true) hb h2) fun k => ?_
  rw [comp_get (cmpF_keyed true) ha h1, comp_get (cmpF_keyed true) hb h2, comp_get (trnF_keyed true) ha hb, comp_get (trnF_keyed false) hb ha]
  cases get a k <;> cases get b k <;> simp [both2, cmpF, trnF]
theorem get_eq {a b : List At} {k : ByteArray} {x y : At} (hx : get a k = some x) (hy : get b k = some y) (e : x.2 = y.2) : x = y := Prod.ext ((get_key hx).trans (get_key hy).symm) e
theorem law_diff_nil {a b : List At} (ha : Ris a) (hb : Ris b) : (comp btwF a b).length = 0 ↔ a = b := by
  have h1 := comp_ris btwF_keyed ha hb
  constructor
  · intro h
    have h0 := List.length_eq_zero_iff.1 h
    refine ris_ext ha hb fun k => ?_
    have := comp_get btwF_keyed ha hb k
    rw [h0, get_nil] at this
    cases e1 : get a k with
    | none =>
      cases e2 : get b k with
      | none => rfl
      | some y => rw [e1, e2] at this; simp [both2, btwF] at this
    | some x =>
      cases e2 : get b k with
      | none => rw [e1, e2] at this; simp [both2, btwF] at this
      | some y =>
        rw [e1, e2] at this
        simp only [both2, btwF, Option.bind_some] at this
        split at this
        · rename_i e; rw [get_eq e1 e2 e]
        · cases this
  · intro e
    subst e
    rw [List.length_eq_zero_iff]
    refine ris_ext h1 (by simp [Ris]) fun k => ?_
    rw [comp_get btwF_keyed ha ha, get_nil]
    cases get a k <;> simp [both2, btwF]
theorem nonnull {a : List At} (ha : Good false a) {k : ByteArray} {x : At} (h : get a k = some x) : isNull x = false := by
  have := (ha.1 x (get_mem h)).2
  simpa using this
theorem law_there {a b : List At} (ha : Good false a) (hb : Good false b) : comp (cmpF false) a (comp btwF a b) = b := by
  have h1 := comp_ris btwF_keyed ha.2 hb.2
  refine ris_ext (comp_ris (cmpF_keyed false) ha.2 h1) hb.2 fun k => ?_
  rw [comp_get (cmpF_keyed false) ha.2 h1, comp_get btwF_keyed ha.2 hb.2]
  cases e1 : get a k with
  | none =>
    cases e2 : get b k with
    | none => simp [both2]
    | some y => simp [both2, btwF, cmpF, nonnull hb e2]
  | some x =>
    cases e2 : get b k with
    | none => simp [both2, btwF, cmpF, isNull]
    | some y =>
      by_cases e : x.2 = y.2
      · simp [both2, btwF, cmpF, e, nonnull ha e1, get_eq e1 e2 e, nonnull hb e2]
      · simp [both2, btwF, cmpF, e, nonnull hb e2]
theorem get_of_mem : ∀ {xs : List At}, Ris xs → ∀ {x : At}, x ∈ xs → get xs x.1 = some x
  | y :: xs, h, x, hx => by
    rw [get_cons]
    rcases List.mem_cons.1 hx with rfl | hx
    · rw [if_pos rfl]
    · rw [if_neg (fun e => kl_ne (h.head x hx) e)]
      exact get_of_mem h.tail hx
theorem get_erase : ∀ {xs : List At} (h : Ris xs) (k : Nat) (hk : k < xs.length), get (xs.take k ++ xs.drop (k + 1)) (xs[k]).1 = none
  | y :: xs, h, 0, hk => by simpa using get_none h.head
  | y :: xs, h, k + 1, hk => by
    simp only [List.take_succ_cons, List.drop_succ_cons, List.cons_append, List.getElem_cons_succ]
    rw [get_cons, if_neg (fun e => kl_ne (h.head _ (List.getElem_mem (by simpa using hk))) e)]
    exact get_erase h.tail k (by simpa using hk)
theorem erase_sub (xs : List At) (k : Nat) : (xs.take k ++ xs.drop (k + 1)).Sublist xs := by
  rw [← List.eraseIdx_eq_take_drop_succ]; exact List.eraseIdx_sublist ..
theorem law_fewer {t a : List At} (ht : Good false t) (ha : Good false a) (k : Nat) (hk : k < (comp btwF t a).length) : comp (cmpF false) t ((comp btwF t a).take k ++ (comp btwF t a).drop (k + 1)) ≠ a := by
  intro e
  have h1 := comp_ris btwF_keyed ht.2 ha.2
  have h2 : Ris ((comp btwF t a).take k ++ (comp btwF t a).drop (k + 1)) := h1.sublist (erase_sub _ _)
  have g := get_of_mem h1 (List.getElem_mem hk)
  have g2 := comp_get (cmpF_keyed false) ht.2 h2 ((comp btwF t a)[k]).1
  rw [e, get_erase h1 k hk] at g2
  rw [comp_get btwF_keyed ht.2 ha.2] at g
  generalize (comp btwF t a)[k].1 = K at g g2
  cases e1 : get t K with
  | none =>
    rw [e1] at g g2
    simp only [both2, Option.bind_none] at g2
    rw [g2] at g
    simp [both2] at g
  | some x =>
    rw [e1] at g g2
    simp only [both2, Option.bind_some, cmpF, nonnull ht e1, or_true, if_true] at g2
    rw [g2] at g
    simp [both2, btwF] at g
end Go.Proofs.YtdkdajofppjnaaaDoor
