import Derived.Test.YtkehomiogkoomaaDoorHand
import Derived.Test.YtkehomiogkoomaaDoorIns
/- An attribute put into a rising list. Plain lists. No condition. -/
set_option linter.unusedVariables false
set_option linter.unusedSimpArgs false
namespace Go.Proofs.YtkehomiogkoomaaDoor
open Go Go.RowKit Go.Proofs.YtkehomiogkoomaaDoorW.PrintWords RX
def putP : List At → At → List At
  | [], a => [a]
  | x :: l, a => if kl x.1 a.1 = true then x :: putP l a else if x.1 = a.1 then a :: l else a :: x :: l
theorem put_mem : ∀ {l : List At} {a y : At}, y ∈ putP l a → y = a ∨ y ∈ l
  | [], a, y, h => .inl (by simpa [putP] using h)
  | x :: l, a, y, h => by
    unfold putP at h
    split at h
    · rcases List.mem_cons.1 h with h | h
      · exact .inr (h ▸ List.mem_cons_self)
      · rcases put_mem h with h | h
        · exact .inl h
        · exact .inr (List.mem_cons_of_mem _ h)
    · split at h
      · rcases List.mem_cons.1 h with h | h
        · exact .inl h
        · exact .inr (List.mem_cons_of_mem _ h)
      · rcases List.mem_cons.1 h with h | h
        · exact .inl h
        · exact .inr h
theorem put_len : ∀ (l : List At) (a : At), (putP l a).length ≤ l.length + 1
  | [], a => by simp [putP]
  | x :: l, a => by
    have := put_len l a
    unfold putP
    split
    · simp only [List.length_cons]; omega
    · split <;> simp only [List.length_cons] <;> omega
theorem kl_ge {a b : ByteArray} (h : kl a b ≠ true) (hne : a ≠ b) : kl b a = true := by
  cases hb : kl b a with
  | true => rfl
  | false => exact absurd (kl_tri (by simpa using h) hb) hne
theorem put_ris : ∀ {l : List At} (a : At), Ris l → Ris (putP l a)
  | [], a, h => by simp [putP, Ris]
  | x :: l, a, h => by
    have ht := h.tail
    have hh := h.head
    unfold putP
    split
    · rename_i hk
      refine List.pairwise_cons.2 ⟨fun y hy => ?_, put_ris a ht⟩
      rcases put_mem hy with rfl | hy
      · exact hk
      · exact hh y hy
    · rename_i hk
      split
      · rename_i he
        refine List.pairwise_cons.2 ⟨fun y hy => ?_, ht⟩
        rw [← he]; exact hh y hy
      · rename_i he
        have hax := kl_ge hk he
        exact List.pairwise_cons.2 ⟨fun y hy => h.below hax y hy, h⟩
/-- where a key stands, or should -/
structure Plc (l : List At) (k : ByteArray) (i : Nat) : Prop where
  le : i ≤ l.length
  lo : ∀ t, t < i → kl (l.getD t at0).1 k = true
  hi : ∀ t, i ≤ t → t < l.length → kl (l.getD t at0).1 k = false
theorem Plc.tail {x : At} {l : List At} {k : ByteArray} {i : Nat} (h : Plc (x :: l) k (i + 1)) : Plc l k i :=
  ⟨by have := h.le; simpa using this, fun t ht => by simpa using h.lo (t + 1) (by omega), fun t h1 h2 => by simpa using h.hi (t + 1) (by omega) (by simpa using h2)⟩
theorem put_there : ∀ {l : List At} {a : At} {i : Nat}, Plc l a.1 i → i < l.length → (l.getD i at0).1 = a.1 → putP l a = l.set i a
  | [], a, i, h, hi, he => by simp at hi
  | x :: l, a, 0, h, hi, he => by
    have he : x.1 = a.1 := by simpa using he
    unfold putP
    rw [if_neg (by rw [he, kl_irrefl]; simp), if_pos he]
    rfl
  | x :: l, a, i + 1, h, hi, he => by
    have hx : kl x.1 a.1 = true := by simpa using h.lo 0 (by omega)
    unfold putP
    rw [if_pos hx, put_there h.tail (by simpa using hi) (by simpa using he)]
    rfl
theorem put_new : ∀ {l : List At} {a : At} {i : Nat}, Plc l a.1 i → ¬ (i < l.length ∧ (l.getD i at0).1 = a.1) → putP l a = l.take i ++ a :: l.drop i
  | [], a, i, h, hn => by simp [putP]
  | x :: l, a, 0, h, hn => by
    have hx : kl x.1 a.1 = false := by simpa using h.hi 0 (by omega) (by simp)
    unfold putP
    rw [if_neg (by rw [hx]; simp), if_neg (fun e => hn ⟨by simp, by simpa using e⟩)]
    rfl
  | x :: l, a, i + 1, h, hn => by
    have hx : kl x.1 a.1 = true := by simpa using h.lo 0 (by omega)
    unfold putP
    rw [if_pos hx, put_new h.tail (fun e => hn ⟨by simpa using e.1, by simpa using e.2⟩)]
    rfl
theorem put_all : ∀ {l : List At} {a : At}, (∀ y ∈ l, kl y.1 a.1 = true) → putP l a = l ++ [a]
  | [], a, h => rfl
  | x :: l, a, h => by
    unfold putP
    rw [if_pos (h x List.mem_cons_self), put_all fun y hy => h y (List.mem_cons_of_mem _ hy)]
    rfl
theorem atake_snoc {xs : List At} {i : Nat} (h : i < xs.length) : xs.take (i + 1) = xs.take i ++ [xs.getD i at0] := by
  rw [List.take_add_one, List.getElem?_eq_getElem h, getD_at xs i h]; rfl
def ofA (xs : List At) : List At := xs.foldl putP []
theorem ofA_snoc (xs : List At) (a : At) : ofA (xs ++ [a]) = putP (ofA xs) a := by unfold ofA; rw [List.foldl_append]; rfl
theorem ofA_take {xs : List At} {i : Nat} (h : i < xs.length) : ofA (xs.take (i + 1)) = putP (ofA (xs.take i)) (xs.getD i at0) := by
  rw [List.take_add_one, List.getElem?_eq_getElem h, getD_at xs i h]
  exact ofA_snoc _ _
theorem ofA_ris (xs : List At) : Ris (ofA xs) := by
  unfold ofA
  have : ∀ (xs l : List At), Ris l → Ris (xs.foldl putP l) := fun xs => by
    induction xs with
    | nil => exact fun l h => h
    | cons a xs ih => exact fun l h => ih _ (put_ris a h)
  exact this xs [] (by simp [Ris])
theorem ofA_len (xs : List At) : (ofA xs).length ≤ xs.length := by
  have : ∀ (xs l : List At), (xs.foldl putP l).length ≤ l.length + xs.length := fun xs => by
    induction xs with
    | nil => exact fun l => by simp
    | cons a xs ih => exact fun l => by have h1 := ih (putP l a); have h2 := put_len l a; simp only [List.foldl_cons, List.length_cons]; omega
  have h := this xs []
  unfold ofA
  simpa using h
/-- a rising list is what it makes -/
theorem ofA_self (xs : List At) (h : Ris xs) : ofA xs = xs := by
  have : ∀ n, n ≤ xs.length → ofA (xs.take n) = xs.take n := fun n => by
    induction n with
    | zero => exact fun _ => by simp [ofA]
    | succ n ih =>
      intro hn
      rw [ofA_take (by omega), ih (by omega), put_all, List.take_add_one, List.getElem?_eq_getElem (by omega), getD_at xs n (by omega)]
      · rfl
      · intro y hy
        have hr : Ris (xs.take n ++ [xs.getD n at0]) := by
          have : (xs.take (n + 1)) = xs.take n ++ [xs.getD n at0] := by rw [List.take_add_one, List.getElem?_eq_getElem (by omega), getD_at xs n (by omega)]; rfl
          rw [← this]
          exact List.Pairwise.sublist (List.take_sublist _ _) h
        exact (List.pairwise_append.1 hr).2.2 y hy _ (by simp)
  have := this xs.length (Nat.le_refl _)
  rwa [List.take_length] at this
/-- the first pair that is none -/
def pE : List At → Nat
  | [] => 0
  | x :: l => if pairErr x = 0 then pE l else pairErr x
theorem pE_take : ∀ {xs : List At} {i : Nat}, i < xs.length → (∀ t, t < i → pairErr (xs.getD t at0) = 0) → pairErr (xs.getD i at0) ≠ 0 → pE xs = pairErr (xs.getD i at0)
  | [], i, h, _, _ => by simp at h
  | x :: l, 0, h, _, hx => by
    have hx : pairErr x ≠ 0 := by simpa using hx
    unfold pE
    rw [if_neg hx]; simp
  | x :: l, i + 1, h, h0, hx => by
    have hx0 : pairErr x = 0 := by simpa using h0 0 (by omega)
    unfold pE
    rw [if_pos hx0, pE_take (i := i) (by simpa using h) (fun t ht => by simpa using h0 (t + 1) (by omega)) (by simpa using hx)]
    simp
theorem pE_zero : ∀ {xs : List At}, (∀ t, t < xs.length → pairErr (xs.getD t at0) = 0) → pE xs = 0
  | [], _ => rfl
  | x :: l, h => by
    unfold pE
    rw [if_pos (by simpa using h 0 (by simp)), pE_zero fun t ht => by simpa using h (t + 1) (by simpa using ht)]
theorem good_pE {n : Bool} {xs : List At} (h : Good n xs) : pE xs = 0 := pE_zero fun t ht => (h.1 _ (by rw [getD_at xs t ht]; exact List.getElem_mem ht)).1
/-! blocks of attributes -/
theorem kAttr_flat {w : World} {base : Nat} {ok : Nat → Prop} : ∀ {xs : List At} {cs : List Value}, Reps (kAttr.M w base ok) 4 xs cs → cs = xs.flatMap atV
  | [], cs, h => by have := h.1; simp at this; simpa using this
  | x :: xs, cs, h => by
    have h0 := h.2 0 x rfl
    simp only [Nat.zero_mul, List.drop_zero] at h0
    have hx := kAttr_K (kAttr.K_of_M h0)
    have ht : Reps (kAttr.M w base ok) 4 xs (cs.drop 4) := ⟨by rw [List.length_drop, h.1]; simp only [List.length_cons]; omega, fun j p hj => by
      have := h.2 (j + 1) p hj
      rw [List.drop_drop]
      rwa [show (j + 1) * 4 = 4 + j * 4 by omega] at this⟩
    rw [List.flatMap_cons, ← hx, ← kAttr_flat ht, List.take_append_drop]
theorem attr_blk {e : Nat} {w : World} {base : Nat} {ok : Nat → Prop} {A : Option Addr} {n c : Nat} {xs : List At} (h : kAttr.R e w base ok (.slice A n c) xs) (hn : 0 < n) :
    ∃ g cur, A = some ⟨g, 0, none⟩ ∧ base ≤ g ∧ RX.Blk w g e cur ∧ n ≤ c ∧ c ≤ maxLen ∧ cur.size = c * 4 ∧ cur.toList.take (n * 4) = xs.flatMap atV := by
  have hl := (RX.Kd.R_len h).1
  obtain ⟨h0, inner, ho, hr⟩ := h
  have hf := kAttr_flat hr
  rcases ho.2 with ⟨he, _⟩ | ⟨g, cap, cur, he, hb, hh, h1, h2, h3, h4⟩
  · injection he with _ h2 _; omega
  · injection he with e1 e2 e3
    subst e3
    exact ⟨g, cur, e1, hb, hh, by omega, h2, h3, by rw [hl]; exact h4.trans hf⟩
theorem attr_of_blk {e : Nat} {w : World} {base g n c : Nat} {cur : Array Value} {xs : List At} (hb : base ≤ g) (h : RX.Blk w g e cur) (hl : xs.length = n) (hc : n ≤ c) (hm : c ≤ maxLen) (hs : cur.size = c * 4) (ht : cur.toList.take (n * 4) = xs.flatMap atV) :
    kAttr.R e w base (OkFrom base) (.slice (some ⟨g, 0, none⟩) n c) xs := by
  subst hl
  refine ⟨fun k hk => ?_, xs.flatMap atV, ⟨(repsAttr (w := w) (base := base) (ok := fun _ => False) xs).1, .inr ⟨g, c, cur, rfl, hb, h, hc, hm, hs, ht⟩⟩, repsAttr xs⟩
  have : g = k := by simpa [Value.ownBlock] using hk
  subst this
  exact hb
theorem flat_len (xs : List At) : (xs.flatMap atV).length = xs.length * 4 := (repsAttr (w := default) (base := 0) (ok := fun _ => False) xs).1
theorem flat_one {xs : List At} : ∀ v ∈ xs.flatMap atV, v.oneCell' = true := by
  intro v hv
  obtain ⟨x, _, hx⟩ := List.mem_flatMap.1 hv
  simp only [atV, List.mem_cons, List.not_mem_nil, or_false] at hx
  rcases hx with rfl | rfl | rfl | rfl <;> rfl
theorem blk_src {w : World} {g e n i : Nat} {cur : Array Value} {xs : List At} (h : RX.Blk w g e cur) (hl : xs.length = n) (ht : cur.toList.take (n * 4) = xs.flatMap atV) (hi : i ≤ n) : ∀ j v, ((xs.drop i).flatMap atV)[j]? = some v → w.cell? ((⟨g, i * 4, none⟩ : Addr).add j) = some v := by
  intro j v hj
  have hf : xs.flatMap atV = (xs.take i).flatMap atV ++ (xs.drop i).flatMap atV := by rw [← List.flatMap_append, List.take_append_drop]
  have hli : ((xs.take i).flatMap atV).length = i * 4 := by rw [flat_len, List.length_take]; omega
  have ha : (⟨g, i * 4, none⟩ : Addr).add j = ⟨g, i * 4 + j, none⟩ := by unfold Addr.add; split <;> simp_all
  rw [ha]
  refine RX.Blk.cell h _ v ?_
  have h2 : (xs.flatMap atV)[i * 4 + j]? = some v := by rw [hf, List.getElem?_append_right (by omega), hli, Nat.add_sub_cancel_left]; exact hj
  rw [← ht, List.getElem?_take] at h2
  split at h2
  · simpa using h2
  · cases h2
theorem ins_list {L F G : List Value} {i n : Nat} {xs : List At} {x : At} (hl : xs.length = n) (hi : i ≤ n) (hF : F.take (i * 4) = (xs.take i).flatMap atV) (hG : G = F.take (i * 4) ++ atV x ++ (xs.drop i).flatMap atV ++ L) : G.take ((n + 1) * 4) = (xs.take i ++ x :: xs.drop i).flatMap atV := by
  have h1 : G = (xs.take i ++ x :: xs.drop i).flatMap atV ++ L := by rw [hG, hF, List.flatMap_append, List.flatMap_cons]; simp only [List.append_assoc]
  have h2 : ((xs.take i ++ x :: xs.drop i).flatMap atV).length = (n + 1) * 4 := by rw [flat_len]; simp only [List.length_append, List.length_cons, List.length_take, List.length_drop]; omega
  rw [h1, ← h2, List.take_left]
end Go.Proofs.YtkehomiogkoomaaDoor
