/- Greatest common parts: exchanged, turned, joined, one more. Plain lists and numbers. -/
import Derived.Test.YtmhkeojbjliieaaDoorLcs
set_option linter.unusedVariables false
set_option linter.unusedSimpArgs false
namespace Go.Proofs.YtmhkeojbjliieaaDoor.MM

theorem Lm_of {a b c d : List Int} (h : ∀ ps, Mt a b ps → ∃ qs, Mt c d qs ∧ qs.length = ps.length) : Lm a b ≤ Lm c d := by
  obtain ⟨ps, h1, h2⟩ := L_Mt a b
  obtain ⟨qs, h3, h4⟩ := h ps h1
  have := Mt_L h3
  omega
theorem Lm_comm_le (a b : List Int) : Lm a b ≤ Lm b a := Lm_of fun ps h => ⟨ps.map fun p => (p.2, p.1), ⟨List.pairwise_map.2 (h.1.imp fun h => ⟨h.2, h.1⟩), fun p hp => by
  obtain ⟨q, hq, rfl⟩ := List.mem_map.1 hp
  obtain ⟨h1, h2, h3, h4, h5⟩ := h.2 q hq
  exact ⟨h3, h4, h1, h2, h5.symm⟩⟩, by simp⟩
theorem Lm_comm (a b : List Int) : Lm a b = Lm b a := Nat.le_antisymm (Lm_comm_le a b) (Lm_comm_le b a)
theorem getD_rev (a : List Int) (i : Nat) (h : i < a.length) : a.reverse.getD (a.length - 1 - i) 0 = a.getD i 0 := by
  simp only [List.getD_eq_getElem?_getD]
  rw [List.getElem?_reverse (by omega), show a.length - 1 - (a.length - 1 - i) = i from by omega]
theorem Lm_rev_le (a b : List Int) : Lm a b ≤ Lm a.reverse b.reverse := Lm_of fun ps h => ⟨(ps.map fun p => ((a.length : Int) - 1 - p.1, (b.length : Int) - 1 - p.2)).reverse, ⟨List.pairwise_reverse.2 (List.pairwise_map.2 (h.1.imp fun h => by
    dsimp only
    omega)), fun p hp => by
  obtain ⟨q, hq, rfl⟩ := List.mem_map.1 (List.mem_reverse.1 hp)
  obtain ⟨h1, h2, h3, h4, h5⟩ := h.2 q hq
  refine ⟨by dsimp only; omega, by rw [List.length_reverse]; dsimp only; omega, by dsimp only; omega, by rw [List.length_reverse]; dsimp only; omega, ?_⟩
  dsimp only
  rw [show ((a.length : Int) - 1 - q.1).toNat = a.length - 1 - q.1.toNat from by omega, show ((b.length : Int) - 1 - q.2).toNat = b.length - 1 - q.2.toNat from by omega, getD_rev a _ (by omega), getD_rev b _ (by omega)]
  exact h5⟩, by simp⟩
theorem Lm_rev (a b : List Int) : Lm a.reverse b.reverse = Lm a b := by
  have h1 := Lm_rev_le a b
  have h2 := Lm_rev_le a.reverse b.reverse
  rw [List.reverse_reverse, List.reverse_reverse] at h2
  omega
theorem Lm_self (a : List Int) : Lm a a = a.length := by
  have h1 := L_le a a a.length a.length
  have h2 : Mt a a ((List.range a.length).map fun (i : Nat) => ((i : Int), (i : Int))) := by
    refine ⟨List.pairwise_map.2 (List.pairwise_lt_range.imp fun h => ⟨by dsimp only; omega, by dsimp only; omega⟩), fun p hp => ?_⟩
    obtain ⟨i, hi, rfl⟩ := List.mem_map.1 hp
    have := List.mem_range.1 hi
    exact ⟨by dsimp only; omega, by dsimp only; omega, by dsimp only; omega, by dsimp only; omega, rfl⟩
  have h3 := Mt_L h2
  simp only [List.length_map, List.length_range] at h3
  unfold Lm at *
  omega
theorem Lm_none {a b : List Int} (h : ∀ x ∈ a, ∀ y ∈ b, x ≠ y) : Lm a b = 0 := by
  obtain ⟨ps, h1, h2⟩ := L_Mt a b
  match ps, h1, h2 with
  | [], _, h2 => simpa using h2.symm
  | p :: r, h1, _ =>
    obtain ⟨p1, p2, p3, p4, p5⟩ := h1.2 p (by simp)
    exfalso
    refine h (a.getD p.1.toNat 0) ?_ (b.getD p.2.toNat 0) ?_ p5
    · rw [List.getD_eq_getElem?_getD, List.getElem?_eq_getElem (by omega)]; exact List.getElem_mem _
    · rw [List.getD_eq_getElem?_getD, List.getElem?_eq_getElem (by omega)]; exact List.getElem_mem _
theorem getD_left (a c : List Int) (i : Nat) (h : i < a.length) : (a ++ c).getD i 0 = a.getD i 0 := by simp [List.getD_eq_getElem?_getD, List.getElem?_append_left h]
theorem getD_right (a c : List Int) (i : Nat) : (a ++ c).getD (a.length + i) 0 = c.getD i 0 := by
  simp only [List.getD_eq_getElem?_getD]
  rw [List.getElem?_append_right (by omega), show a.length + i - a.length = i from by omega]
theorem Mt_left {a b : List Int} (c d : List Int) {ps : List (Int × Int)} (h : Mt a b ps) : Mt (a ++ c) (b ++ d) ps := ⟨h.1, fun p hp => by
  obtain ⟨h1, h2, h3, h4, h5⟩ := h.2 p hp
  refine ⟨h1, by rw [List.length_append]; omega, h3, by rw [List.length_append]; omega, ?_⟩
  rw [getD_left _ _ _ (by omega), getD_left _ _ _ (by omega)]
  exact h5⟩
theorem Lm_app (a b c d : List Int) : Lm a b + Lm c d ≤ Lm (a ++ c) (b ++ d) := by
  obtain ⟨ps, h1, h2⟩ := L_Mt a b
  obtain ⟨qs, h3, h4⟩ := L_Mt c d
  have h5 : Mt (a ++ c) (b ++ d) (ps ++ qs.map fun p => ((a.length : Int) + p.1, (b.length : Int) + p.2)) := by
    refine ⟨List.pairwise_append.2 ⟨h1.1, List.pairwise_map.2 (h3.1.imp fun h => by dsimp only; omega), fun p hp q hq => ?_⟩, fun p hp => ?_⟩
    · obtain ⟨r, hr, rfl⟩ := List.mem_map.1 hq
      obtain ⟨p1, p2, p3, p4, _⟩ := h1.2 p hp
      obtain ⟨r1, r2, r3, r4, _⟩ := h3.2 r hr
      exact ⟨by dsimp only; omega, by dsimp only; omega⟩
    · rcases List.mem_append.1 hp with hm | hm
      · exact (Mt_left c d h1).2 p hm
      · obtain ⟨r, hr, rfl⟩ := List.mem_map.1 hm
        obtain ⟨r1, r2, r3, r4, r5⟩ := h3.2 r hr
        refine ⟨by dsimp only; omega, by rw [List.length_append]; dsimp only; omega, by dsimp only; omega, by rw [List.length_append]; dsimp only; omega, ?_⟩
        dsimp only
        rw [show ((a.length : Int) + r.1).toNat = a.length + r.1.toNat from by omega, show ((b.length : Int) + r.2).toNat = b.length + r.2.toNat from by omega, getD_right, getD_right]
        exact r5
  have := Mt_L h5
  simp only [List.length_append, List.length_map] at this
  omega
theorem L_left (a b c d : List Int) : ∀ i j, i ≤ a.length → j ≤ b.length → L (a ++ c) (b ++ d) i j = L a b i j
  | 0, j, _, _ => rfl
  | i + 1, 0, _, _ => by rw [L_zero, L_zero]
  | i + 1, j + 1, hi, hj => by
    rw [L_succ, L_succ, getD_left _ _ _ (by omega), getD_left _ _ _ (by omega), L_left a b c d i j (by omega) (by omega), L_left a b c d (i + 1) j hi (by omega), L_left a b c d i (j + 1) (by omega) hj]
theorem Lm_snoc (a b : List Int) (x : Int) : Lm (a ++ [x]) b = Lm a b ∨ Lm (a ++ [x]) b = Lm a b + 1 := by
  have h1 := L_left a b [x] [] a.length b.length (Nat.le_refl _) (Nat.le_refl _)
  rw [List.append_nil] at h1
  have h2 := L_A (a ++ [x]) b a.length b.length
  rw [h1] at h2
  unfold Lm
  rw [show (a ++ [x]).length = a.length + 1 from by simp]
  omega
theorem Lm_both (a b : List Int) (x : Int) : Lm (a ++ [x]) (b ++ [x]) = Lm a b + 1 := by
  unfold Lm
  simp only [List.length_append, List.length_cons, List.length_nil]
  rw [L_succ, if_pos (by have h1 := getD_right a [x] 0; have h2 := getD_right b [x] 0; rw [Nat.add_zero] at h1 h2; rw [h1, h2]), L_left a b [x] [x] _ _ (Nat.le_refl _) (Nat.le_refl _)]
theorem Lm_front (a b : List Int) (x : Int) : Lm ([x] ++ a) ([x] ++ b) = Lm a b + 1 := by
  have h := Lm_both a.reverse b.reverse x
  have h2 := Lm_rev ([x] ++ a) ([x] ++ b)
  simp only [List.reverse_append, List.reverse_cons, List.reverse_nil, List.nil_append] at h2
  rw [← h2, h, Lm_rev]
theorem tmod_bd (x : Int) : -1099511627776 < Int.tmod x 1099511627776 ∧ Int.tmod x 1099511627776 < 1099511627776 := by
  have h1 := Int.natAbs_tmod x 1099511627776
  have h2 : x.natAbs % Int.natAbs 1099511627776 < 1099511627776 := Nat.mod_lt _ (by decide)
  omega
def oddf (x : Int) : Int := 2 * Int.tmod x 1099511627776 + 1
def evenf (x : Int) : Int := 2 * Int.tmod x 1099511627776
theorem take_map (f : Int → Int) (xs : List Int) (i : Nat) (h : i < xs.length) : (xs.take i).map f ++ [f (xs.getD i 0)] = (xs.take (i + 1)).map f := by
  rw [List.take_succ_eq_append_getElem h, List.map_append, List.getD_eq_getElem?_getD, List.getElem?_eq_getElem h]
  rfl
theorem Lm_odd (a b : List Int) : Lm (a.map oddf) (b.map evenf) = 0 := Lm_none fun x hx y hy => by
  obtain ⟨u, _, rfl⟩ := List.mem_map.1 hx
  obtain ⟨v, _, rfl⟩ := List.mem_map.1 hy
  unfold oddf evenf
  omega
end Go.Proofs.YtmhkeojbjliieaaDoor.MM
