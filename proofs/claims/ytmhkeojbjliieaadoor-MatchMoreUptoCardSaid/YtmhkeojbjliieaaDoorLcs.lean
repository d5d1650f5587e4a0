/- The greatest common part of two lists, by the table of all beginnings, and its links to Myers' rows and to matchings. Plain lists and numbers. -/
import Derived.Test.YtmhkeojbjliieaaDoorMath
set_option linter.unusedVariables false
set_option linter.unusedSimpArgs false
namespace Go.Proofs.YtmhkeojbjliieaaDoor.MM

/-- a row of the table out of the row before -/
def nextL (x : Int) (b : List Int) (row : Nat → Nat) : Nat → Nat
  | 0 => 0
  | j + 1 => if x = b.getD j 0 then row j + 1 else max (nextL x b row j) (row (j + 1))
/-- the greatest common part of the first i and the first j -/
def L (a b : List Int) : Nat → Nat → Nat
  | 0, _ => 0
  | i + 1, j => nextL (a.getD i 0) b (L a b i) j
def Lm (a b : List Int) : Nat := L a b a.length b.length

theorem L_zero (a b : List Int) (i : Nat) : L a b i 0 = 0 := by cases i <;> rfl
theorem L_succ (a b : List Int) (i j : Nat) : L a b (i + 1) (j + 1) = if a.getD i 0 = b.getD j 0 then L a b i j + 1 else max (L a b (i + 1) j) (L a b i (j + 1)) := rfl

theorem L_A_of (a b : List Int) (i : Nat) (hB : ∀ j, L a b i j ≤ L a b i (j + 1) ∧ L a b i (j + 1) ≤ L a b i j + 1) : ∀ j, L a b i j ≤ L a b (i + 1) j ∧ L a b (i + 1) j ≤ L a b i j + 1
  | 0 => by rw [L_zero, L_zero]; omega
  | j + 1 => by
    have h1 := L_A_of a b i hB j
    have h2 := hB j
    rw [L_succ]
    split <;> omega
theorem L_B (a b : List Int) : ∀ i j, L a b i j ≤ L a b i (j + 1) ∧ L a b i (j + 1) ≤ L a b i j + 1
  | 0, j => by simp [L]
  | i + 1, j => by
    have h1 := L_A_of a b i (L_B a b i) j
    have h2 := L_B a b i j
    rw [L_succ]
    split <;> omega
theorem L_A (a b : List Int) (i j : Nat) : L a b i j ≤ L a b (i + 1) j ∧ L a b (i + 1) j ≤ L a b i j + 1 := L_A_of a b i (L_B a b i) j
theorem L_le (a b : List Int) : ∀ i j, L a b i j ≤ i ∧ L a b i j ≤ j
  | 0, j => by simp [L]
  | i + 1, 0 => by rw [L_zero]; omega
  | i + 1, j + 1 => by
    have h1 := L_le a b i (j + 1)
    have h2 := L_le a b (i + 1) j
    have h3 := L_A a b i (j + 1)
    have h4 := L_B a b (i + 1) j
    omega
theorem L_mono_i (a b : List Int) (i j k : Nat) : L a b i j ≤ L a b (i + k) j := by
  induction k with
  | zero => exact Nat.le_refl _
  | succ k ih => have := L_A a b (i + k) j; rw [← Nat.add_assoc]; omega
theorem L_mono_j (a b : List Int) (i j k : Nat) : L a b i j ≤ L a b i (j + k) := by
  induction k with
  | zero => exact Nat.le_refl _
  | succ k ih => have := L_B a b i (j + k); rw [← Nat.add_assoc]; omega

theorem Rch_L {a b : List Int} {d : Nat} {x y : Int} (h : Rch a b d x y) : x + y ≤ d + 2 * (L a b x.toNat y.toNat : Int) := by
  induction h with
  | zero => simp; omega
  | diag h1 hx hy heq ih =>
    rename_i d x y
    have hb := h1.bd
    rw [show (x + 1).toNat = x.toNat + 1 from by omega, show (y + 1).toNat = y.toNat + 1 from by omega, L_succ, if_pos heq]
    omega
  | right h1 hx ih =>
    rename_i d x y
    have hb := h1.bd
    rw [show (x + 1).toNat = x.toNat + 1 from by omega]
    have := L_A a b x.toNat y.toNat
    omega
  | down h1 hy ih =>
    rename_i d x y
    have hb := h1.bd
    rw [show (y + 1).toNat = y.toNat + 1 from by omega]
    have := L_B a b x.toNat y.toNat
    omega
theorem L_Rch (a b : List Int) : ∀ (i j : Nat), i ≤ a.length → j ≤ b.length → Rch a b (i + j - 2 * L a b i j) i j
  | 0, 0, _, _ => Rch.zero
  | 0, j + 1, hi, hj => by
    have h := L_Rch a b 0 j hi (by omega)
    have h2 := Rch.down h (by omega)
    have e : 0 + (j + 1) - 2 * L a b 0 (j + 1) = 0 + j - 2 * L a b 0 j + 1 := by simp [L]
    rw [e]; simpa using h2
  | i + 1, 0, hi, hj => by
    have h := L_Rch a b i 0 (by omega) hj
    have h2 := Rch.right h (by omega)
    have e : i + 1 + 0 - 2 * L a b (i + 1) 0 = i + 0 - 2 * L a b i 0 + 1 := by rw [L_zero, L_zero]; omega
    rw [e]; simpa using h2
  | i + 1, j + 1, hi, hj => by
    by_cases heq : a.getD i 0 = b.getD j 0
    · have h := L_Rch a b i j (by omega) (by omega)
      have h2 := Rch.diag h (by omega) (by omega) (by simpa using heq)
      have h3 := L_le a b i j
      have e : i + 1 + (j + 1) - 2 * L a b (i + 1) (j + 1) = i + j - 2 * L a b i j := by rw [L_succ, if_pos heq]; omega
      rw [e]; simpa using h2
    · have hL := L_succ a b i j
      rw [if_neg heq] at hL
      by_cases hm : L a b i (j + 1) ≤ L a b (i + 1) j
      · have h := L_Rch a b (i + 1) j hi (by omega)
        have h2 := Rch.down h (by omega)
        have h3 := L_le a b (i + 1) j
        have e : i + 1 + (j + 1) - 2 * L a b (i + 1) (j + 1) = i + 1 + j - 2 * L a b (i + 1) j + 1 := by rw [hL]; omega
        rw [e]; simpa using h2
      · have h := L_Rch a b i (j + 1) (by omega) hj
        have h2 := Rch.right h (by omega)
        have h3 := L_le a b i (j + 1)
        have e : i + 1 + (j + 1) - 2 * L a b (i + 1) (j + 1) = i + (j + 1) - 2 * L a b i (j + 1) + 1 := by rw [hL]; omega
        rw [e]; simpa using h2
  termination_by i j => i + j

/-- how many edits it takes -/
def dist (a b : List Int) : Nat := a.length + b.length - 2 * Lm a b
theorem dist_eq (a b : List Int) : (dist a b : Int) = a.length + b.length - 2 * (Lm a b : Int) := by
  have := L_le a b a.length b.length
  unfold dist Lm at *
  omega
theorem dist_min (a b : List Int) (d : Nat) (h : Rch a b d a.length b.length) : dist a b ≤ d := by
  have h1 := Rch_L h
  simp only [Int.toNat_natCast] at h1
  have h2 := dist_eq a b
  unfold Lm at h2
  omega
theorem dist_Rch (a b : List Int) : Rch a b (dist a b) a.length b.length := L_Rch a b a.length b.length (Nat.le_refl _) (Nat.le_refl _)

theorem found_Rch (a b : List Int) (d i : Nat) (hi : i ≤ d) (h : MM.Found a b d (2 * (i : Int) - d)) : Rch a b d a.length b.length ∧ 2 * (i : Int) - d = a.length - b.length := by
  obtain ⟨h1, h2⟩ := h
  rcases e_sound a b d (2 * (i : Int) - d) (by omega) (by omega) (by omega) with h3 | ⟨_, h3, _⟩
  · omega
  · rw [h2, h1] at h3
    exact ⟨h3, by omega⟩

/-- the end is found by dist edits, on one diagonal, and never before -/
theorem first_found (a b : List Int) : dist a b ≤ a.length + b.length ∧ ∃ j, j ≤ dist a b ∧ (∀ d, d < dist a b → ∀ i, i ≤ d → ¬ MM.Found a b d (2 * (i : Int) - d)) ∧
    (∀ i, i < j → ¬ MM.Found a b (dist a b) (2 * (i : Int) - dist a b)) ∧ MM.Found a b (dist a b) (2 * (j : Int) - dist a b) := by
  have hr := dist_Rch a b
  have hb := hr.bd
  refine ⟨by unfold dist; omega, (((dist a b : Int) + a.length - b.length) / 2).toNat, by omega, ?_, ?_, ?_⟩
  · intro d hd i hi hf
    have := dist_min a b d (found_Rch a b d i hi hf).1
    omega
  · intro i hi hf
    have := (found_Rch a b (dist a b) i (by omega) hf).2
    omega
  · have hk : 2 * (((((dist a b : Int) + a.length - b.length) / 2).toNat : Nat) : Int) - dist a b = a.length - b.length := by omega
    rw [hk]
    have hc := e_complete a b (dist a b) (fun d hd h => by have := dist_min a b d h; omega) (dist a b) (Nat.le_refl _) (dist a b) a.length b.length (Nat.le_refl _) (by omega) hr
    have he := e_bd a b (dist a b) ((a.length : Int) - b.length) (by omega) (by omega) (by omega)
    rcases hc with h | ⟨j, d', h1, h2, h3, _⟩ | ⟨j, d', h1, h2, h3, _⟩
    · exact ⟨by omega, by omega⟩
    · omega
    · omega

/-! ### going back -/
def beforeP (last : List Int) (d k x y : Int) : Int × Int := if 0 ≤ atP last d (k - 1) ∧ atP last d (k - 1) + 1 = x then (x - 1, y) else (x, y - 1)

theorem back_zero (a b : List Int) (x : Int) (hx : x = e a b 0 0) : 0 ≤ x ∧ ∀ i, 0 ≤ i → i < x → Eqs a b 0 i := by
  have he : e a b 0 0 = snake a b 0 0 := by
    unfold e ent reachP
    simp
  have hs := snake_spec a b 0 0
  rw [hx, he]
  exact ⟨hs.1, hs.2.2.2.2⟩

theorem back_step (a b : List Int) (d : Nat) (k x : Int) (h1 : -((d + 1 : Nat) : Int) ≤ k) (h2 : k ≤ (d + 1 : Nat)) (hp : (k + (d + 1 : Nat)) % 2 = 0) (hx : x = e a b (d + 1) k) (h0 : 0 ≤ x) (r : Int)
    (hr : reachP (rows a b d) ((d + 1 : Nat) : Int) k a.length b.length = r) (p : Int × Int) (hq : beforeP (rows a b d) ((d + 1 : Nat) : Int) k r (r - k) = p) :
    0 ≤ r ∧ r ≤ x ∧ 0 ≤ r - k ∧ (∀ i, r ≤ i → i < x → Eqs a b k i) ∧ 0 ≤ p.1 ∧ 0 ≤ p.2 ∧ p.1 ≤ r ∧ p.2 ≤ r - k ∧ p.1 + p.2 + 1 = r + (r - k) ∧
      -(d : Int) ≤ p.1 - p.2 ∧ p.1 - p.2 ≤ d ∧ (p.1 - p.2 + d) % 2 = 0 ∧ p.1 = e a b d (p.1 - p.2) := by
  have hen : e a b (d + 1) k = if r < 0 ∨ r - k < 0 then -1 else snake a b k r := by
    show ent a b (rows a b d) ((d + 1 : Nat) : Int) k = _
    unfold ent
    rw [hr]
  have hr0 : 0 ≤ r ∧ 0 ≤ r - k := by
    rw [hen] at hx
    split at hx <;> omega
  rw [if_neg (by omega)] at hen
  have hs := snake_spec a b k r
  rw [← hen, ← hx] at hs
  refine ⟨hr0.1, hs.1, hr0.2, hs.2.2.2.2, ?_⟩
  unfold reachP at hr
  rw [if_neg (by omega)] at hr
  simp only at hr
  unfold beforeP at hq
  have hA : ∀ q, 0 ≤ q → q = atP (rows a b d) ((d + 1 : Nat) : Int) (k - 1) → -(d : Int) ≤ k - 1 ∧ k - 1 ≤ d ∧ q = e a b d (k - 1) := by
    intro q hq0 hq
    by_cases hin : -(d : Int) ≤ k - 1 ∧ k - 1 ≤ d
    · rw [atP_rows a b d (k - 1) hin.1 hin.2 (by omega)] at hq
      exact ⟨hin.1, hin.2, hq⟩
    · rw [atP_out a b d (k - 1) (by omega)] at hq
      omega
  have hB : ∀ q, 0 ≤ q → q = atP (rows a b d) ((d + 1 : Nat) : Int) (k + 1) → -(d : Int) ≤ k + 1 ∧ k + 1 ≤ d ∧ q = e a b d (k + 1) := by
    intro q hq0 hq
    by_cases hin : -(d : Int) ≤ k + 1 ∧ k + 1 ≤ d
    · rw [atP_rows a b d (k + 1) hin.1 hin.2 (by omega)] at hq
      exact ⟨hin.1, hin.2, hq⟩
    · rw [atP_out a b d (k + 1) (by omega)] at hq
      omega
  generalize atP (rows a b d) ((d + 1 : Nat) : Int) (k - 1) = x0 at *
  generalize atP (rows a b d) ((d + 1 : Nat) : Int) (k + 1) = i0 at *
  by_cases hc : 0 ≤ x0 ∧ x0 + 1 = r
  · rw [if_pos hc] at hq
    subst hq
    obtain ⟨g1, g2, g3⟩ := hA x0 hc.1 rfl
    dsimp only
    have hk : r - 1 - (r - k) = k - 1 := by omega
    rw [hk]
    refine ⟨by omega, by omega, by omega, by omega, by omega, by omega, by omega, by omega, by omega⟩
  · rw [if_neg hc] at hq
    subst hq
    have hi : r = i0 := by
      (repeat' split at hr) <;> omega
    obtain ⟨g1, g2, g3⟩ := hB i0 (by omega) rfl
    dsimp only
    have hk : r - (r - k - 1) = k + 1 := by omega
    rw [hk]
    have hy : 0 ≤ r - k - 1 := by
      rcases e_sound a b d (k + 1) (by omega) (by omega) (by omega) with h3 | ⟨_, h3, _⟩
      · omega
      · have := h3.bd; omega
    refine ⟨by omega, by omega, by omega, by omega, by omega, by omega, by omega, by omega, by omega⟩

/-! ### matchings -/
def Inn (a b : List Int) (i j : Int) (p : Int × Int) : Prop := 0 ≤ p.1 ∧ p.1 < i ∧ 0 ≤ p.2 ∧ p.2 < j ∧ a.getD p.1.toNat 0 = b.getD p.2.toNat 0
def Mt (a b : List Int) (ps : List (Int × Int)) : Prop := ps.Pairwise (fun p q => p.1 < q.1 ∧ p.2 < q.2) ∧ ∀ p ∈ ps, Inn a b a.length b.length p

/-- a matching told from its end -/
theorem dn_L (a b : List Int) : ∀ (s i j : Nat), i + j = s → ∀ qs : List (Int × Int), qs.Pairwise (fun p q => q.1 < p.1 ∧ q.2 < p.2) → (∀ p ∈ qs, Inn a b i j p) → qs.length ≤ L a b i j := by
  intro s
  induction s using Nat.strongRecOn with
  | _ s IH =>
    intro i j hs qs hp hin
    match qs, hp, hin with
    | [], _, _ => simp
    | q :: r, hp, hin =>
      have hq := hin q (by simp)
      obtain ⟨q1, q2, q3, q4, q5⟩ := hq
      rw [List.pairwise_cons] at hp
      obtain ⟨i', rfl⟩ : ∃ i', i = i' + 1 := ⟨i - 1, by omega⟩
      obtain ⟨j', rfl⟩ : ∃ j', j = j' + 1 := ⟨j - 1, by omega⟩
      by_cases c1 : q.1 < i'
      · have := IH (i' + (j' + 1)) (by omega) i' (j' + 1) rfl (q :: r) (List.pairwise_cons.2 hp) (fun p hpm => by
          obtain ⟨p1, p2, p3, p4, p5⟩ := hin p hpm
          rcases List.mem_cons.1 hpm with rfl | hm
          · exact ⟨p1, c1, p3, p4, p5⟩
          · exact ⟨p1, by have := (hp.1 p hm).1; omega, p3, p4, p5⟩)
        have := L_A a b i' (j' + 1)
        omega
      by_cases c2 : q.2 < j'
      · have := IH ((i' + 1) + j') (by omega) (i' + 1) j' rfl (q :: r) (List.pairwise_cons.2 hp) (fun p hpm => by
          obtain ⟨p1, p2, p3, p4, p5⟩ := hin p hpm
          rcases List.mem_cons.1 hpm with rfl | hm
          · exact ⟨p1, p2, p3, c2, p5⟩
          · exact ⟨p1, p2, p3, by have := (hp.1 p hm).2; omega, p5⟩)
        have := L_B a b (i' + 1) j'
        omega
      · have := IH (i' + j') (by omega) i' j' rfl r hp.2 (fun p hpm => by
          obtain ⟨p1, p2, p3, p4, p5⟩ := hin p (by simp [hpm])
          have h := hp.1 p hpm
          exact ⟨p1, by omega, p3, by omega, p5⟩)
        rw [L_succ, if_pos (by rw [show q.1.toNat = i' from by omega, show q.2.toNat = j' from by omega] at q5; exact q5)]
        simp only [List.length_cons]
        omega
theorem Mt_L {a b : List Int} {ps : List (Int × Int)} (h : Mt a b ps) : ps.length ≤ Lm a b := by
  have := dn_L a b _ a.length b.length rfl ps.reverse (List.pairwise_reverse.2 h.1) (fun p hp => h.2 p (List.mem_reverse.1 hp))
  unfold Lm
  simpa using this
theorem L_dn (a b : List Int) : ∀ (i j : Nat), ∃ qs : List (Int × Int), qs.Pairwise (fun p q => q.1 < p.1 ∧ q.2 < p.2) ∧ (∀ p ∈ qs, Inn a b i j p) ∧ qs.length = L a b i j
  | 0, j => ⟨[], by simp, by simp, by simp [L]⟩
  | i + 1, 0 => ⟨[], by simp, by simp, by rw [L_zero]; rfl⟩
  | i + 1, j + 1 => by
    by_cases heq : a.getD i 0 = b.getD j 0
    · obtain ⟨qs, h1, h2, h3⟩ := L_dn a b i j
      refine ⟨((i : Int), (j : Int)) :: qs, List.pairwise_cons.2 ⟨fun p hp => ?_, h1⟩, fun p hp => ?_, ?_⟩
      · obtain ⟨p1, p2, p3, p4, _⟩ := h2 p hp
        exact ⟨p2, p4⟩
      · rcases List.mem_cons.1 hp with rfl | hm
        · exact ⟨by simp, by simp; omega, by simp, by simp; omega, by simpa using heq⟩
        · obtain ⟨p1, p2, p3, p4, p5⟩ := h2 p hm
          exact ⟨p1, by omega, p3, by omega, p5⟩
      · rw [L_succ, if_pos heq, List.length_cons, h3]
    · have hL := L_succ a b i j
      rw [if_neg heq] at hL
      by_cases hm : L a b i (j + 1) ≤ L a b (i + 1) j
      · obtain ⟨qs, h1, h2, h3⟩ := L_dn a b (i + 1) j
        exact ⟨qs, h1, fun p hp => by obtain ⟨p1, p2, p3, p4, p5⟩ := h2 p hp; exact ⟨p1, p2, p3, by omega, p5⟩, by omega⟩
      · obtain ⟨qs, h1, h2, h3⟩ := L_dn a b i (j + 1)
        exact ⟨qs, h1, fun p hp => by obtain ⟨p1, p2, p3, p4, p5⟩ := h2 p hp; exact ⟨p1, by omega, p3, p4, p5⟩, by omega⟩
  termination_by i j => i + j
theorem L_Mt (a b : List Int) : ∃ ps, Mt a b ps ∧ ps.length = Lm a b := by
  obtain ⟨qs, h1, h2, h3⟩ := L_dn a b a.length b.length
  exact ⟨qs.reverse, ⟨List.pairwise_reverse.2 h1, fun p hp => h2 p (List.mem_reverse.1 hp)⟩, by unfold Lm; simpa using h3⟩

/-! ### what Check looks at -/
def InR (a b : List Int) (p : Int × Int) : Prop := 0 ≤ p.1 ∧ p.1 < a.length ∧ 0 ≤ p.2 ∧ p.2 < b.length
instance (a b : List Int) (p : Int × Int) : Decidable (InR a b p) := by unfold InR; infer_instance
def OkAt (a b : List Int) (ps : List (Int × Int)) (i : Nat) : Prop :=
  a.getD (ps.getD i (0, 0)).1.toNat 0 = b.getD (ps.getD i (0, 0)).2.toNat 0 ∧ (i = 0 ∨ ((ps.getD (i - 1) (0, 0)).1 < (ps.getD i (0, 0)).1 ∧ (ps.getD (i - 1) (0, 0)).2 < (ps.getD i (0, 0)).2))
instance (a b : List Int) (ps : List (Int × Int)) (i : Nat) : Decidable (OkAt a b ps i) := by unfold OkAt; infer_instance
def chk (a b : List Int) (ps : List (Int × Int)) : Nat :=
  if ∃ i, i < ps.length ∧ ¬ InR a b (ps.getD i (0, 0)) then 12 else if ∃ i, i < ps.length ∧ ¬ OkAt a b ps i then 9 else 0
theorem chk_le (a b : List Int) (ps : List (Int × Int)) : chk a b ps ≤ 19 := by unfold chk; (repeat' split) <;> omega
theorem chk_12 {a b : List Int} {ps : List (Int × Int)} (i : Nat) (hi : i < ps.length) (h : ¬ InR a b (ps.getD i (0, 0))) : chk a b ps = 12 := if_pos ⟨i, hi, h⟩
theorem chk_9 {a b : List Int} {ps : List (Int × Int)} (hr : ∀ i, i < ps.length → InR a b (ps.getD i (0, 0))) (i : Nat) (hi : i < ps.length) (h : ¬ OkAt a b ps i) : chk a b ps = 9 := by
  unfold chk
  rw [if_neg (by rintro ⟨j, hj, h⟩; exact h (hr j hj)), if_pos ⟨i, hi, h⟩]
theorem chk_0 {a b : List Int} {ps : List (Int × Int)} (hr : ∀ i, i < ps.length → InR a b (ps.getD i (0, 0))) (ho : ∀ i, i < ps.length → OkAt a b ps i) : chk a b ps = 0 := by
  unfold chk
  rw [if_neg (by rintro ⟨j, hj, h⟩; exact h (hr j hj)), if_neg (by rintro ⟨j, hj, h⟩; exact h (ho j hj))]
theorem Mt_chk {a b : List Int} {ps : List (Int × Int)} (h : Mt a b ps) : chk a b ps = 0 := by
  have hg : ∀ i, i < ps.length → Inn a b a.length b.length (ps.getD i (0, 0)) := fun i hi => by
    rw [List.getD_eq_getElem?_getD, List.getElem?_eq_getElem hi]
    exact h.2 _ (List.getElem_mem hi)
  refine chk_0 (fun i hi => ?_) (fun i hi => ?_)
  · obtain ⟨p1, p2, p3, p4, _⟩ := hg i hi
    exact ⟨p1, p2, p3, p4⟩
  · refine ⟨(hg i hi).2.2.2.2, ?_⟩
    by_cases h0 : i = 0
    · exact .inl h0
    · right
      have := List.pairwise_iff_getElem.1 h.1 (i - 1) i (by omega) hi (by omega)
      simpa [List.getD_eq_getElem?_getD, List.getElem?_eq_getElem hi, List.getElem?_eq_getElem (show i - 1 < ps.length by omega)] using this
end Go.Proofs.YtmhkeojbjliieaaDoor.MM
namespace Go.Proofs.YtmhkeojbjliieaaDoor.MM
theorem back (a b : List Int) (d x y : Int) (hd : 0 < d) (h1 : -d ≤ x - y) (h2 : x - y ≤ d) (hp : (x - y + d) % 2 = 0) (hx : x = e a b d.toNat (x - y)) (h0 : 0 ≤ x) (r : Int)
    (hr : reachP (rows a b (d - 1).toNat) d (x - y) a.length b.length = r) :
    0 ≤ r ∧ r ≤ x ∧ 0 ≤ r - (x - y) ∧ (∀ i, r ≤ i → i < x → Eqs a b (x - y) i) ∧ ∀ p : Int × Int, beforeP (rows a b (d - 1).toNat) d (x - y) r (r - (x - y)) = p → 0 ≤ p.1 ∧ 0 ≤ p.2 ∧ p.1 ≤ r ∧ p.2 ≤ r - (x - y) ∧ p.1 + p.2 + 1 = r + (r - (x - y)) ∧
      -(d - 1) ≤ p.1 - p.2 ∧ p.1 - p.2 ≤ d - 1 ∧ (p.1 - p.2 + (d - 1)) % 2 = 0 ∧ p.1 = e a b (d - 1).toNat (p.1 - p.2) := by
  obtain ⟨q, rfl⟩ : ∃ q : Nat, d = ((q + 1 : Nat) : Int) := ⟨(d - 1).toNat, by omega⟩
  have e1 : (((q + 1 : Nat) : Int) - 1).toNat = q := by omega
  have e2 : (((q + 1 : Nat) : Int)).toNat = q + 1 := by omega
  rw [e1] at hr ⊢
  rw [e2] at hx
  have hs := fun p hq => back_step a b q (x - y) x (by omega) (by omega) (by omega) hx h0 r hr p hq
  obtain ⟨g1, g2, g3, g4, _⟩ := hs _ rfl
  refine ⟨g1, g2, g3, g4, fun p hq => ?_⟩
  obtain ⟨_, _, _, _, k1, k2, k3, k4, k5, k6, k7, k8, k9⟩ := hs p hq
  exact ⟨k1, k2, k3, k4, k5, by omega, by omega, by omega, k9⟩

/-- what has been put out on the way back -/
def Bk (a b : List Int) (x y : Int) (ps : List (Int × Int)) : Prop := ps.Pairwise (fun p q => q.1 < p.1 ∧ q.2 < p.2) ∧ ∀ p ∈ ps, Inn a b a.length b.length p ∧ x ≤ p.1 ∧ y ≤ p.2
theorem Bk_nil (a b : List Int) (x y : Int) : Bk a b x y [] := ⟨by simp, by simp⟩
theorem Bk_mono {a b : List Int} {x y x' y' : Int} {ps : List (Int × Int)} (h : Bk a b x y ps) (hx : x' ≤ x) (hy : y' ≤ y) : Bk a b x' y' ps := ⟨h.1, fun p hp => by obtain ⟨h1, h2, h3⟩ := h.2 p hp; exact ⟨h1, by omega, by omega⟩⟩
theorem Bk_push {a b : List Int} {k x y : Int} {ps : List (Int × Int)} (h : Bk a b x y ps) (hk : k = x - y) (hE : Eqs a b k (x - 1)) (hx : 1 ≤ x) (hy : 1 ≤ y) : Bk a b (x - 1) (y - 1) (ps ++ [(x - 1, y - 1)]) := by
  obtain ⟨e1, e2, e3⟩ := hE
  refine ⟨List.pairwise_append.2 ⟨h.1, by simp, fun p hp q hq => ?_⟩, fun p hp => ?_⟩
  · obtain ⟨_, h2, h3⟩ := h.2 p hp
    obtain rfl : q = (x - 1, y - 1) := by simpa using hq
    exact ⟨by dsimp only; omega, by dsimp only; omega⟩
  · rcases List.mem_append.1 hp with hm | hm
    · obtain ⟨h1, h2, h3⟩ := h.2 p hm
      exact ⟨h1, by omega, by omega⟩
    · obtain rfl : p = (x - 1, y - 1) := by simpa using hm
      refine ⟨⟨by dsimp only; omega, by dsimp only; omega, by dsimp only; omega, by dsimp only; omega, ?_⟩, by dsimp only; omega, by dsimp only; omega⟩
      rw [show x - 1 - k = y - 1 from by omega] at e3
      exact e3
theorem Bk_Mt {a b : List Int} {x y : Int} {ps : List (Int × Int)} (h : Bk a b x y ps) : Mt a b ps.reverse := ⟨List.pairwise_reverse.2 h.1, fun p hp => (h.2 p (List.mem_reverse.1 hp)).1⟩

/-- a list after i exchanges from both its ends -/
def revU {α : Type} (z : α) (ps : List α) : Nat → List α
  | 0 => ps
  | i + 1 => ((revU z ps i).set i ((revU z ps i).getD (ps.length - 1 - i) z)).set (ps.length - 1 - i) ((revU z ps i).getD i z)
theorem revU_length {α : Type} (z : α) (ps : List α) : ∀ i, (revU z ps i).length = ps.length
  | 0 => rfl
  | i + 1 => by simp [revU, revU_length z ps i]
theorem revU_get {α : Type} (z : α) (ps : List α) : ∀ i, 2 * i ≤ ps.length → ∀ k, k < ps.length → (revU z ps i).getD k z = if k < i ∨ ps.length ≤ k + i then ps.getD (ps.length - 1 - k) z else ps.getD k z
  | 0, _, k, hk => by rw [if_neg (by omega)]; rfl
  | i + 1, hi, k, hk => by
    have ih := revU_get z ps i (by omega)
    have hl := revU_length z ps i
    simp only [revU, List.getD_eq_getElem?_getD, List.getElem?_set, List.length_set, hl]
    simp only [List.getD_eq_getElem?_getD] at ih
    by_cases c1 : ps.length - 1 - i = k
    · rw [if_pos c1, if_pos (by omega)]
      simp only [Option.getD_some]
      rw [ih i (by omega), if_neg (by omega), if_pos (by omega)]
      congr 2; omega
    · rw [if_neg c1]
      by_cases c2 : i = k
      · rw [if_pos c2, if_pos (by omega)]
        simp only [Option.getD_some]
        rw [ih _ (by omega), if_neg (by omega), if_pos (by omega)]
        congr 2; omega
      · rw [if_neg c2, ih k hk]
        by_cases c3 : k < i ∨ ps.length ≤ k + i
        · rw [if_pos c3, if_pos (by omega)]
        · rw [if_neg c3, if_neg (by omega)]
theorem revU_done {α : Type} (z : α) (ps : List α) (i : Nat) (h1 : 2 * i ≤ ps.length) (h2 : ps.length ≤ 2 * i + 1) : revU z ps i = ps.reverse := by
  refine List.ext_getElem (by rw [revU_length, List.length_reverse]) fun k hk hk' => ?_
  have hk2 : k < ps.length := by rw [revU_length] at hk; exact hk
  have := revU_get z ps i h1 k hk2
  rw [List.getElem_reverse]
  simp only [List.getD_eq_getElem?_getD, List.getElem?_eq_getElem hk, Option.getD_some, List.getElem?_eq_getElem hk2, List.getElem?_eq_getElem (show ps.length - 1 - k < ps.length by omega)] at this
  rw [this]
  split
  · rfl
  · congr 1; omega
end Go.Proofs.YtmhkeojbjliieaaDoor.MM
namespace Go.Proofs.YtmhkeojbjliieaaDoor.MM
def trow (a b : List Int) (i : Nat) : List Int := (List.range (b.length + 1)).map fun q => (L a b i q : Int)
def tpart (a b : List Int) (i j : Nat) : List Int := (List.range (b.length + 1)).map fun q => if q ≤ j then (L a b (i + 1) q : Int) else 0
theorem trow_zero (a b : List Int) : trow a b 0 = List.replicate (b.length + 1) 0 := by
  refine List.ext_getElem (by simp [trow]) fun k h1 h2 => ?_
  simp [trow, L]
theorem tpart_zero (a b : List Int) (i : Nat) : tpart a b i 0 = List.replicate (b.length + 1) 0 := by
  refine List.ext_getElem (by simp [tpart]) fun k h1 h2 => ?_
  simp only [tpart, List.getElem_map, List.getElem_range, List.getElem_replicate]
  split
  · rw [show k = 0 from by omega, L_zero]; rfl
  · rfl
theorem tpart_done (a b : List Int) (i : Nat) : tpart a b i b.length = trow a b (i + 1) := by
  refine List.ext_getElem (by simp [tpart, trow]) fun k h1 h2 => ?_
  have : k < b.length + 1 := by simpa [tpart] using h1
  simp only [tpart, trow, List.getElem_map, List.getElem_range]
  rw [if_pos (by omega)]
theorem trow_get (a b : List Int) (i j : Nat) (hj : j ≤ b.length) : (trow a b i).getD j 0 = (L a b i j : Int) := by
  rw [List.getD_eq_getElem?_getD, List.getElem?_eq_getElem (by simp [trow]; omega)]
  simp [trow]
theorem tpart_get (a b : List Int) (i j q : Nat) (hq : q ≤ b.length) (hqj : q ≤ j) : (tpart a b i j).getD q 0 = (L a b (i + 1) q : Int) := by
  rw [List.getD_eq_getElem?_getD, List.getElem?_eq_getElem (by simp [tpart]; omega)]
  simp [tpart, hqj]
theorem tpart_set (a b : List Int) (i j : Nat) (hj : j < b.length) (v : Int) (hv : v = (L a b (i + 1) (j + 1) : Int)) : (tpart a b i j).set (j + 1) v = tpart a b i (j + 1) := by
  refine List.ext_getElem (by simp [tpart]) fun k h1 h2 => ?_
  simp only [tpart, List.getElem_set, List.getElem_map, List.getElem_range]
  by_cases c : j + 1 = k
  · subst c
    rw [if_pos rfl, if_pos (Nat.le_refl _), hv]
  · rw [if_neg c]
    by_cases c2 : k ≤ j
    · rw [if_pos c2, if_pos (by omega)]
    · rw [if_neg c2, if_neg (by omega)]
theorem rev_snoc (xs : List Int) (k : Nat) (hk : k < xs.length) : (xs.drop (k + 1)).reverse ++ [xs.getD k 0] = (xs.drop k).reverse := by
  rw [List.drop_eq_getElem_cons hk, List.reverse_cons, List.getD_eq_getElem?_getD, List.getElem?_eq_getElem hk]
  rfl
end Go.Proofs.YtmhkeojbjliieaaDoor.MM
