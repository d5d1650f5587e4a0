/- Myers' way of comparing two lists, over lists and numbers alone: rows of furthest places, and what they tell. No condition beyond each lemma's own. -/
import Derived.Below
set_option linter.unusedVariables false
set_option linter.unusedSimpArgs false
namespace Go.Proofs.YtmhkeojbjliieaaDoor.MM

/-- the furthest place on diagonal k in a row of one edit less -/
def atP (xs : List Int) (d k : Int) : Int := if 0 ≤ k + d - 1 ∧ k + d - 1 < xs.length then xs.getD ((k + d).toNat - 1) 0 else -1

theorem atP_bd (xs : List Int) (d k B : Int) (hB : 0 ≤ B) (hv : ∀ j, j < xs.length → -1 ≤ xs.getD j 0 ∧ xs.getD j 0 ≤ B) : -1 ≤ atP xs d k ∧ atP xs d k ≤ B := by
  unfold atP
  split
  · exact hv _ (by omega)
  · omega

def reachP (xs : List Int) (d k n m : Int) : Int :=
  if d = 0 then 0 else
  let i := atP xs d (k + 1)
  let x := atP xs d (k - 1)
  let o := if 0 ≤ x then x + 1 else -1
  let i' := if 0 ≤ i ∧ m < i - k then -1 else i
  let o' := if n < o then -1 else o
  max i' o'

/-- one step of a snake is possible -/
def Eqs (a b : List Int) (k x : Int) : Prop := x < a.length ∧ x - k < b.length ∧ a.getD x.toNat 0 = b.getD (x - k).toNat 0
instance (a b : List Int) (k x : Int) : Decidable (Eqs a b k x) := by unfold Eqs; infer_instance

def snk (a b : List Int) (k : Int) : Nat → Int → Int
  | 0, x => x
  | f + 1, x => if Eqs a b k x then snk a b k f (x + 1) else x

def snake (a b : List Int) (k x : Int) : Int := snk a b k (a.length - x).toNat x

theorem snake_step (a b : List Int) (k x : Int) (h : Eqs a b k x) : snake a b k x = snake a b k (x + 1) := by
  have h1 : x < a.length := h.1
  unfold snake
  rw [show ((a.length : Int) - x).toNat = ((a.length : Int) - (x + 1)).toNat + 1 from by omega]
  simp only [snk]
  rw [if_pos h]

theorem snake_stop (a b : List Int) (k x : Int) (h : ¬ Eqs a b k x) : snake a b k x = x := by
  unfold snake
  cases hf : ((a.length : Int) - x).toNat with
  | zero => rfl
  | succ f => simp only [snk]; rw [if_neg h]

theorem snk_spec (a b : List Int) (k : Int) : ∀ (f : Nat) (x : Int), (a.length : Int) - x ≤ f → x ≤ snk a b k f x ∧ (x ≤ a.length → snk a b k f x ≤ a.length) ∧
    (x - k ≤ b.length → snk a b k f x - k ≤ b.length) ∧ ¬ Eqs a b k (snk a b k f x) ∧ ∀ y, x ≤ y → y < snk a b k f x → Eqs a b k y
  | 0, x, hf => by
    simp only [snk]
    exact ⟨by omega, fun h => h, fun h => h, fun h => by have := h.1; omega, fun y h1 h2 => by omega⟩
  | f + 1, x, hf => by
    simp only [snk]
    by_cases h : Eqs a b k x
    · rw [if_pos h]
      obtain ⟨h1, h2, h3, h4, h5⟩ := snk_spec a b k f (x + 1) (by omega)
      have ha := h.1
      have hb := h.2.1
      refine ⟨by omega, fun _ => h2 (by omega), fun _ => h3 (by omega), h4, fun y hy1 hy2 => ?_⟩
      by_cases e : y = x
      · subst e; exact h
      · exact h5 y (by omega) hy2
    · rw [if_neg h]
      exact ⟨by omega, fun h => h, fun h => h, h, fun y h1 h2 => by omega⟩

theorem snake_spec (a b : List Int) (k x : Int) : x ≤ snake a b k x ∧ (x ≤ a.length → snake a b k x ≤ a.length) ∧
    (x - k ≤ b.length → snake a b k x - k ≤ b.length) ∧ ¬ Eqs a b k (snake a b k x) ∧ ∀ y, x ≤ y → y < snake a b k x → Eqs a b k y :=
  snk_spec a b k _ x (by omega)

/-- the entry of diagonal k by d edits -/
def ent (a b last : List Int) (d k : Int) : Int :=
  let x := reachP last d k a.length b.length
  if x < 0 ∨ x - k < 0 then -1 else snake a b k x

/-- the row after j of the diagonals -d, -d + 2, .. -/
def rowU (a b last : List Int) (d j : Nat) : List Int :=
  (List.range (2 * d + 1)).map fun i => if i % 2 = 0 ∧ i / 2 < j then ent a b last d ((i : Int) - d) else -1

theorem rowU_length (a b last : List Int) (d j : Nat) : (rowU a b last d j).length = 2 * d + 1 := by simp [rowU]

theorem rowU_get (a b last : List Int) (d j i : Nat) (hi : i < 2 * d + 1) : (rowU a b last d j).getD i 0 = if i % 2 = 0 ∧ i / 2 < j then ent a b last d ((i : Int) - d) else -1 := by
  simp [rowU, List.getD_eq_getElem?_getD, hi]

theorem rowU_zero (a b last : List Int) (d : Nat) : rowU a b last d 0 = List.replicate (2 * d + 1) (-1) := by
  apply List.ext_getElem
  · simp [rowU]
  · intro i h1 h2
    simp [rowU]

theorem rowU_set (a b last : List Int) (d j : Nat) (_hj : j ≤ d) (v : Int) (hv : v = ent a b last d (2 * (j : Int) - d)) :
    (rowU a b last d j).set (2 * j) v = rowU a b last d (j + 1) := by
  subst hv
  apply List.ext_getElem
  · simp [rowU]
  · intro i h1 h2
    have hi : i < 2 * d + 1 := by simpa [rowU] using h2
    rw [List.getElem_set]
    by_cases e : 2 * j = i
    · rw [if_pos e]
      subst e
      simp only [rowU, List.getElem_map, List.getElem_range]
      rw [if_pos ⟨by omega, by omega⟩]
      congr 1
    · rw [if_neg e]
      simp only [rowU, List.getElem_map, List.getElem_range]
      by_cases h : i % 2 = 0 ∧ i / 2 < j
      · rw [if_pos h, if_pos ⟨h.1, by omega⟩]
      · rw [if_neg h, if_neg (by omega)]

theorem rowU_skip (a b last : List Int) (d j : Nat) (hj : j ≤ d) (h : ent a b last d (2 * (j : Int) - d) = -1) : rowU a b last d (j + 1) = rowU a b last d j := by
  have e := rowU_set a b last d j hj (-1) h.symm
  rw [← e]
  apply List.ext_getElem
  · simp
  · intro i h1 h2
    rw [List.getElem_set]
    split
    · rename_i e
      subst e
      simp only [rowU, List.getElem_map, List.getElem_range]
      rw [if_neg (by omega)]
    · rfl

/-- the row of d edits, all diagonals -/
def rows (a b : List Int) : Nat → List Int
  | 0 => rowU a b [] 0 1
  | d + 1 => rowU a b (rows a b d) (d + 1) (d + 2)

def lastOf (a b : List Int) : Nat → List Int
  | 0 => []
  | d + 1 => rows a b d

theorem rows_eq (a b : List Int) (d : Nat) : rows a b d = rowU a b (lastOf a b d) d (d + 1) := by cases d <;> rfl
theorem rows_length (a b : List Int) (d : Nat) : (rows a b d).length = 2 * d + 1 := by rw [rows_eq, rowU_length]

/-- the entry of diagonal k in the row of d edits -/
def e (a b : List Int) (d : Nat) (k : Int) : Int := ent a b (lastOf a b d) d k

/-- both lists have been gone through -/
def Found (a b : List Int) (d : Nat) (k : Int) : Prop := e a b d k = a.length ∧ e a b d k - k = b.length

/-! ### what entries are -/

/-- (x, y) is come to by just d edits -/
inductive Rch (a b : List Int) : Nat → Int → Int → Prop
  | zero : Rch a b 0 0 0
  | diag {d x y} : Rch a b d x y → x < a.length → y < b.length → a.getD x.toNat 0 = b.getD y.toNat 0 → Rch a b d (x + 1) (y + 1)
  | right {d x y} : Rch a b d x y → x < a.length → Rch a b (d + 1) (x + 1) y
  | down {d x y} : Rch a b d x y → y < b.length → Rch a b (d + 1) x (y + 1)

theorem Rch.bd {a b : List Int} {d : Nat} {x y : Int} (h : Rch a b d x y) : 0 ≤ x ∧ x ≤ a.length ∧ 0 ≤ y ∧ y ≤ b.length ∧ x - y ≤ d ∧ y - x ≤ d ∧ (x - y + d) % 2 = 0 ∧ (d : Int) ≤ x + y := by
  induction h with
  | zero => simp
  | diag _ h1 h2 _ ih => omega
  | right _ h1 ih => omega
  | down _ h1 ih => omega

theorem Rch.run {a b : List Int} {d : Nat} {k x z : Int} (h : Rch a b d x (x - k)) (hz : x ≤ z) (hE : ∀ y, x ≤ y → y < z → Eqs a b k y) : Rch a b d z (z - k) := by
  obtain ⟨n, hn⟩ : ∃ n : Nat, z = x + n := ⟨(z - x).toNat, by omega⟩
  subst hn
  clear hz
  induction n with
  | zero => simpa using h
  | succ n ih =>
    have h1 := ih (fun y h1 h2 => hE y h1 (by omega))
    have h2 := hE (x + n) (by omega) (by omega)
    have h3 := Rch.diag h1 h2.1 h2.2.1 (by have := h2.2.2; rw [show x + (n : Int) - k = x + n - k from rfl]; exact this)
    have e1 : x + ((n + 1 : Nat) : Int) = x + n + 1 := by omega
    rw [e1, show x + (n : Int) + 1 - k = x + n - k + 1 from by omega]
    exact h3

theorem atP_rows (a b : List Int) (d : Nat) (k : Int) (h1 : -(d : Int) ≤ k) (h2 : k ≤ d) (hp : (k + d) % 2 = 0) : atP (rows a b d) ((d + 1 : Nat) : Int) k = e a b d k := by
  unfold atP
  rw [rows_length, if_pos (by omega), rows_eq, rowU_get _ _ _ _ _ _ (by omega), if_pos (by omega)]
  unfold e
  congr 1
  omega

theorem atP_out (a b : List Int) (d : Nat) (k : Int) (h : k < -(d : Int) ∨ (d : Int) < k) : atP (rows a b d) ((d + 1 : Nat) : Int) k = -1 := by
  unfold atP
  rw [rows_length, if_neg (by omega)]

/-- what a row gives to the next -/
theorem e_reach (a b : List Int) (d : Nat) (IH : ∀ (k : Int), -(d : Int) ≤ k → k ≤ d → (k + d) % 2 = 0 → e a b d k = -1 ∨ (0 ≤ e a b d k ∧ Rch a b d (e a b d k) (e a b d k - k) ∧ ¬ Eqs a b k (e a b d k)))
    (k : Int) (_h1 : -((d + 1 : Nat) : Int) ≤ k) (_h2 : k ≤ (d + 1 : Nat)) (hp : (k + (d + 1 : Nat)) % 2 = 0) : ∀ r, r = reachP (rows a b d) ((d + 1 : Nat) : Int) k a.length b.length → 0 ≤ r → Rch a b (d + 1) r (r - k) := by
  intro r hr h0
  unfold reachP at hr
  rw [if_neg (by omega)] at hr
  simp only at hr
  have hin : ∀ i, i = atP (rows a b d) ((d + 1 : Nat) : Int) (k + 1) → 0 ≤ i → i - k ≤ b.length → Rch a b (d + 1) i (i - k) := by
    intro i hi h0 hb
    by_cases hk : k + 1 ≤ d ∧ -(d : Int) ≤ k + 1
    · rw [atP_rows a b d (k + 1) hk.2 hk.1 (by omega)] at hi
      rcases IH (k + 1) hk.2 hk.1 (by omega) with h | ⟨_, h, _⟩
      · omega
      · rw [← hi] at h
        have h3 := Rch.down h (by omega)
        rwa [show i - (k + 1) + 1 = i - k from by omega] at h3
    · rw [atP_out a b d (k + 1) (by omega)] at hi
      omega
  have hout : ∀ x, x = atP (rows a b d) ((d + 1 : Nat) : Int) (k - 1) → 0 ≤ x → x + 1 ≤ a.length → Rch a b (d + 1) (x + 1) (x + 1 - k) := by
    intro x hx h0 hb
    by_cases hk : k - 1 ≤ d ∧ -(d : Int) ≤ k - 1
    · rw [atP_rows a b d (k - 1) hk.2 hk.1 (by omega)] at hx
      rcases IH (k - 1) hk.2 hk.1 (by omega) with h | ⟨_, h, _⟩
      · omega
      · rw [← hx] at h
        have h3 := Rch.right h (by omega)
        rwa [show x - (k - 1) = x + 1 - k from by omega] at h3
    · rw [atP_out a b d (k - 1) (by omega)] at hx
      omega
  generalize atP (rows a b d) ((d + 1 : Nat) : Int) (k + 1) = i at *
  generalize atP (rows a b d) ((d + 1 : Nat) : Int) (k - 1) = x at *
  have hin := hin i rfl
  have hout := hout x rfl
  generalize hi' : (if 0 ≤ i ∧ (b.length : Int) < i - k then -1 else i) = i' at hr
  generalize ho : (if 0 ≤ x then x + 1 else -1) = o at hr
  generalize ho' : (if (a.length : Int) < o then -1 else o) = o' at hr
  have hmax : r = i' ∨ r = o' := by omega
  rcases hmax with h | h
  · split at hi'
    · omega
    · have : r = i := by omega
      rw [this]
      exact hin (by omega) (by omega)
  · split at ho'
    · omega
    · split at ho
      · have : r = x + 1 := by omega
        rw [this]
        exact hout (by omega) (by omega)
      · omega

/-- an entry is -1, or a place that d edits come to, where the snake ends -/
theorem e_sound (a b : List Int) : ∀ (d : Nat) (k : Int), -(d : Int) ≤ k → k ≤ d → (k + d) % 2 = 0 → e a b d k = -1 ∨ (0 ≤ e a b d k ∧ Rch a b d (e a b d k) (e a b d k - k) ∧ ¬ Eqs a b k (e a b d k))
  | 0, k, h1, h2, _ => by
    obtain rfl : k = 0 := by omega
    right
    have hs := snake_spec a b 0 0
    have he : e a b 0 0 = snake a b 0 0 := by
      unfold e ent reachP
      simp
    rw [he]
    refine ⟨hs.1, ?_, hs.2.2.2.1⟩
    exact Rch.run (x := 0) (by simpa using Rch.zero) hs.1 hs.2.2.2.2
  | d + 1, k, h1, h2, hp => by
    have IH := e_sound a b d
    have hs := snake_spec a b k (reachP (rows a b d) ((d + 1 : Nat) : Int) k a.length b.length)
    have key := e_reach a b d IH k h1 h2 hp
    have he : e a b (d + 1) k = ent a b (rows a b d) ((d + 1 : Nat) : Int) k := rfl
    rw [he]
    unfold ent
    simp only
    split
    · exact .inl rfl
    · right
      have hr := key _ rfl (by omega)
      exact ⟨by omega, hr.run hs.1 hs.2.2.2.2, hs.2.2.2.1⟩

theorem e_bd (a b : List Int) (d : Nat) (k : Int) (h1 : -(d : Int) ≤ k) (h2 : k ≤ d) (hp : (k + d) % 2 = 0) : -1 ≤ e a b d k ∧ e a b d k ≤ a.length := by
  rcases e_sound a b d k h1 h2 hp with h | ⟨h, hr, _⟩
  · omega
  · have := hr.bd; omega

/-- what the row of one edit less gives: in (from diagonal k + 1) -/
theorem e_in (a b : List Int) (d : Nat) (k : Int) (h1 : -(d : Int) ≤ k + 1) (h2 : k + 1 ≤ d) (hp : (k + 1 + d) % 2 = 0) (h0 : 0 ≤ e a b d (k + 1)) (hb : e a b d (k + 1) - k ≤ b.length) :
    e a b d (k + 1) ≤ e a b (d + 1) k := by
  have hs := snake_spec a b k (reachP (rows a b d) ((d + 1 : Nat) : Int) k a.length b.length)
  rcases e_sound a b d (k + 1) h1 h2 hp with h | ⟨_, hr, _⟩
  · omega
  have hbd := hr.bd
  have hge : e a b d (k + 1) ≤ reachP (rows a b d) ((d + 1 : Nat) : Int) k a.length b.length := by
    unfold reachP
    rw [if_neg (by omega), atP_rows a b d (k + 1) h1 h2 hp]
    simp only
    rw [if_neg (show ¬ (0 ≤ e a b d (k + 1) ∧ (b.length : Int) < e a b d (k + 1) - k) from by omega)]
    omega
  have he : e a b (d + 1) k = ent a b (rows a b d) ((d + 1 : Nat) : Int) k := rfl
  rw [he]
  unfold ent
  simp only
  rw [if_neg (by omega)]
  omega

theorem e_out (a b : List Int) (d : Nat) (k : Int) (h1 : -(d : Int) ≤ k - 1) (h2 : k - 1 ≤ d) (hp : (k - 1 + d) % 2 = 0) (h0 : 0 ≤ e a b d (k - 1)) (hb : e a b d (k - 1) + 1 ≤ a.length) :
    e a b d (k - 1) + 1 ≤ e a b (d + 1) k := by
  have hs := snake_spec a b k (reachP (rows a b d) ((d + 1 : Nat) : Int) k a.length b.length)
  rcases e_sound a b d (k - 1) h1 h2 hp with h | ⟨_, hr, _⟩
  · omega
  have hbd := hr.bd
  have hge : e a b d (k - 1) + 1 ≤ reachP (rows a b d) ((d + 1 : Nat) : Int) k a.length b.length := by
    unfold reachP
    rw [if_neg (by omega), atP_rows a b d (k - 1) h1 h2 hp]
    simp only
    rw [if_pos h0, if_neg (show ¬ ((a.length : Int) < e a b d (k - 1) + 1) from by omega)]
    omega
  have he : e a b (d + 1) k = ent a b (rows a b d) ((d + 1 : Nat) : Int) k := rfl
  rw [he]
  unfold ent
  simp only
  rw [if_neg (by omega)]
  omega

/-- a diagonal that need not be followed: one beside it has come to a list's end by fewer edits -/
def BlkR (a b : List Int) (d : Nat) (k : Int) : Prop := ∃ j d' : Nat, 1 ≤ j ∧ d' + j ≤ d ∧ (a.length : Int) - b.length ≤ k - j ∧ Rch a b d' a.length (a.length - (k - j))
def BlkL (a b : List Int) (d : Nat) (k : Int) : Prop := ∃ j d' : Nat, 1 ≤ j ∧ d' + j ≤ d ∧ k + j ≤ (a.length : Int) - b.length ∧ Rch a b d' (b.length + (k + j)) b.length

/-- THE ROWS TELL ALL: no place that d edits (or 2, 4, .. fewer) come to lies beyond the entry of its diagonal, unless that diagonal is blocked. -/
theorem e_complete (a b : List Int) (D : Nat) (hD : ∀ d, d < D → ¬ Rch a b d a.length b.length) : ∀ d, d ≤ D → ∀ (d' : Nat) (x y : Int), d' ≤ d → (d - d') % 2 = 0 → Rch a b d' x y →
    x ≤ e a b d (x - y) ∨ BlkR a b d (x - y) ∨ BlkL a b d (x - y) := by
  intro d
  induction d using Nat.strongRecOn with
  | _ d IH =>
    intro hdD d' x y hd' hpar h
    by_cases heq : d' = d
    · subst heq
      -- by the derivation
      have gen : ∀ (d0 : Nat) (x y : Int), Rch a b d0 x y → d0 = d' → x ≤ e a b d0 (x - y) ∨ BlkR a b d0 (x - y) ∨ BlkL a b d0 (x - y) := by
        intro d0 x y h
        induction h with
        | zero =>
          intro _
          left
          have hs := snake_spec a b 0 0
          have he : e a b 0 (0 - 0) = snake a b 0 0 := by
            unfold e ent reachP
            simp
          rw [he]
          exact hs.1
        | diag h1 hx hy heq ih =>
          rename_i dd x y
          intro e1
          rw [show x + 1 - (y + 1) = x - y from by omega]
          rcases ih e1 with h | h | h
          · left
            have hb := h1.bd
            rcases e_sound a b dd (x - y) (by omega) (by omega) (by omega) with h2 | ⟨_, _, h2⟩
            · omega
            · by_cases hlt : x = e a b dd (x - y)
              · exfalso
                apply h2
                rw [← hlt]
                exact ⟨hx, by omega, by rw [heq]; congr 1; omega⟩
              · omega
          · exact .inr (.inl h)
          · exact .inr (.inr h)
        | right h1 hx _ih =>
          rename_i dd x y
          intro e1
          subst e1
          have hb := h1.bd
          rcases IH dd (by omega) (by omega) dd x y (Nat.le_refl _) (by omega) h1 with h | h | h
          · by_cases ho : e a b dd (x - y) + 1 ≤ a.length
            · left
              have := e_out a b dd (x + 1 - y) (by omega) (by omega) (by omega) (by rw [show x + 1 - y - 1 = x - y from by omega]; omega) (by rw [show x + 1 - y - 1 = x - y from by omega]; omega)
              rw [show x + 1 - y - 1 = x - y from by omega] at this
              omega
            · right; left
              rcases e_sound a b dd (x - y) (by omega) (by omega) (by omega) with h2 | ⟨_, h2, _⟩
              · omega
              · have hb2 := h2.bd
                have e2 : e a b dd (x - y) = a.length := by omega
                rw [e2] at h2 hb2
                exact ⟨1, dd, by omega, by omega, by omega, by rw [show (a.length : Int) - (x + 1 - y - (1 : Nat)) = a.length - (x - y) from by omega]; exact h2⟩
          · right; left
            obtain ⟨j, d2, h2, h3, h4, h5⟩ := h
            exact ⟨j + 1, d2, by omega, by omega, by omega, by rw [show (a.length : Int) - (x + 1 - y - ((j + 1 : Nat) : Int)) = a.length - (x - y - j) from by omega]; exact h5⟩
          · obtain ⟨j, d2, h2, h3, h4, h5⟩ := h
            by_cases hj : j = 1
            · subst hj
              -- the place at the second list's end, by dd - 1 edits at most, on this very diagonal
              have hb5 := h5.bd
              have h6 := IH (dd - 1) (by omega) (by omega) d2 _ _ (by omega) (by omega) h5
              have ek : (b.length : Int) + (x - y + (1 : Nat)) - b.length = x + 1 - y := by omega
              rw [ek] at h6
              rcases h6 with h6 | h6 | h6
              · -- two edits more
                obtain ⟨D1, hD1⟩ : ∃ D1, dd = D1 + 1 := ⟨dd - 1, by omega⟩
                subst hD1
                simp only [Nat.add_sub_cancel] at h6
                rcases e_sound a b D1 (x + 1 - y) (by omega) (by omega) (by omega) with h7 | ⟨_, h7, _⟩
                · omega
                have hb7 := h7.bd
                by_cases hlt : e a b D1 (x + 1 - y) + 1 ≤ a.length
                · -- right, then down
                  have h8 := e_out a b D1 (x + 1 - y + 1) (by omega) (by omega) (by omega) (by rw [show x + 1 - y + 1 - 1 = x + 1 - y from by omega]; omega) (by rw [show x + 1 - y + 1 - 1 = x + 1 - y from by omega]; omega)
                  rw [show x + 1 - y + 1 - 1 = x + 1 - y from by omega] at h8
                  rcases e_sound a b (D1 + 1) (x + 1 - y + 1) (by omega) (by omega) (by omega) with h9 | ⟨_, h9, _⟩
                  · omega
                  have hb9 := h9.bd
                  by_cases hlb : e a b (D1 + 1) (x + 1 - y + 1) - (x + 1 - y) ≤ b.length
                  · left
                    have := e_in a b (D1 + 1) (x + 1 - y) (by omega) (by omega) (by omega) (by omega) hlb
                    omega
                  · right; right
                    have e9 : e a b (D1 + 1) (x + 1 - y + 1) = b.length + (x + 1 - y + (1 : Nat)) := by omega
                    have h10 := h9
                    rw [show e a b (D1 + 1) (x + 1 - y + 1) - (x + 1 - y + 1) = (b.length : Int) from by omega, e9] at h10
                    exact ⟨1, D1 + 1, by omega, by omega, by omega, h10⟩
                · exfalso
                  -- the end itself has been come to
                  have e7 : e a b D1 (x + 1 - y) = a.length := by omega
                  have : (a.length : Int) - (x + 1 - y) = b.length := by omega
                  rw [e7, this] at h7
                  exact hD D1 (by omega) h7
              · right; left
                obtain ⟨j, d3, g1, g2, g3, g4⟩ := h6
                exact ⟨j, d3, g1, by omega, g3, g4⟩
              · right; right
                obtain ⟨j, d3, g1, g2, g3, g4⟩ := h6
                exact ⟨j, d3, g1, by omega, g3, g4⟩
            · right; right
              exact ⟨j - 1, d2, by omega, by omega, by omega, by rw [show (b.length : Int) + (x + 1 - y + ((j - 1 : Nat) : Int)) = b.length + (x - y + j) from by omega]; exact h5⟩
        | down h1 hy _ih =>
          rename_i dd x y
          intro e1
          subst e1
          have hb := h1.bd
          rcases IH dd (by omega) (by omega) dd x y (Nat.le_refl _) (by omega) h1 with h | h | h
          · by_cases ho : e a b dd (x - y) - (x - (y + 1)) ≤ b.length
            · left
              have := e_in a b dd (x - (y + 1)) (by omega) (by omega) (by omega) (by rw [show x - (y + 1) + 1 = x - y from by omega]; omega) (by rw [show x - (y + 1) + 1 = x - y from by omega]; omega)
              rw [show x - (y + 1) + 1 = x - y from by omega] at this
              omega
            · right; right
              rcases e_sound a b dd (x - y) (by omega) (by omega) (by omega) with h2 | ⟨_, h2, _⟩
              · omega
              · have hb2 := h2.bd
                have e2 : e a b dd (x - y) = b.length + (x - y) := by omega
                rw [show e a b dd (x - y) - (x - y) = (b.length : Int) from by omega, e2] at h2
                exact ⟨1, dd, by omega, by omega, by omega, by rw [show (b.length : Int) + (x - (y + 1) + (1 : Nat)) = b.length + (x - y) from by omega]; exact h2⟩
          · obtain ⟨j, d2, h2, h3, h4, h5⟩ := h
            by_cases hj : j = 1
            · subst hj
              have hb5 := h5.bd
              have h6 := IH (dd - 1) (by omega) (by omega) d2 _ _ (by omega) (by omega) h5
              have ek : (a.length : Int) - (a.length - (x - y - (1 : Nat))) = x - (y + 1) := by omega
              rw [ek] at h6
              rcases h6 with h6 | h6 | h6
              · obtain ⟨D1, hD1⟩ : ∃ D1, dd = D1 + 1 := ⟨dd - 1, by omega⟩
                subst hD1
                simp only [Nat.add_sub_cancel] at h6
                rcases e_sound a b D1 (x - (y + 1)) (by omega) (by omega) (by omega) with h7 | ⟨_, h7, _⟩
                · omega
                have hb7 := h7.bd
                have e7 : e a b D1 (x - (y + 1)) = a.length := by omega
                by_cases hlt : (a.length : Int) - (x - (y + 1)) + 1 ≤ b.length
                · -- down: the list's end again, one diagonal lower
                  have h8 := e_in a b D1 (x - (y + 1) - 1) (by omega) (by omega) (by omega) (by rw [show x - (y + 1) - 1 + 1 = x - (y + 1) from by omega]; omega) (by rw [show x - (y + 1) - 1 + 1 = x - (y + 1) from by omega]; omega)
                  rw [show x - (y + 1) - 1 + 1 = x - (y + 1) from by omega] at h8
                  rcases e_sound a b (D1 + 1) (x - (y + 1) - 1) (by omega) (by omega) (by omega) with h9 | ⟨_, h9, _⟩
                  · omega
                  have hb9 := h9.bd
                  right; left
                  have e9 : e a b (D1 + 1) (x - (y + 1) - 1) = a.length := by omega
                  rw [e9] at h9
                  exact ⟨1, D1 + 1, by omega, by omega, by omega, h9⟩
                · exfalso
                  have : (a.length : Int) - (x - (y + 1)) = b.length := by omega
                  rw [e7, this] at h7
                  exact hD D1 (by omega) h7
              · right; left
                obtain ⟨j, d3, g1, g2, g3, g4⟩ := h6
                exact ⟨j, d3, g1, by omega, g3, g4⟩
              · right; right
                obtain ⟨j, d3, g1, g2, g3, g4⟩ := h6
                exact ⟨j, d3, g1, by omega, g3, g4⟩
            · right; left
              exact ⟨j - 1, d2, by omega, by omega, by omega, by rw [show (a.length : Int) - (x - (y + 1) - ((j - 1 : Nat) : Int)) = a.length - (x - y - j) from by omega]; exact h5⟩
          · right; right
            obtain ⟨j, d2, h2, h3, h4, h5⟩ := h
            exact ⟨j + 1, d2, by omega, by omega, by omega, by rw [show (b.length : Int) + (x - (y + 1) + ((j + 1 : Nat) : Int)) = b.length + (x - y + j) from by omega]; exact h5⟩
      exact gen d' x y h rfl
    · -- two edits fewer at least
      have hb := h.bd
      have h6 := IH (d - 2) (by omega) (by omega) d' x y (by omega) (by omega) h
      rcases h6 with h6 | h6 | h6
      · obtain ⟨D1, hD1⟩ : ∃ D1, d = D1 + 2 := ⟨d - 2, by omega⟩
        subst hD1
        simp only [Nat.add_sub_cancel] at h6
        rcases e_sound a b D1 (x - y) (by omega) (by omega) (by omega) with h7 | ⟨_, h7, _⟩
        · omega
        have hb7 := h7.bd
        by_cases hlt : e a b D1 (x - y) + 1 ≤ a.length
        · have h8 := e_out a b D1 (x - y + 1) (by omega) (by omega) (by omega) (by rw [show x - y + 1 - 1 = x - y from by omega]; omega) (by rw [show x - y + 1 - 1 = x - y from by omega]; omega)
          rw [show x - y + 1 - 1 = x - y from by omega] at h8
          rcases e_sound a b (D1 + 1) (x - y + 1) (by omega) (by omega) (by omega) with h9 | ⟨_, h9, _⟩
          · omega
          have hb9 := h9.bd
          by_cases hlb : e a b (D1 + 1) (x - y + 1) - (x - y) ≤ b.length
          · left
            have := e_in a b (D1 + 1) (x - y) (by omega) (by omega) (by omega) (by omega) hlb
            show x ≤ e a b (D1 + 1 + 1) (x - y)
            omega
          · right; right
            have e9 : e a b (D1 + 1) (x - y + 1) = b.length + (x - y + (1 : Nat)) := by omega
            have h10 := h9
            rw [show e a b (D1 + 1) (x - y + 1) - (x - y + 1) = (b.length : Int) from by omega, e9] at h10
            exact ⟨1, D1 + 1, by omega, by omega, by omega, h10⟩
        · have e7 : e a b D1 (x - y) = a.length := by omega
          by_cases hlb : (a.length : Int) - (x - y) + 1 ≤ b.length
          · have h8 := e_in a b D1 (x - y - 1) (by omega) (by omega) (by omega) (by rw [show x - y - 1 + 1 = x - y from by omega]; omega) (by rw [show x - y - 1 + 1 = x - y from by omega]; omega)
            rw [show x - y - 1 + 1 = x - y from by omega] at h8
            rcases e_sound a b (D1 + 1) (x - y - 1) (by omega) (by omega) (by omega) with h9 | ⟨_, h9, _⟩
            · omega
            have hb9 := h9.bd
            right; left
            have e9 : e a b (D1 + 1) (x - y - 1) = a.length := by omega
            rw [e9] at h9
            exact ⟨1, D1 + 1, by omega, by omega, by omega, h9⟩
          · exfalso
            have : (a.length : Int) - (x - y) = b.length := by omega
            rw [e7, this] at h7
            exact hD D1 (by omega) h7
      · right; left
        obtain ⟨j, d3, g1, g2, g3, g4⟩ := h6
        exact ⟨j, d3, g1, by omega, g3, g4⟩
      · right; right
        obtain ⟨j, d3, g1, g2, g3, g4⟩ := h6
        exact ⟨j, d3, g1, by omega, g3, g4⟩

end Go.Proofs.YtmhkeojbjliieaaDoor.MM
