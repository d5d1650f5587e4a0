import Derived.Test.YtkehomiogkoomaaDoorB1
/- UTF-8, plainly: what the reference's ways answer, by a text's scalars. Plain, no program. No condition. -/

set_option linter.unusedVariables false
set_option linter.unusedSimpArgs false
set_option maxRecDepth 100000
namespace Go.Proofs.YtkehomiogkoomaaDoor.U
open Go Go.Lib

/-- how many bytes a first byte tells -/
def nOf (b : Nat) : Nat := if 240 ≤ b then 4 else if 224 ≤ b then 3 else if 192 ≤ b then 2 else 1
def r0Of (b : Nat) : Int := if 240 ≤ b then (b : Int) - 240 else if 224 ≤ b then (b : Int) - 224 else if 192 ≤ b then (b : Int) - 192 else (b : Int)
def acc (l : List UInt8) : Nat → Int
  | 0 => r0Of (g l 0)
  | k + 1 => acc l k * 64 + ((g l (k + 1) % 64 : Nat) : Int)
theorem acc_step (l : List UInt8) {k : Nat} (h : 1 ≤ k) : acc l k = acc l (k - 1) * 64 + ((g l k % 64 : Nat) : Int) := by
  obtain ⟨j, rfl⟩ : ∃ j, k = j + 1 := ⟨k - 1, by omega⟩
  rfl
theorem g_lt (l : List UInt8) (k : Nat) : g l k < 256 := UInt8.toNat_lt _
theorem r0_bd (b : Nat) (h : b < 256) : 0 ≤ r0Of b ∧ r0Of b < 256 := by
  unfold r0Of
  split
  · omega
  · split
    · omega
    · split <;> omega
theorem acc_bd (l : List UInt8) (k : Nat) (hk : k ≤ 3) : 0 ≤ acc l k ∧ acc l k < 67108864 ∧ (k ≤ 2 → acc l k < 1048576) := by
  have h0 := r0_bd (g l 0) (g_lt l 0)
  have e0 : acc l 0 = r0Of (g l 0) := rfl
  have e1 : acc l 1 = acc l 0 * 64 + ((g l 1 % 64 : Nat) : Int) := rfl
  have e2 : acc l 2 = acc l 1 * 64 + ((g l 2 % 64 : Nat) : Int) := rfl
  have e3 : acc l 3 = acc l 2 * 64 + ((g l 3 % 64 : Nat) : Int) := rfl
  match k, hk with
  | 0, _ => omega
  | 1, _ => omega
  | 2, _ => omega
  | 3, _ => omega
theorem nOf_le (b : Nat) : 1 ≤ nOf b ∧ nOf b ≤ 4 := by unfold nOf; split <;> (try split) <;> (try split) <;> omega
theorem g_drop (s : ByteArray) (p k : Nat) : g ((bl s).drop p) k = (s.data.toList.getD (p + k) 0).toNat := by
  unfold g bl
  rw [List.getD_eq_getElem?_getD, List.getD_eq_getElem?_getD, List.getElem?_drop]
def encB (m : Nat) : ByteArray := ⟨(enc m).toArray⟩
theorem bl_encB (m : Nat) : bl (encB m) = enc m := by simp [bl, encB]
set_option maxHeartbeats 2000000 in
theorem acc_enc {r : Nat} (hv : vr r) (t : List UInt8) : nOf (g (enc r ++ t) 0) = (enc r).length ∧ acc (enc r ++ t) ((enc r).length - 1) = (r : Int) := by
  have hv' := hv
  unfold vr at hv'
  by_cases h1 : r < 128
  · rw [enc_1 h1]
    have e0 : g ([UInt8.ofNat r] ++ t) 0 = r := by simp only [g, List.cons_append, List.getD_cons_zero, UInt8.toNat_ofNat']; omega
    rw [e0]
    refine ⟨by unfold nOf; rw [if_neg (by omega), if_neg (by omega), if_neg (by omega)]; rfl, ?_⟩
    show r0Of (g ([UInt8.ofNat r] ++ t) 0) = _
    rw [e0]; unfold r0Of; rw [if_neg (by omega), if_neg (by omega), if_neg (by omega)]
  · by_cases h2 : r < 2048
    · rw [enc_2 (by omega) h2]
      generalize hl : [UInt8.ofNat (192 + r / 64), UInt8.ofNat (128 + r % 64)] ++ t = l
      have e0 : g l 0 = 192 + r / 64 := by rw [← hl]; simp only [g, List.cons_append, List.getD_cons_zero, UInt8.toNat_ofNat']; omega
      have e1 : g l 1 = 128 + r % 64 := by rw [← hl]; simp only [g, List.cons_append, List.getD_cons_zero, List.getD_cons_succ, UInt8.toNat_ofNat']; omega
      refine ⟨by rw [e0]; unfold nOf; rw [if_neg (by omega), if_neg (by omega), if_pos (by omega)]; rfl, ?_⟩
      show r0Of (g l 0) * 64 + ((g l 1 % 64 : Nat) : Int) = _
      rw [e0, e1]; unfold r0Of; rw [if_neg (by omega), if_neg (by omega), if_pos (by omega)]; omega
    · by_cases h3 : r < 65536
      · rw [enc_3 hv (by omega) h3]
        generalize hl : [UInt8.ofNat (224 + r / 4096), UInt8.ofNat (128 + r / 64 % 64), UInt8.ofNat (128 + r % 64)] ++ t = l
        have e0 : g l 0 = 224 + r / 4096 := by rw [← hl]; simp only [g, List.cons_append, List.getD_cons_zero, UInt8.toNat_ofNat']; omega
        have e1 : g l 1 = 128 + r / 64 % 64 := by rw [← hl]; simp only [g, List.cons_append, List.getD_cons_zero, List.getD_cons_succ, UInt8.toNat_ofNat']; omega
        have e2 : g l 2 = 128 + r % 64 := by rw [← hl]; simp only [g, List.cons_append, List.getD_cons_zero, List.getD_cons_succ, UInt8.toNat_ofNat']; omega
        refine ⟨by rw [e0]; unfold nOf; rw [if_neg (by omega), if_pos (by omega)]; rfl, ?_⟩
        show (r0Of (g l 0) * 64 + ((g l 1 % 64 : Nat) : Int)) * 64 + ((g l 2 % 64 : Nat) : Int) = _
        rw [e0, e1, e2]; unfold r0Of; rw [if_neg (by omega), if_pos (by omega)]; omega
      · rw [enc_4 hv (by omega)]
        generalize hl : [UInt8.ofNat (240 + r / 262144), UInt8.ofNat (128 + r / 4096 % 64), UInt8.ofNat (128 + r / 64 % 64), UInt8.ofNat (128 + r % 64)] ++ t = l
        have e0 : g l 0 = 240 + r / 262144 := by rw [← hl]; simp only [g, List.cons_append, List.getD_cons_zero, UInt8.toNat_ofNat']; omega
        have e1 : g l 1 = 128 + r / 4096 % 64 := by rw [← hl]; simp only [g, List.cons_append, List.getD_cons_zero, List.getD_cons_succ, UInt8.toNat_ofNat']; omega
        have e2 : g l 2 = 128 + r / 64 % 64 := by rw [← hl]; simp only [g, List.cons_append, List.getD_cons_zero, List.getD_cons_succ, UInt8.toNat_ofNat']; omega
        have e3 : g l 3 = 128 + r % 64 := by rw [← hl]; simp only [g, List.cons_append, List.getD_cons_zero, List.getD_cons_succ, UInt8.toNat_ofNat']; omega
        refine ⟨by rw [e0]; unfold nOf; rw [if_pos (by omega)]; rfl, ?_⟩
        show ((r0Of (g l 0) * 64 + ((g l 1 % 64 : Nat) : Int)) * 64 + ((g l 2 % 64 : Nat) : Int)) * 64 + ((g l 3 % 64 : Nat) : Int) = _
        rw [e0, e1, e2, e3]; unfold r0Of; rw [if_pos (by omega)]; omega

/-- what first answers at a place, by what the text is from there on -/
theorem first_eq {l : List UInt8} {rs : List Nat} {t : List UInt8} (h : Brk l rs t) (n : Nat) (hn : n = nOf (g l 0)) (r : Int) (hr : r = acc l (n - 1)) (hle : n ≤ l.length) (hv : vz r) (he : enc r.toNat = l.take n) : headP rs = (r.toNat, n) ∧ 0 ≤ r := by
  have hst : enc r.toNat <+: l := by rw [he]; exact List.take_prefix _ _
  match rs, h with
  | [], h =>
    exfalso
    have e : l = t := by simpa [flat] using h.eq
    exact h.stop ⟨r.toNat, hv.2, e ▸ hst⟩
  | r' :: rs, h =>
    have hp : enc r' <+: l := by rw [h.eq, flat_cons, List.append_assoc]; exact List.prefix_append _ _
    have e : r.toNat = r' := starts_unique hv.2 (h.ok r' (by simp)) hst hp
    subst e
    refine ⟨?_, hv.1⟩
    have : (enc r.toNat).length = n := by rw [he, List.length_take]; omega
    show (r.toNat, (enc r.toNat).length) = _
    rw [this]
theorem first_none {l : List UInt8} {rs : List Nat} {t : List UInt8} (h : Brk l rs t) (n : Nat) (hn : n = nOf (g l 0)) (r : Int) (hr : r = acc l (n - 1)) (hno : ¬ (n ≤ l.length ∧ vz r ∧ enc r.toNat = l.take n)) : headP rs = (0, 0) := by
  match rs, h with
  | [], h => rfl
  | r' :: rs, h =>
    exfalso
    refine hno ?_
    have hv' := h.ok r' (by simp)
    have e := h.eq
    rw [flat_cons, List.append_assoc] at e
    obtain ⟨h1, h2⟩ := acc_enc hv' (flat rs ++ t)
    rw [← e] at h1 h2
    have hnn : n = (enc r').length := hn.trans h1
    rw [hnn, h2] at hr
    subst hr
    refine ⟨?_, ⟨by omega, by rw [Int.toNat_natCast]; exact hv'⟩, ?_⟩
    · rw [hnn, e, List.length_append]; omega
    · rw [Int.toNat_natCast, hnn, e, List.take_left]
/-- places in a text that may break -/
theorem brk_at (s : ByteArray) {done rest : List Nat} (e : sc s = done ++ rest) : Brk ((bl s).drop (flat done).length) rest (tl s) where
  eq := by
    rw [(brk s).eq, e, flat_append, List.append_assoc, List.drop_append_of_le_length (Nat.le_refl _), List.drop_length, List.nil_append]
  ok := fun r hr => sc_ok s r (by rw [e]; exact List.mem_append_right _ hr)
  stop := (brk s).stop
theorem flat_snoc (done : List Nat) (r : Nat) : (flat (done ++ [r])).length = (flat done).length + (enc r).length := by
  rw [flat_append, List.length_append]; simp [flat]
theorem flat_done_le (s : ByteArray) {done rest : List Nat} (e : sc s = done ++ rest) : (flat done).length ≤ s.size := by
  have h := brkAt_le s
  unfold brkAt at h
  rw [e, flat_append, List.length_append] at h
  omega
theorem done_end (s : ByteArray) {done rest : List Nat} (e : sc s = done ++ rest) (h : ¬ (flat done).length < s.size) : rest = [] := by
  have h2 := brkAt_le s
  unfold brkAt at h2
  rw [e, flat_append, List.length_append] at h2
  have h3 := flat_le rest
  exact List.length_eq_zero_iff.1 (by omega)
theorem headP_pos (r : Nat) (rs : List Nat) : 1 ≤ (headP (r :: rs)).2 := by
  have h8 : headP (r :: rs) = (r, (enc r).length) := rfl
  rw [h8]
  simp only
  exact (enc_len r).1
theorem headP_zero {rs : List Nat} (h : (headP rs).2 = 0) : rs = [] := by
  cases hr : rs with
  | nil => rfl
  | cons r rs' =>
    rw [hr] at h
    have h1 := headP_pos r rs'
    rw [h] at h1
    exact absurd h1 (by decide)
noncomputable def scz (s : ByteArray) : List Int := (sc s).map fun (r : Nat) => (r : Int)
end Go.Proofs.YtkehomiogkoomaaDoor.U
