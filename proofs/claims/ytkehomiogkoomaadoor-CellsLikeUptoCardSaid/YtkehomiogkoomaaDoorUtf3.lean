/- UTF-8, plainly: what the program's own functions answer, by a text's scalars. Plain, no program. No condition. -/
import Derived.Test.YtkehomiogkoomaaDoorUtf2
import Derived.Test.YtkehomiogkoomaaDoorA1
import Derived.Lib.ValidAsc
set_option linter.unusedVariables false
set_option linter.unusedSimpArgs false
set_option maxRecDepth 100000
namespace Go.Proofs.YtkehomiogkoomaaDoor.U
open Go Go.Lib

theorem decodeGo_eq (s : ByteArray) : Lib.decodeGo s = if s.size = 0 then (65533, 0) else decL (bl s) := by
  show Lib.decodeGoB s = _
  unfold decodeGoB
  rw [decode_L]
  simp
def headP : List Nat → Nat × Nat
  | [] => (0, 0)
  | r :: _ => (r, (enc r).length)
theorem nextP_brk {s : ByteArray} {rs : List Nat} {t : List UInt8} (h : Brk (bl s) rs t) : nextP s = headP rs := by
  unfold nextP
  rw [decodeGo_eq]
  match rs, h with
  | [], h =>
    have e : bl s = t := by simpa [flat] using h.eq
    by_cases h0 : s.size = 0
    · simp [h0, headP]
    · rw [if_neg h0]
      have hne : bl s ≠ [] := fun e0 => h0 (by rw [← bl_size, e0]; rfl)
      have : (decL (bl s)).1 = 65533 ∧ (decL (bl s)).2 = 1 := Classical.byContradiction fun hc => h.stop (by rw [← e]; exact starts_dec.2 ⟨hne, hc⟩)
      rw [if_pos ⟨this.1, by omega⟩]; rfl
  | r :: rs, h =>
    obtain ⟨h3, h4⟩ := brk_step h
    have hst : Starts (bl s) := ⟨r, h.ok r (by simp), by rw [h.eq, flat_cons, List.append_assoc]; exact List.prefix_append _ _⟩
    obtain ⟨h1, h2⟩ := starts_dec.1 hst
    have h0 : ¬ s.size = 0 := fun e0 => h1 (List.length_eq_zero_iff.1 (by rw [bl_size]; exact e0))
    rw [if_neg h0, h3]
    rw [if_neg]
    · rfl
    · rintro ⟨e1, e2⟩
      simp only at e1 e2
      rw [h3] at h2
      simp only at h2
      have := (enc_len r).1
      exact h2 ⟨e1, by omega⟩
theorem uloop_brk (s : ByteArray) : ∀ (rs : List Nat) (t : List UInt8) (k f : Nat), Brk ((bl s).drop k) rs t → k ≤ s.size → s.size - k ≤ f → uloop s f k = (s.size - t.length, decide (t = []))
  | [], t, k, f, h, hk, hf => by
    have e : (bl s).drop k = t := by simpa [flat] using h.eq
    have hl : t.length = s.size - k := by rw [← e, List.length_drop, bl_size]
    by_cases hlt : k < s.size
    · obtain ⟨f, rfl⟩ : ∃ f', f = f' + 1 := ⟨f - 1, by omega⟩
      have hn := nextP_brk (s := s.extract k s.size) (rs := []) (t := t) (by rw [bl_drop]; exact h)
      simp only [uloop]
      rw [if_pos hlt, hn]
      have : ¬ t = [] := fun e0 => by rw [e0] at hl; simp at hl; omega
      simp only [headP, if_true, decide_eq_false this, Prod.mk.injEq, and_true]
      omega
    · have : t = [] := List.length_eq_zero_iff.1 (by omega)
      subst this
      cases f with
      | zero => simp only [uloop]; simp; omega
      | succ f => simp only [uloop]; rw [if_neg hlt]; simp; omega
  | r :: rs, t, k, f, h, hk, hf => by
    obtain ⟨h3, h4⟩ := brk_step h
    have hl := congrArg List.length h.eq
    rw [List.length_drop, bl_size, flat_cons] at hl
    simp only [List.length_append] at hl
    have := (enc_len r).1
    obtain ⟨f, rfl⟩ : ∃ f', f = f' + 1 := ⟨f - 1, by omega⟩
    have hn := nextP_brk (s := s.extract k s.size) (rs := r :: rs) (t := t) (by rw [bl_drop]; exact h)
    rw [List.drop_drop] at h4
    have h8 : headP (r :: rs) = (r, (enc r).length) := rfl
    rw [h8] at hn
    generalize (enc r).length = L at *
    simp only [uloop]
    rw [if_pos (by omega), hn]
    simp only
    rw [if_neg (by omega)]
    exact uloop_brk s rs t _ f h4 (by omega) (by omega)
theorem uchk_eq (s : ByteArray) : uchk s = (brkAt s, decide (tl s = [])) := by
  have h := uloop_brk s (sc s) (tl s) 0 s.size (by simpa using brk s) (by omega) (by omega)
  have := brkAt_le s
  unfold uchk
  rw [h]
  simp only [Prod.mk.injEq, and_true]
  omega

/-! ### what Len, at, Cut, At, List, Text, Width and Pair answer -/
noncomputable def lenP (s : ByteArray) : Nat × Nat := if tl s = [] then ((sc s).length, 0) else (0, 1)
def vz (r : Int) : Prop := 0 ≤ r ∧ vr r.toNat
instance (r : Int) : Decidable (vz r) := by unfold vz; exact inferInstance
def widthP (r : Int) : Nat := if vz r then (enc r.toNat).length else 0
def textP (l : List Int) : ByteArray × Nat := if (∀ r ∈ l, vz r) then (runesBytes l, 0) else (⟨#[]⟩, 1)
theorem vz_map {l : List Int} (h : ∀ r ∈ l, vz r) : ∃ rs : List Nat, l = rs.map (fun (r : Nat) => (r : Int)) ∧ ∀ r ∈ rs, vr r := by
  refine ⟨l.map Int.toNat, ?_, ?_⟩
  · rw [List.map_map]
    conv => lhs; rw [← List.map_id l]
    refine List.map_congr_left fun r hr => ?_
    have := (h r hr).1
    simp; omega
  · intro r hr
    obtain ⟨x, hx, rfl⟩ := List.mem_map.1 hr
    exact (h x hx).2
theorem text_utf {l : List Int} (h : ∀ r ∈ l, vz r) : utf (runesBytes l) ∧ (sc (runesBytes l)).map (fun (r : Nat) => (r : Int)) = l := by
  obtain ⟨rs, rfl, hr⟩ := vz_map h
  obtain ⟨h1, h2⟩ := utf_of (s := runesBytes (rs.map fun (r : Nat) => (r : Int))) hr (runesBytes_flat rs)
  exact ⟨h1, by rw [h2]⟩
end Go.Proofs.YtkehomiogkoomaaDoor.U
