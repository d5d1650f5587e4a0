import Derived.Test.YtkehomiogkoomaaDoorUtf
import Derived.Shelf.Unicode.DecodeSlow
import Derived.Laws.Cover4
import Derived.Laws.IdiomStrings
import Derived.Lib.ValidAsc
import Derived.Test.YtkehomiogkoomaaDoorA1
import Derived.Test.YtkehomiogkoomaaDoorA2
import Derived.Test.YtkehomiogkoomaaDoorOp
import Derived.Test.YtkehomiogkoomaaDoorStr
import Derived.Test.YtkehomiogkoomaaDoorAn
/- UTF-8, plainly: what Go's and the program's ways over a text answer, by its scalars. Plain, no program. No condition. -/
set_option linter.unusedVariables false
set_option linter.unusedSimpArgs false
set_option maxRecDepth 100000
namespace Go.Proofs.YtkehomiogkoomaaDoor.U
open Go Go.Lib

abbrev bl (s : ByteArray) : List UInt8 := s.data.toList
theorem bl_size (s : ByteArray) : (bl s).length = s.size := by rw [bl, Array.length_toList]; rfl
theorem bl_drop (s : ByteArray) (k : Nat) : bl (s.extract k s.size) = (bl s).drop k := ext_list s k
theorem bl_inj {s t : ByteArray} (h : bl s = bl t) : s = t := by cases s; cases t; simp only [ByteArray.mk.injEq]; exact Array.toList_inj.1 h
/-- a text's scalars, up to where it breaks -/
noncomputable def sc (s : ByteArray) : List Nat := (brk_ex _ (bl s) (Nat.le_refl _)).choose
noncomputable def tl (s : ByteArray) : List UInt8 := (brk_ex _ (bl s) (Nat.le_refl _)).choose_spec.choose
theorem brk (s : ByteArray) : Brk (bl s) (sc s) (tl s) := (brk_ex _ (bl s) (Nat.le_refl _)).choose_spec.choose_spec
theorem sc_ok (s : ByteArray) : ∀ r ∈ sc s, vr r := (brk s).ok
/-- where it breaks -/
noncomputable def brkAt (s : ByteArray) : Nat := (flat (sc s)).length
noncomputable def utf (s : ByteArray) : Prop := tl s = []
theorem brkAt_le (s : ByteArray) : brkAt s + (tl s).length = s.size := by
  have := congrArg List.length (brk s).eq
  rw [bl_size, List.length_append] at this
  unfold brkAt; omega
theorem utf_iff (s : ByteArray) : utf s ↔ brkAt s = s.size := by
  have := brkAt_le s
  unfold utf
  constructor
  · intro h; rw [h] at this; simpa using this
  · intro h; exact List.length_eq_zero_iff.1 (by omega)
theorem sc_le (s : ByteArray) : (sc s).length ≤ s.size := by
  have h1 := flat_le (sc s)
  have h2 := brkAt_le s
  unfold brkAt at h2
  omega

/-! ### utf8.ValidString -/
theorem validGo_brk : ∀ (n : Nat) (l : List UInt8) (rs : List Nat) (t : List UInt8), l.length ≤ n → Brk l rs t → validGoD n l = decide (t = [])
  | 0, l, rs, t, hn, h => by
    obtain rfl : l = [] := List.length_eq_zero_iff.1 (by omega)
    have := (List.append_eq_nil_iff.1 h.eq.symm).2
    subst this
    simp [validGoD]
  | n + 1, l, rs, t, hn, h => by
    unfold validGoD
    have hd : decodeL l = decL l := by
      have := decode_L ⟨l.toArray⟩ 0
      simpa [decodeL] using this
    rw [hd]
    match rs, h with
    | [], h =>
      have hl : l = t := by simpa [flat] using h.eq
      subst hl
      by_cases h0 : l = []
      · simp [h0]
      · have : (decL l).1 = 65533 ∧ (decL l).2 = 1 := Classical.byContradiction fun hc => h.stop (starts_dec.2 ⟨h0, hc⟩)
        rw [if_neg h0, if_pos this, decide_eq_false h0]
    | r :: rs, h =>
      have h0 : Starts l := ⟨r, h.ok r (by simp), by rw [h.eq, flat_cons, List.append_assoc]; exact List.prefix_append _ _⟩
      obtain ⟨h1, h2⟩ := starts_dec.1 h0
      obtain ⟨h3, h4⟩ := brk_step h
      rw [if_neg h1, if_neg h2, h3]
      have := (enc_len r).1
      have hx : (l.drop (enc r).length).length ≤ n := by
        rw [List.length_drop]
        have h9 : 0 < l.length := List.length_pos_iff.2 h1
        generalize (enc r).length = L at this ⊢
        omega
      simp only
      exact validGo_brk n (l.drop (enc r).length) rs t hx h4
theorem valid_utf (s : ByteArray) : validD (bl s) = decide (tl s = []) := validGo_brk _ _ _ _ (Nat.le_refl _) (brk s)

end Go.Proofs.YtkehomiogkoomaaDoor.U
/- UTF-8, plainly: what the program's own functions answer, by a text's scalars. Plain, no program. No condition. -/
set_option linter.unusedVariables false
set_option linter.unusedSimpArgs false
set_option maxRecDepth 100000
namespace Go.Proofs.YtkehomiogkoomaaDoor.U
open Go Go.Lib

theorem bl_extract (s : ByteArray) (i j : Nat) : bl (s.extract i j) = ((bl s).drop i).take (j - i) := by
  unfold bl
  rw [extract_data]
theorem decodeGo_eq (s : ByteArray) : Lib.decodeGo s = if s.size = 0 then (65533, 0) else decL (bl s) := by
  show Lib.decodeGoB s = _
  unfold decodeGoB
  rw [decode_L]
  simp
def headP : List Nat → Nat × Nat
  | [] => (0, 0)
  | r :: _ => (r, (enc r).length)
theorem nextP_brk {s : ByteArray} {rs : List Nat} {t : List UInt8} (h : Brk (bl s) rs t) : nextP s = headP rs := by
  unfold nextP
  rw [decodeGo_eq]
  match rs, h with
  | [], h =>
    have e : bl s = t := by simpa [flat] using h.eq
    by_cases h0 : s.size = 0
    · simp [h0, headP]
    · rw [if_neg h0]
      have hne : bl s ≠ [] := fun e0 => h0 (by rw [← bl_size, e0]; rfl)
      have : (decL (bl s)).1 = 65533 ∧ (decL (bl s)).2 = 1 := Classical.byContradiction fun hc => h.stop (by rw [← e]; exact starts_dec.2 ⟨hne, hc⟩)
      rw [if_pos ⟨this.1, by omega⟩]; rfl
  | r :: rs, h =>
    obtain ⟨h3, h4⟩ := brk_step h
    have hst : Starts (bl s) := ⟨r, h.ok r (by simp), by rw [h.eq, flat_cons, List.append_assoc]; exact List.prefix_append _ _⟩
    obtain ⟨h1, h2⟩ := starts_dec.1 hst
    have h0 : ¬ s.size = 0 := fun e0 => h1 (List.length_eq_zero_iff.1 (by rw [bl_size]; exact e0))
    rw [if_neg h0, h3]
    rw [if_neg]
    · rfl
    · rintro ⟨e1, e2⟩
      simp only at e1 e2
      rw [h3] at h2
      simp only at h2
      have := (enc_len r).1
      exact h2 ⟨e1, by omega⟩
theorem uloop_brk (s : ByteArray) : ∀ (rs : List Nat) (t : List UInt8) (k f : Nat), Brk ((bl s).drop k) rs t → k ≤ s.size → s.size - k ≤ f → uloop s f k = (s.size - t.length, decide (t = []))
  | [], t, k, f, h, hk, hf => by
    have e : (bl s).drop k = t := by simpa [flat] using h.eq
    have hl : t.length = s.size - k := by rw [← e, List.length_drop, bl_size]
    by_cases hlt : k < s.size
    · obtain ⟨f, rfl⟩ : ∃ f', f = f' + 1 := ⟨f - 1, by omega⟩
      have hn := nextP_brk (s := s.extract k s.size) (rs := []) (t := t) (by rw [bl_drop]; exact h)
      simp only [uloop]
      rw [if_pos hlt, hn]
      have : ¬ t = [] := fun e0 => by rw [e0] at hl; simp at hl; omega
      simp only [headP, if_true, decide_eq_false this, Prod.mk.injEq, and_true]
      omega
    · have : t = [] := List.length_eq_zero_iff.1 (by omega)
      subst this
      cases f with
      | zero => simp only [uloop]; simp; omega
      | succ f => simp only [uloop]; rw [if_neg hlt]; simp; omega
  | r :: rs, t, k, f, h, hk, hf => by
    obtain ⟨h3, h4⟩ := brk_step h
    have hl := congrArg List.length h.eq
    rw [List.length_drop, bl_size, flat_cons] at hl
    simp only [List.length_append] at hl
    have := (enc_len r).1
    obtain ⟨f, rfl⟩ : ∃ f', f = f' + 1 := ⟨f - 1, by omega⟩
    have hn := nextP_brk (s := s.extract k s.size) (rs := r :: rs) (t := t) (by rw [bl_drop]; exact h)
    rw [List.drop_drop] at h4
    have h8 : headP (r :: rs) = (r, (enc r).length) := rfl
    rw [h8] at hn
    generalize (enc r).length = L at *
    simp only [uloop]
    rw [if_pos (by omega), hn]
    simp only
    rw [if_neg (by omega)]
    exact uloop_brk s rs t _ f h4 (by omega) (by omega)
theorem uchk_eq (s : ByteArray) : uchk s = (brkAt s, decide (tl s = [])) := by
  have h := uloop_brk s (sc s) (tl s) 0 s.size (by simpa using brk s) (by omega) (by omega)
  have := brkAt_le s
  unfold uchk
  rw [h]
  simp only [Prod.mk.injEq, and_true]
  omega

def vz (r : Int) : Prop := 0 ≤ r ∧ vr r.toNat
instance (r : Int) : Decidable (vz r) := by unfold vz; exact inferInstance
end Go.Proofs.YtkehomiogkoomaaDoor.U
/- What operations are worth: their errors, lengths, canonical lists. No condition. -/
set_option linter.unusedVariables false
set_option linter.unusedSimpArgs false
set_option maxRecDepth 100000
namespace Go.Proofs.YtkehomiogkoomaaDoor
open Go Go.RowKit Go.Proofs.YtkehomiogkoomaaDoorW.PrintWords RX

abbrev Pl := Int × Int × ByteArray
def pl0 : Pl := (0, 0, ⟨#[]⟩)
def hasP (o : OpA) : Bool :=
  if o.kind = 1 then decide ((o.vk, o.vn, o.vt) = pl0) && decide (o.count = 0)
  else if o.kind = 2 then decide (o.count = 0)
  else if o.kind = 3 then decide ((o.vk, o.vn, o.vt) = pl0) && decide (o.text = ⟨#[]⟩)
  else if o.kind = 4 then decide ((o.vk, o.vn, o.vt) = pl0) && (decide (o.text = ⟨#[]⟩) && decide (o.attrs.length = 0))
  else false
def refuseP (o : OpA) : Nat :=
  if o.kind ≠ 1 ∧ o.kind ≠ 2 then 5
  else if o.count ≠ 0 then 9
  else if o.kind = 1 ∧ (o.text = ⟨#[]⟩ ∨ (o.vk, o.vn, o.vt) ≠ pl0) then 9
  else if o.kind = 2 ∧ (o.text = ⟨#[]⟩ ∨ 64 < o.text.size) then 6
  else if (uchk o.text).2 = false then 1
  else if o.kind = 2 ∧ plainErr o.vk o.vn o.vt ≠ 0 then plainErr o.vk o.vn o.vt
  else chkA false o.attrs
def pErr (o : OpA) : Nat :=
  if hasP o = false then 9
  else if o.kind = 1 ∨ o.kind = 2 then refuseP o
  else if o.count < 1 then 9
  else if 1099511627776 < o.count then 11
  else if o.kind = 4 then 0
  else chkA true o.attrs
noncomputable def pOf (o : OpA) : PieceA :=
  if o.kind = 1 then .ins o.attrs o.text ((U.sc o.text).length : Int)
  else if o.kind = 2 then .emb o.attrs o.text o.val
  else if o.kind = 3 then .ret o.attrs o.count
  else .del o.count
noncomputable def opLen (o : OpA) : Int := if o.kind = 1 then ((U.sc o.text).length : Int) else if o.kind = 2 then 1 else o.count
noncomputable def opB (o : OpA) : Int := if o.kind = 3 ∨ o.kind = 4 then opLen o else 0
noncomputable def opR (o : OpA) : Int := if o.kind = 4 then 0 else opLen o
def sumI (f : OpA → Int) : List OpA → Int
  | [] => 0
  | o :: r => f o + sumI f r
noncomputable abbrev sB (xs : List OpA) : Int := sumI opB xs
noncomputable abbrev sR (xs : List OpA) : Int := sumI opR xs
def badE : List OpA → Nat
  | [] => 0
  | o :: r => if pErr o ≠ 0 then pErr o else badE r
def fitsP (a b : OpA) : Bool := if a.kind = 4 then decide (b.kind = 3) else decide (a.kind ≠ b.kind ∨ a.kind = 2 ∨ a.attrs ≠ b.attrs)
def plainR (o : OpA) : Prop := o.kind = 3 ∧ o.attrs.length = 0
def Chain (xs : List OpA) : Prop := ∀ i, i + 1 < xs.length → fitsP (xs.getD i op0) (xs.getD (i + 1) op0) = true
/-- sizes that the row bounds -/
def opSz (o : OpA) : Prop := o.text.size ≤ 50000000 ∧ o.vt.size ≤ 50000000 ∧ o.attrs.length ≤ 1048576 ∧ ∀ i, i < o.attrs.length → (o.attrs.getD i at0).1.size ≤ 100000000 ∧ (o.attrs.getD i at0).2.2.2.size ≤ 100000000

end Go.Proofs.YtkehomiogkoomaaDoor
/- What scalars.Len, at, Cut, At, Width, Text, List and Pair answer. Conditions: sizes, the tables of utf8, the errors' variables. -/
set_option linter.unusedVariables false
set_option linter.unusedSimpArgs false
set_option maxRecDepth 100000
namespace Go.Proofs.YtkehomiogkoomaaDoor
open Go Go.RowKit Go.Proofs.YtkehomiogkoomaaDoorW.PrintWords RX
theorem ent91 : Ent Tryd.prog 91 := ent_of Tryd.func91 (by kernel_rfl) rfl
theorem info21 : (Tryd.prog.info? 21).map (fun i => (i.zero, i.size, i.bytes)) = some (some (.int .i32 0), 1, 4) := by kernel_rfl
end Go.Proofs.YtkehomiogkoomaaDoor
