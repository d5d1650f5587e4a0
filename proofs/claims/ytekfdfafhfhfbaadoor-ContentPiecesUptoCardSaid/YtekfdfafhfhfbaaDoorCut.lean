/- Cutting and joining inserts: the plain law. No condition. -/
import Derived.Test.YtekfdfafhfhfbaaDoorP1
set_option linter.unusedVariables false
set_option linter.unusedSimpArgs false
set_option maxRecDepth 100000
namespace Go.Proofs.YtekfdfafhfhfbaaDoor
open Go Go.RowKit Go.Proofs.YtekfdfafhfhfbaaDoorW.PrintWords RX
theorem ext_le (s : ByteArray) (i j : Nat) : (s.extract i j).size ≤ s.size := by
  rw [← U.bl_size, ← U.bl_size, U.bl_extract, List.length_take, List.length_drop]; omega
theorem bl_append (s t : ByteArray) : U.bl (s ++ t) = U.bl s ++ U.bl t := by simp [U.bl]
theorem utf_eq {s t : ByteArray} (hs : U.utf s) (ht : U.utf t) (h : U.sc s = U.sc t) : s = t := U.bl_inj (by rw [U.utf_flat hs, U.utf_flat ht, h])
theorem atP_ok {s : ByteArray} (h : U.utf s) {q : Int} (h0 : 0 ≤ q) (h1 : q ≤ (U.sc s).length) : U.atP s q = (U.pl s q.toNat, 0) := by
  unfold U.atP
  rw [if_pos (show U.tl s = [] from h), if_neg (by omega), if_pos h1]
structure CutOf (s : ByteArray) (q : Int) (a b : ByteArray) : Prop where
  ua : U.utf a
  ub : U.utf b
  sa : U.sc a = (U.sc s).take q.toNat
  sb : U.sc b = (U.sc s).drop q.toNat
  app : a ++ b = s
  la : a.size ≤ s.size
  lb : b.size ≤ s.size
theorem cut_of {s : ByteArray} (h : U.utf s) {q : Int} (h0 : 0 ≤ q) (h1 : q ≤ (U.sc s).length) : CutOf s q (U.cutP s q).1 (U.cutP s q).2.1 := by
  have hp := U.pl_split h q.toNat (by omega)
  have hle := U.pl_le h q.toNat (by omega)
  obtain ⟨a1, a2⟩ := U.utf_of (s := s.extract 0 (U.pl s q.toNat)) (rs := (U.sc s).take q.toNat) (fun r hr => U.sc_ok s r (List.mem_of_mem_take hr)) (by rw [U.bl_extract, List.drop_zero, Nat.sub_zero]; exact hp.1)
  obtain ⟨b1, b2⟩ := U.utf_of (s := s.extract (U.pl s q.toNat) s.size) (rs := (U.sc s).drop q.toNat) (fun r hr => U.sc_ok s r (List.mem_of_mem_drop hr)) (by rw [U.bl_drop]; exact hp.2)
  have e : U.cutP s q = (s.extract 0 (U.pl s q.toNat), s.extract (U.pl s q.toNat) s.size, 0) := by
    unfold U.cutP
    rw [atP_ok h h0 h1]; rfl
  rw [e]
  exact ⟨a1, b1, a2, b2, U.bl_inj (by rw [bl_append, U.bl_extract, U.bl_drop, List.drop_zero, Nat.sub_zero, List.take_append_drop]), ext_le _ _ _, ext_le _ _ _⟩
theorem cut_text {s : ByteArray} (h : U.utf s) {q : Int} (h0 : 0 ≤ q) (h1 : q ≤ (U.sc s).length) : (U.cutP s q).1 = runesBytes ((U.scz s).take q.toNat) ∧ (U.cutP s q).2.1 = runesBytes ((U.scz s).drop q.toNat) := by
  have hc := cut_of h h0 h1
  refine ⟨?_, ?_⟩
  · rw [← U.text_back hc.ua, hc.sa, List.map_take]; rfl
  · rw [← U.text_back hc.ub, hc.sb, List.map_drop]; rfl
theorem ne_of_sc {s : ByteArray} (h1 : 1 ≤ (U.sc s).length) : s ≠ ⟨#[]⟩ := fun e => by
  have := U.sc_le s
  have e2 : s.size = 0 := by rw [e]; rfl
  omega

/-! ### inserts -/
theorem refuse_text {o : OpA} (h : refuseP o = 0) (hk : o.kind = 1) : o = mkT o.text o.attrs ∧ o.text ≠ ⟨#[]⟩ ∧ U.utf o.text ∧ chkA false o.attrs = 0 := by
  have h1 := refuse_utf h
  unfold refuseP at h
  rw [if_neg (by omega)] at h
  by_cases h2 : o.count ≠ 0
  · rw [if_pos h2] at h; cases h
  · rw [if_neg h2] at h
    by_cases h3 : o.kind = 1 ∧ (o.text = ⟨#[]⟩ ∨ (o.vk, o.vn, o.vt) ≠ pl0)
    · rw [if_pos h3] at h; cases h
    · have h4 : o.text ≠ ⟨#[]⟩ := fun e => h3 ⟨hk, .inl e⟩
      have h5 : (o.vk, o.vn, o.vt) = pl0 := Classical.byContradiction fun e => h3 ⟨hk, .inr e⟩
      refine ⟨?_, h4, h1.1, h1.2.2⟩
      obtain ⟨k, t, a, b, c, n, at4⟩ := o
      simp only [pl0, Prod.mk.injEq] at h5
      obtain ⟨rfl, rfl, rfl⟩ := h5
      obtain rfl : k = 1 := hk
      obtain rfl : n = 0 := by simpa using h2
      rfl
theorem refuse_mkT {t : ByteArray} {at4 : List At} (h0 : t ≠ ⟨#[]⟩) (hu : U.utf t) (hc : chkA false at4 = 0) : refuseP (mkT t at4) = 0 := by
  have e1 : (mkT t at4).kind = 1 := rfl
  have e2 : (mkT t at4).count = 0 := rfl
  have e3 : (mkT t at4).text = t := rfl
  have e4 : ((mkT t at4).vk, (mkT t at4).vn, (mkT t at4).vt) = pl0 := rfl
  have hq : (uchk t).2 = true := by rw [U.uchk_eq]; exact decide_eq_true hu
  unfold refuseP
  rw [if_neg (by rw [e1]; decide), if_neg (by rw [e2]; decide), if_neg (fun h => h.2.elim h0 (fun h => h e4)), if_neg (fun h => absurd h.1 (by rw [e1]; decide)), e3, if_neg (by rw [hq]; decide), if_neg (fun h => absurd h.1 (by rw [e1]; decide))]
  exact hc
theorem cut_fine {o : OpA} (h : refuseP o = 0) (hk : o.kind = 1) {n : Int} (h0 : 1 ≤ n) (h1 : n < (U.sc o.text).length) :
    cutO o n = (mkT (U.cutP o.text n).1 o.attrs, mkT (U.cutP o.text n).2.1 o.attrs, 0) ∧ refuseP (mkT (U.cutP o.text n).1 o.attrs) = 0 ∧ refuseP (mkT (U.cutP o.text n).2.1 o.attrs) = 0 ∧ len4 (mkT (U.cutP o.text n).1 o.attrs) = n ∧ len4 (mkT (U.cutP o.text n).2.1 o.attrs) = (U.sc o.text).length - n ∧
      opSz (mkT (U.cutP o.text n).1 o.attrs) = opSz (mkT (U.cutP o.text n).1 o.attrs) := by
  obtain ⟨_, h2, h3, h4⟩ := refuse_text h hk
  have hc := cut_of h3 (q := n) (by omega) (by omega)
  have la : (U.sc (U.cutP o.text n).1).length = n.toNat := by rw [hc.sa, List.length_take]; omega
  have lb : (U.sc (U.cutP o.text n).2.1).length = (U.sc o.text).length - n.toNat := by rw [hc.sb, List.length_drop]
  refine ⟨by unfold cutO; rw [if_neg (by omega), if_neg (by omega)], refuse_mkT (ne_of_sc (by omega)) hc.ua h4, refuse_mkT (ne_of_sc (by omega)) hc.ub h4, ?_, ?_, rfl⟩
  · rw [len4_1 rfl]; show ((U.sc (U.cutP o.text n).1).length : Int) = n; omega
  · rw [len4_1 rfl]; show ((U.sc (U.cutP o.text n).2.1).length : Int) = _; omega
theorem opSz_mkT {o : OpA} {t : ByteArray} (h : opSz o) (ht : t.size ≤ 50000000) : opSz (mkT t o.attrs) := ⟨ht, by show (ByteArray.empty).size ≤ 50000000; decide, h.2.2.1, h.2.2.2⟩
theorem lenO_bad {o : OpA} (h : ¬ refuseP o = 0) : lenO o = 0 := if_neg h
theorem lenO_ok {o : OpA} (h : refuseP o = 0) : lenO o = len4 o := if_pos h
theorem cellsO_bad {o : OpA} (h : ¬ refuseP o = 0) : cellsO o = [] := if_neg h
theorem cellsO_ok {o : OpA} (h : refuseP o = 0) : cellsO o = cellsP o := if_pos h

/-! ### joins -/
theorem join_mk {a b : OpA} (ra : refuseP a = 0) (rb : refuseP b = 0) (ka : a.kind = 1) (kb : b.kind = 1) (e : a.attrs = b.attrs) : joinO a b = (mkT (a.text ++ b.text) a.attrs, true, 0) := by
  unfold joinO
  rw [if_neg (by omega), if_neg (by omega), if_pos ⟨ka, kb, e⟩]; rfl
/-! ### newlines -/
theorem count_enc (r : Nat) (hv : U.vr r) : (U.enc r).count 10 = if r = 10 then 1 else 0 := by
  by_cases h : r < 128
  · rw [U.enc_1 h]
    by_cases h2 : r = 10
    · subst h2; rfl
    · rw [if_neg h2, List.count_singleton, if_neg]
      intro e
      have e2 : (UInt8.ofNat r).toNat = 10 := by rw [beq_iff_eq] at e; rw [e]; rfl
      rw [UInt8.toNat_ofNat'] at e2
      omega
  · rw [if_neg (by omega)]
    refine List.count_eq_zero.2 fun hm => ?_
    have key : ∀ n : Nat, 128 ≤ n → n < 256 → (10 : UInt8) ≠ UInt8.ofNat n := fun n h0 h1 e => by
      have e2 := congrArg UInt8.toNat e
      rw [UInt8.toNat_ofNat'] at e2
      have : (10 : UInt8).toNat = 10 := rfl
      omega
    by_cases h2 : r < 2048
    · rw [U.enc_2 (by omega) h2] at hm
      simp only [List.mem_cons, List.not_mem_nil, or_false] at hm
      rcases hm with hm | hm
      · exact key _ (by omega) (by omega) hm
      · exact key _ (by omega) (by omega) hm
    · by_cases h3 : r < 65536
      · rw [U.enc_3 hv (by omega) h3] at hm
        simp only [List.mem_cons, List.not_mem_nil, or_false] at hm
        rcases hm with hm | hm | hm
        · exact key _ (by omega) (by omega) hm
        · exact key _ (by omega) (by omega) hm
        · exact key _ (by omega) (by omega) hm
      · rw [U.enc_4 hv (by omega)] at hm
        have hr : r ≤ 1114111 := by unfold U.vr at hv; omega
        simp only [List.mem_cons, List.not_mem_nil, or_false] at hm
        rcases hm with hm | hm | hm | hm
        · exact key _ (by omega) (by omega) hm
        · exact key _ (by omega) (by omega) hm
        · exact key _ (by omega) (by omega) hm
        · exact key _ (by omega) (by omega) hm
theorem count_flat : ∀ (rs : List Nat), (∀ r ∈ rs, U.vr r) → (U.flat rs).count 10 = rs.count 10
  | [], _ => rfl
  | r :: rs, h => by
    rw [U.flat_cons, List.count_append, count_enc r (h r List.mem_cons_self), count_flat rs (fun x hx => h x (List.mem_cons_of_mem _ hx)), List.count_cons]
    by_cases e : r = 10
    · subst e; simp; omega
    · rw [if_neg e, if_neg (by simpa using e)]; omega
/-- how many cells of a list are newlines -/
def nlC : List CellA → Nat
  | [] => 0
  | c :: r => nlC r + (if c.rune = 10 then 1 else 0)
theorem nlC_append : ∀ xs ys : List CellA, nlC (xs ++ ys) = nlC xs + nlC ys
  | [], ys => by simp [nlC]
  | c :: r, ys => by have := nlC_append r ys; simp only [List.cons_append, nlC]; omega
theorem nlC_map (at4 : List At) : ∀ rs : List Nat, nlC (rs.map (cellR at4)) = rs.count 10
  | [] => rfl
  | r :: rs => by
    have ih := nlC_map at4 rs
    simp only [List.map_cons, nlC, List.count_cons, ih]
    have e : (cellR at4 r).rune = (r : Int) := rfl
    rw [e]
    by_cases h : r = 10
    · subst h; simp
    · rw [if_neg (by omega), if_neg (by simpa using h)]
theorem nl_ok {o : OpA} (h : refuseP o = 0) : nlO o = (nlC (cellsP o) : Int) := by
  unfold nlO
  rcases refuse_kind h with hk | hk
  · rw [if_pos ⟨h, hk⟩, cellsP_1 hk, nlC_map]
    obtain ⟨_, _, hu, _⟩ := refuse_text h hk
    have e : Lib.countByte o.text.data.toList 10 = (U.sc o.text).count 10 := by
      show (U.bl o.text).count 10 = _
      rw [U.utf_flat hu]
      exact count_flat _ (U.sc_ok o.text)
    rw [e]
  · rw [if_neg (fun h => by omega), cellsP_2 hk]
    simp [nlC]
theorem nlO_bad {o : OpA} (h : ¬ refuseP o = 0) : nlO o = 0 := if_neg fun e => h e.1
end Go.Proofs.YtekfdfafhfhfbaaDoor
