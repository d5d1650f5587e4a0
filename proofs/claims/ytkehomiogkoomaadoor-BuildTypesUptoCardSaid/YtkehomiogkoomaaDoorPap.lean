/- Pieces each of which has memory of its own, in ranges that follow one another. No condition. -/
import Derived.Test.YtkehomiogkoomaaDoorOver2
import Derived.Test.YtkehomiogkoomaaDoorMk
set_option linter.unusedVariables false
set_option linter.unusedSimpArgs false
set_option maxRecDepth 100000
namespace Go.Proofs.YtkehomiogkoomaaDoor.RX
open Go Go.RowKit Go.Proofs.YtkehomiogkoomaaDoor Go.Proofs.YtkehomiogkoomaaDoorW.PrintWords
/-- pieces from number i on: piece j's memory lies from lo j up to hi j; all of it from base up to top -/
structure PAp (e base top : Nat) (vs : List (List Value)) (lo hi : Nat → Nat) (w : World) (A : Option Addr) (n c : Nat) (ps : List PieceA) (i : Nat) : Prop where
  r : (kRaw 1).R e w base (OkFrom base) (.slice A n c) vs
  l : vs.length = ps.length
  t : top ≤ w.heap.size
  m : ∀ j, i ≤ j → j < ps.length → base ≤ lo j ∧ hi j ≤ top ∧ kPiece.M w (lo j) (fun k => lo j ≤ k ∧ k < hi j) (ps.getD j piece0) (vs.getD j [])
  o : ∀ j k, i ≤ j → j < k → k < ps.length → hi j ≤ lo k
section
variable {e base top : Nat} {vs : List (List Value)} {lo hi : Nat → Nat} {w w1 : World} {A : Option Addr} {n c : Nat} {ps : List PieceA} {i : Nat}
theorem PAp.nil {w : World} (h : base ≤ w.heap.size) : PAp e base base [] (fun _ => 0) (fun _ => 0) w none 0 0 [] 0 :=
  ⟨Kd.R_nil _ _ _ _ _, rfl, h, fun j _ h => absurd h (Nat.not_lt_zero _), fun j k _ _ h => absurd h (Nat.not_lt_zero _)⟩
theorem PAp.len (h : PAp e base top vs lo hi w A n c ps i) : n = ps.length ∧ n ≤ c := by
  obtain ⟨h1, h2⟩ := Kd.R_len h.r
  exact ⟨by rw [h1, h.l], h2⟩
theorem PAp.below (h : PAp e base top vs lo hi w A n c ps i) (hb : Below w.heap.size w w1) : PAp e base top vs lo hi w1 A n c ps i :=
  ⟨Kd.R_below h.r hb, h.l, Nat.le_trans h.t hb.size, fun j h1 h2 => by
    obtain ⟨a, b, d⟩ := h.m j h1 h2
    exact ⟨a, b, Kd.M_below d hb⟩, h.o⟩
theorem PAp.next (h : PAp e base top vs lo hi w A n c ps i) : PAp e base top vs lo hi w A n c ps (i + 1) := ⟨h.r, h.l, h.t, fun j h1 h2 => h.m j (by omega) h2, fun j k h1 => h.o j k (by omega)⟩
/-- the outer row's block has another type than the pieces' memory -/
theorem PAp.mv (h : PAp e base top vs lo hi w A n c ps i) (hE : kPiece.E.contains e = false) (hg : w.grownBy w1 (A.map (·.block))) {j : Nat} {x : PieceA} {cs : List Value} {ok : Nat → Prop} (hM : kPiece.M w (lo j) ok x cs) : kPiece.M w1 (lo j) ok x cs := by
  refine kPiece.M_mono (fun k hk => hk.1) (Kd.M_grown (kPiece.M_bound hM) hg fun k hk e1 => ?_)
  obtain ⟨_, _, _, q, hq, cells, hc⟩ := hk
  obtain ⟨_, inner, hown, _⟩ := h.r
  obtain ⟨cells2, hc2⟩ := own_typed hown k (by rw [ownB]; exact e1.symm)
  rw [hc2] at hc
  injection hc with hc
  injection hc with _ e2
  subst e2
  rw [List.contains_iff_mem.2 hq] at hE
  cases hE
/-- piece i's memory has been written over -/
theorem PAp.spoil {t : Nat} {ok : Nat → Prop} (h : PAp e base top vs lo hi w A n c ps i) (hs : SpoilO (· = t) ok w w1) (hne : e ≠ t) (hok : ∀ k, ok k → k < w.heap.size → k < hi i ∧ lo i ≤ k) (hi0 : i < ps.length) : PAp e base top vs lo hi w1 A n c ps (i + 1) :=
  ⟨by
    obtain ⟨h0, inner, hown, hr⟩ := h.r
    refine Kd.R_step (ok := fun k => OkFrom base k ∧ A.map (·.block) = some k) ⟨fun k hk => ⟨h0 k hk, by rw [← ownB]; exact hk⟩, inner, hown, hr⟩ (fun k hk hlt => ?_) |> fun z => Kd.R_mono z fun k hk => hk.1
    obtain ⟨cells, hc⟩ := own_typed hown k (by rw [ownB]; exact hk.2)
    rcases hs.k k hlt with h1 | ⟨_, e2, cs, cs', he, hb, _⟩
    · exact h1
    · have he : e2 = t := he
      rw [show w.heap[k]? = _ from hb] at hc
      injection hc with hc
      injection hc with _ e3
      exact absurd (e3.symm.trans he) hne,
   h.l, Nat.le_trans h.t hs.size, fun j h1 h2 => by
    obtain ⟨a, b, d⟩ := h.m j (by omega) h2
    have ho := h.o i j (Nat.le_refl _) (by omega) h2
    refine ⟨a, b, Kd.M_step d fun k hk hlt => (hs.k k hlt).resolve_right fun ⟨hk2, _⟩ => ?_⟩
    have := hok k hk2 hlt
    omega, fun j k h1 => h.o j k (by omega)⟩
/-- piece i has been written -/
theorem PAp.put {v : List Value} (h : PAp e base top vs lo hi w A n c ps (i + 1)) (hE : kPiece.E.contains e = false) (hg : w.grownBy w1 (A.map (·.block))) (hr : (kRaw 1).R e w1 base (OkFrom base) (.slice A n c) (vs.set i v)) : PAp e base top (vs.set i v) lo hi w1 A n c ps (i + 1) :=
  ⟨hr, by rw [List.length_set, h.l], Nat.le_trans h.t hg.size, fun j h1 h2 => by
    obtain ⟨a, b, d⟩ := h.m j h1 h2
    refine ⟨a, b, h.mv hE hg ?_⟩
    have e1 : (vs.set i v).getD j [] = vs.getD j [] := by rw [List.getD_eq_getElem?_getD, List.getElem?_set_ne (by omega), ← List.getD_eq_getElem?_getD]
    rw [e1]
    exact d, h.o⟩
theorem PAp.snoc {L : Nat} {v : Value} {p : PieceA} {A1 : Option Addr} {c1 : Nat} (h : PAp e base top vs lo hi w A n c ps 0) (hE : kPiece.E.contains e = false) (hg : w.grownBy w1 (A.map (·.block))) (hr : (kRaw 1).R e w1 base (OkFrom base) (.slice A1 (vs ++ [[v]]).length c1) (vs ++ [[v]])) (hL : top ≤ L) (hLw : L ≤ w.heap.size) (hb0 : base ≤ top) (hM : kPiece.M w L (OkFrom L) p [v]) :
    PAp e base w.heap.size (vs ++ [[v]]) (fun j => if j = ps.length then L else lo j) (fun j => if j = ps.length then w.heap.size else hi j) w1 A1 (ps ++ [p]).length c1 (ps ++ [p]) 0 := by
  have hl := h.l
  have hlen : (vs ++ [[v]]).length = (ps ++ [p]).length := by rw [List.length_append, List.length_append, hl]; rfl
  rw [hlen] at hr
  refine ⟨hr, hlen, hg.size, fun j _ h2 => ?_, fun j k _ h1 h2 => ?_⟩
  · rw [List.length_append, List.length_singleton] at h2
    by_cases hj : j = ps.length
    · subst hj
      rw [if_pos rfl, if_pos rfl]
      refine ⟨Nat.le_trans hb0 hL, Nat.le_refl _, ?_⟩
      have e1 : (ps ++ [p]).getD ps.length piece0 = p := by rw [List.getD_eq_getElem?_getD, List.getElem?_append_right (Nat.le_refl _), Nat.sub_self]; rfl
      have e2 : (vs ++ [[v]]).getD ps.length [] = [v] := by rw [← hl, List.getD_eq_getElem?_getD, List.getElem?_append_right (Nat.le_refl _), Nat.sub_self]; rfl
      rw [e1, e2]
      have h3 := kPiece.M_mono (ok' := fun k => L ≤ k ∧ k < w.heap.size) (fun k hk => ⟨hk.1, hk.2.2.1⟩) (kPiece.M_bound hM)
      have hmv : ∀ {x : PieceA} {cs : List Value} {ok : Nat → Prop}, kPiece.M w L ok x cs → kPiece.M w1 L ok x cs := fun {x cs ok} hx => PAp.mv (lo := fun _ => L) (j := 0) (i := (ps.length)) (top := top) (hi := hi) (ps := ps) ⟨h.r, h.l, h.t, fun j a b => by omega, fun j k a b d => by omega⟩ hE hg hx
      exact hmv h3
    · rw [if_neg hj, if_neg hj]
      obtain ⟨a, b, d⟩ := h.m j (Nat.zero_le _) (by omega)
      refine ⟨a, Nat.le_trans b h.t, ?_⟩
      have e1 : (ps ++ [p]).getD j piece0 = ps.getD j piece0 := by rw [List.getD_eq_getElem?_getD, List.getElem?_append_left (by omega), ← List.getD_eq_getElem?_getD]
      have e2 : (vs ++ [[v]]).getD j [] = vs.getD j [] := by rw [List.getD_eq_getElem?_getD, List.getElem?_append_left (by omega), ← List.getD_eq_getElem?_getD]
      rw [e1, e2]
      exact h.mv hE hg d
  · rw [List.length_append, List.length_singleton] at h2
    show (if j = ps.length then w.heap.size else hi j) ≤ (if k = ps.length then L else lo k)
    rw [if_neg (by omega)]
    by_cases hk : k = ps.length
    · rw [if_pos hk]
      exact Nat.le_trans (h.m j (Nat.zero_le _) (by omega)).2.1 hL
    · rw [if_neg hk]
      exact h.o j k (Nat.zero_le _) h1 (by omega)
theorem PAp.at (h : PAp e base top vs lo hi w A n c ps i) (hi0 : i < ps.length) : ∃ ad v, A = some ad ∧ CellsAt w (ad.add (((i : Nat) : Int).toNat * 1)) [v] ∧ kPiece.M w (lo i) (fun k => lo i ≤ k ∧ k < hi i) (ps.getD i piece0) [v] ∧ vs.getD i [] = [v] := by
  obtain ⟨hl1, hl2⟩ := h.len
  obtain ⟨_, _, hM⟩ := h.m i (Nat.le_refl _) hi0
  obtain ⟨v, hv⟩ := List.length_eq_one_iff.1 (kPiece.K_len (kPiece.K_of_M hM))
  obtain ⟨ad, cc, hA, hK, hc⟩ := Kd.atC (Kd.R_C h.r) [] (i := (i : Int)) (by omega) (by omega)
  obtain rfl : cc = vs.getD i [] := hK.1
  rw [hv] at hc hM
  exact ⟨ad, v, hA, hc, hM, hv⟩
theorem PAp.low {base' : Nat} (h : PAp e base top vs lo hi w A n c ps i) (hb : base' ≤ base) : PAp e base' top vs lo hi w A n c ps i :=
  ⟨Kd.R_low h.r hb, h.l, h.t, fun j h1 h2 => by
    obtain ⟨a, b⟩ := h.m j h1 h2
    exact ⟨Nat.le_trans hb a, b⟩, h.o⟩
theorem PAp.C (h : PAp e base top vs lo hi w A n c ps 0) : kPiece.C w A n ps := Kd.C_ofRaw piece0 (Kd.R_C h.r) h.len.1.symm fun i hi => kPiece.K_of_M (h.m i (Nat.zero_le _) (by have := h.len.1; omega)).2.2
end
theorem XL_appendPAp {P : Program} {N : Nat} {ops : Array Oper} {qs : QS} {rest : List Oper} {o : Oper} {l : Slots} {s x : Operand} {t : TypeId} (ho : o.op = .call { callee := .builtin .append, args := #[s, x], argTypes := #[t, t] }) (hg : gd ops l o = some true) (hd : okD N o.dst = true) (e : Nat) (z : Value)
    (ht : P.underlying t = some (.slice e)) (hinfo : (P.info? e).map (fun i => (i.zero, i.size, i.bytes)) = some (some z, 1, 16)) (hz : z.cells.size = 1) {base top L : Nat} {vs : List (List Value)} {lo hi : Nat → Nat} {W : World} {A : Option Addr} {n c : Nat} {ps : List PieceA} (p : PieceA) (v : Value)
    (hv : evs l [s, x] = some [.slice A n c, .slice (some ⟨W.heap.size, 0, none⟩) 1 1]) (H : PAp e base top vs lo hi W A n c ps 0) (hE : kPiece.E.contains e = false) (hL : top ≤ L) (hLw : L ≤ W.heap.size) (hb0 : base ≤ top) (hM : kPiece.M W L (OkFrom L) p [v]) (hl : (ps.length + 1) * 16 ≤ 140737488355328)
    (hn : ∀ A1 c1 w1 vs' lo' hi', PAp e base W.heap.size vs' lo' hi' w1 A1 (ps ++ [p]).length c1 (ps ++ [p]) 0 → W.grownBy w1 (A.map (·.block)) → (∀ k, A.map (·.block) = some k → base ≤ k) → XL P N ops rest qs (putS l o.dst (.slice A1 (ps ++ [p]).length c1)) w1) : XL P N ops (o :: rest) qs l (W.alloc (.cells #[v] e)) := by
  have h1 : ∀ u ∈ [v], u.oneCell' = true := kPiece.K_one (kPiece.K_of_M hM)
  refine XL_append (kRaw 1) ho hg hd base e z 16 ht hinfo hz (by decide) (by decide) vs [v] [v] (fun _ => False) hv ⟨rfl, rfl, h1⟩ (fun _ h => h.elim) H.r (Nat.le_trans hb0 H.t) (by rw [H.l]; exact hl) ?_
  intro A1 c1 w1 hr hc hgr hle hat
  have hlen : (vs ++ [[v]]).length = (ps ++ [p]).length := by rw [List.length_append, List.length_append, H.l]; rfl
  have hs := PAp.snoc H hE hgr hr hL hLw hb0 hM
  rw [hlen]
  exact hn A1 c1 w1 _ _ _ hs hgr hle
end Go.Proofs.YtkehomiogkoomaaDoor.RX
