import Derived.Test.YtgphmfnkeolbcaaDoorOp2
import Derived.Test.YtgphmfnkeolbcaaDoorAt
/- Rows with spare room behind them (package vellumspare), and rows that are written over. No condition. -/
set_option linter.unusedVariables false
set_option linter.unusedSimpArgs false
set_option maxRecDepth 100000
namespace Go.Proofs.YtgphmfnkeolbcaaDoor.RX
open Go Go.RowKit Go.Proofs.YtgphmfnkeolbcaaDoorW.PrintWords

/-- a slice over a block of its own, whatever lies there: its block has so many cells of this type -/
def Lies (e sz lo hi : Nat) (w : World) (B : Option Addr) (m c : Nat) : Prop :=
  m ≤ 9223372036854775807 ∧ ((B = none ∧ m = 0) ∨ ∃ g cs, B = some ⟨g, 0, none⟩ ∧ lo ≤ g ∧ g < hi ∧ RX.Blk w g e cs ∧ m * sz ≤ cs.size)
theorem Lies.less {e sz lo hi : Nat} {w : World} {B : Option Addr} {m c m' : Nat} (h : Lies e sz lo hi w B m c) (hm : m' ≤ m) : Lies e sz lo hi w B m' c := by
  obtain ⟨h1, h⟩ := h
  refine ⟨by omega, ?_⟩
  rcases h with ⟨h, h0⟩ | ⟨g, cs, h, h2, h3, h4, h5⟩
  · exact .inl ⟨h, by omega⟩
  · have : m' * sz ≤ m * sz := Nat.mul_le_mul_right _ hm
    exact .inr ⟨g, cs, h, h2, h3, h4, by omega⟩
theorem Lies.below {e sz lo hi : Nat} {w w1 : World} {B : Option Addr} {m c : Nat} (hb : Below w.heap.size w w1) (h : Lies e sz lo hi w B m c) : Lies e sz lo hi w1 B m c := by
  obtain ⟨h1, h⟩ := h
  refine ⟨h1, ?_⟩
  rcases h with h | ⟨g, cs, h, h2, h3, h4, h5⟩
  · exact .inl h
  · exact .inr ⟨g, cs, h, h2, h3, h4.below hb, h5⟩
/-- a block has been written: of the same type and size -/
theorem Lies.wrote {e sz lo hi : Nat} {w w1 : World} {B : Option Addr} {m c : Nat} (h : Lies e sz lo hi w B m c) {g e' : Nat} {cs cs' : Array Value} (hg : w.grownBy w1 (some g)) (h0 : RX.Blk w g e' cs) (h1 : RX.Blk w1 g e' cs') (hs : cs'.size = cs.size) : Lies e sz lo hi w1 B m c := by
  obtain ⟨h9, h⟩ := h
  refine ⟨h9, ?_⟩
  rcases h with h | ⟨g2, cs2, h, h2, h3, h4, h5⟩
  · exact .inl h
  · by_cases hq : g2 = g
    · subst hq
      have e1 : (some (Obj.cells cs e' (0, 0)) : Option Obj) = some (.cells cs2 e (0, 0)) := h0.symm.trans h4
      injection e1 with e1
      injection e1 with e1 e2
      subst e1; subst e2
      exact .inr ⟨g2, cs', h, h2, h3, h1, by omega⟩
    · exact .inr ⟨g2, cs2, h, h2, h3, h4.other hg hq, h5⟩

/-- what is written over: only blocks from lo up to hi -/
structure Spoilt (lo hi : Nat) (w w' : World) : Prop where
  b : Below lo w w'
  k : ∀ g, hi ≤ g → g < w.heap.size → w'.heap[g]? = w.heap[g]?
theorem Spoilt.refl (lo hi : Nat) (w : World) : Spoilt lo hi w w := ⟨Below.refl _ _, fun _ _ _ => rfl⟩
theorem Spoilt.below {lo hi : Nat} {w w1 w2 : World} (h : Spoilt lo hi w w1) (hb : Below w1.heap.size w1 w2) (hl : lo ≤ w.heap.size) : Spoilt lo hi w w2 :=
  ⟨h.b.trans (hb.mono (Nat.le_trans hl h.b.size)), fun g h1 h2 => (hb.block g (Nat.lt_of_lt_of_le h2 h.b.size)).trans (h.k g h1 h2)⟩
theorem Spoilt.wrote {lo hi : Nat} {w w1 w2 : World} (h : Spoilt lo hi w w1) {g : Nat} (hg : w1.grownBy w2 (some g)) (h1 : lo ≤ g) (h2 : g < hi) (hl : lo ≤ w.heap.size) : Spoilt lo hi w w2 :=
  ⟨h.b.grown hg (Nat.le_trans hl h.b.size) fun k hk => by injection hk with hk; omega, fun k h3 h4 => (hg.block k (Nat.lt_of_lt_of_le h4 h.b.size) fun e => by injection e with e; omega).trans (h.k k h3 h4)⟩
theorem Spoilt.blk {lo hi : Nat} {w w1 : World} {g t : Nat} {cs : Array Value} (hs : Spoilt lo hi w w1) (h : RX.Blk w g t cs) (hb : hi ≤ g) : RX.Blk w1 g t cs := (hs.k g hb h.lt).trans h
/-- the rows inside a row: each element ends in a slice that lies -/
def Nest (p e sz lo hi : Nat) (w : World) (vss : List (List Value)) : Prop :=
  ∀ i, i < vss.length → ∃ pre B m c, vss.getD i [] = pre ++ [.slice B m c] ∧ pre.length = p ∧ (∀ u ∈ pre, u.oneCell' = true) ∧ Lies e sz lo hi w B m c
theorem Nest.below {p e sz lo hi : Nat} {w w1 : World} {vss : List (List Value)} (hb : Below w.heap.size w w1) (h : Nest p e sz lo hi w vss) : Nest p e sz lo hi w1 vss := fun i hi => by
  obtain ⟨pre, B, m, c, h1, h2, h3, h4⟩ := h i hi
  exact ⟨pre, B, m, c, h1, h2, h3, h4.below hb⟩
theorem Nest.wrote {p e sz lo hi : Nat} {w w1 : World} {vss : List (List Value)} (h : Nest p e sz lo hi w vss) {g e' : Nat} {cs cs' : Array Value} (hg : w.grownBy w1 (some g)) (h0 : RX.Blk w g e' cs) (h1 : RX.Blk w1 g e' cs') (hs : cs'.size = cs.size) : Nest p e sz lo hi w1 vss := fun i hi => by
  obtain ⟨pre, B, m, c, a, b, d, e⟩ := h i hi
  exact ⟨pre, B, m, c, a, b, d, e.wrote hg h0 h1 hs⟩
theorem Nest.set {p e sz lo hi : Nat} {w : World} {vss : List (List Value)} (h : Nest p e sz lo hi w vss) {i : Nat} {pre : List Value} {B : Option Addr} {m c : Nat} (h1 : pre.length = p) (h2 : ∀ u ∈ pre, u.oneCell' = true) (h3 : Lies e sz lo hi w B m c) : Nest p e sz lo hi w (vss.set i (pre ++ [.slice B m c])) := fun j hj => by
  rw [List.length_set] at hj
  rw [List.getD_eq_getElem?_getD]
  by_cases hij : i = j
  · subst hij
    rw [List.getElem?_set_self hj]
    exact ⟨pre, B, m, c, rfl, h1, h2, h3⟩
  · rw [List.getElem?_set_ne hij, ← List.getD_eq_getElem?_getD]
    exact h j hj
theorem Kd.R_take {α : Type} {d : Kd α} {e : Nat} {w : World} {base : Nat} {ok : Nat → Prop} {A : Option Addr} {n c m : Nat} {xs : List α} (h : d.R e w base ok (.slice A n c) xs) (hm : m ≤ n) : d.R e w base ok (.slice A m c) (xs.take m) := by
  obtain ⟨h0, inner, ho, hr⟩ := h
  have hn : xs.length = n := by
    rcases ho.2 with ⟨h1, h2⟩ | ⟨g, cap, cur, he, _⟩
    · injection h1 with _ h1; omega
    · injection he with _ h1; exact h1.symm
  have hlm : (xs.take m).length = m := by rw [List.length_take]; omega
  have hms : m * d.sz ≤ n * d.sz := Nat.mul_le_mul_right _ hm
  have hob : (Value.slice A m c).ownBlock = (Value.slice A n c).ownBlock := by rw [ownB, ownB]
  refine ⟨fun k hk => h0 k (hob ▸ hk), inner.take (m * d.sz), ⟨?_, ?_⟩, ?_, fun j p hj => ?_⟩
  · rw [List.length_take, ho.1, hn, hlm]; omega
  · rw [hlm]
    rcases ho.2 with ⟨h1, h2⟩ | ⟨g, cap, cur, he, hb, hh, hn2, hm2, hs, ht⟩
    · injection h1 with h1 h3 h4
      refine .inl ⟨?_, by omega⟩
      rw [h1, h4, show m = 0 from by omega]
    · injection he with h1 h3 h4
      refine .inr ⟨g, cap, cur, ?_, hb, hh, by omega, hm2, hs, ?_⟩
      · rw [h1, h4]
      · rw [← ht, List.take_take, hn, Nat.min_eq_left hms]
  · rw [List.length_take, hr.1, hn, hlm]; omega
  · have hj1 := (List.getElem?_eq_some_iff.1 hj).1
    rw [hlm] at hj1
    rw [List.getElem?_take, if_pos hj1] at hj
    have := hr.2 j p hj
    rw [List.drop_take, List.take_take]
    have h5 : (j + 1) * d.sz ≤ m * d.sz := Nat.mul_le_mul_right _ hj1
    rw [Nat.succ_mul] at h5
    rw [Nat.min_eq_left (by omega)]
    rw [hob]
    exact this
theorem Kd.R_off {α : Type} {d : Kd α} {e : Nat} {w w1 : World} {base : Nat} {ok : Nat → Prop} {v : Value} {xs : List α} (h : d.R e w base ok v xs) {g t : Nat} {cs : Array Value} (hb : RX.Blk w g t cs) (hne : (e :: d.E).contains t = false) (hg : w.grownBy w1 (some g)) : d.R e w1 base ok v xs := by
  have h2 := Kd.R_types h hb (fun q hq e => by subst e; rw [List.contains_iff_mem.2 hq] at hne; cases hne)
  exact Kd.R_mono (Kd.R_grown h2 hg (fun k hk e => by injection e with e; exact hk.2 e)) (fun _ hk => hk.1)
theorem reps_raw {n : Nat} {w : World} {base : Nat} {ok : Nat → Prop} : ∀ (vss : List (List Value)), (vss.all fun v => v.length == n && v.all fun u => u.oneCell') = true → Reps ((kRaw n).M w base ok) n vss vss.flatten
  | [], _ => Reps.none _ _
  | v :: r, h => by
    simp only [List.all_cons, Bool.and_eq_true, beq_iff_eq] at h
    have hs : Reps ((kRaw n).M w base ok) n [v] v := by
      have := (Reps.none ((kRaw n).M w base ok) n).snoc (p := v) (c := v) ⟨rfl, h.1.1, fun u hu => List.all_eq_true.1 h.1.2 u hu⟩ h.1.1
      simpa using this
    have := Kd.reps_append hs (reps_raw r (by rw [h.2]))
    simpa using this
theorem C_lit1 {w : World} {A : Option Addr} {a : OpA} {vs : List (List Value)} (h : (kRaw 7).C w A 1 vs) (ha : kOp.K w a (vs.getD 0 [])) : kOp.C w A 1 [a] :=
  Kd.C_ofRaw (d := kOp) op0 h rfl fun i hi => by
    obtain rfl : i = 0 := by omega
    exact ha
theorem Lies.at {e sz lo hi : Nat} {w : World} {B : Option Addr} {m c : Nat} (h : Lies e sz lo hi w B m c) (h0 : 0 < m) : ∃ g cs, B = some ⟨g, 0, none⟩ ∧ lo ≤ g ∧ g < hi ∧ RX.Blk w g e cs ∧ m * sz ≤ cs.size := by
  rcases h.2 with ⟨_, h⟩ | h
  · omega
  · exact h
theorem Lies.apart {α : Type} {d : Kd α} {e e' sz lo hi : Nat} {w w1 : World} {base : Nat} {ok : Nat → Prop} {A B : Option Addr} {m c n c' : Nat} {xs : List α} (h : Lies e sz lo hi w B m c) (hR : d.R e' w base ok (.slice A n c') xs) (hne : e ≠ e') (hg : w.grownBy w1 (A.map (·.block))) : Lies e sz lo hi w1 B m c := by
  obtain ⟨h1, h⟩ := h
  refine ⟨h1, ?_⟩
  rcases h with h | ⟨g, cs, h, h2, h3, h4, h5⟩
  · exact .inl h
  · refine .inr ⟨g, cs, h, h2, h3, h4.ne hg fun k hk hq => ?_, h5⟩
    subst hq
    obtain ⟨inner, ho⟩ := Kd.R_own hR
    obtain ⟨cells, hb⟩ := own_typed ho k (by rw [ownB]; exact hk)
    have e1 : (some (Obj.cells cs e (0, 0)) : Option Obj) = some (.cells cells e' (0, 0)) := h4.symm.trans hb
    injection e1 with e1
    injection e1 with _ e2
    exact hne e2
theorem Nest.apart {α : Type} {d : Kd α} {p e e' sz lo hi : Nat} {w w1 : World} {base : Nat} {ok : Nat → Prop} {A : Option Addr} {n c' : Nat} {xs : List α} {vss : List (List Value)} (h : Nest p e sz lo hi w vss) (hR : d.R e' w base ok (.slice A n c') xs) (hne : e ≠ e') (hg : w.grownBy w1 (A.map (·.block))) : Nest p e sz lo hi w1 vss := fun i hi => by
  obtain ⟨pre, B, m, c, a, b, d, e⟩ := h i hi
  exact ⟨pre, B, m, c, a, b, d, e.apart hR hne hg⟩
theorem Nest.lies {p e sz lo hi : Nat} {w : World} {vss : List (List Value)} (h : Nest p e sz lo hi w vss) {i : Nat} (hil : i < vss.length) {pre : List Value} {B : Option Addr} {m c : Nat} (hv : vss.getD i [] = pre ++ [.slice B m c]) : Lies e sz lo hi w B m c := by
  obtain ⟨pre', B', m', c', h1, _, _, h2⟩ := h i hil
  rw [hv] at h1
  obtain ⟨_, h3⟩ := List.append_inj' h1 rfl
  have h3 := (List.cons.inj h3).1
  injection h3 with a b c
  subst a; subst b; subst c
  exact h2
theorem setAll_size : ∀ (vs : List Value) (cs : Array Value) (i : Nat), (setAll cs i vs).size = cs.size
  | [], _, _ => rfl
  | v :: r, cs, i => by
    show (setAll (cs.setIfInBounds i v) (i + 1) r).size = _
    rw [setAll_size r, Array.size_setIfInBounds]
end Go.Proofs.YtgphmfnkeolbcaaDoor.RX
