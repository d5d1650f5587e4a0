import Derived.Test.YtgphmfnkeolbcaaGreatDoorClp
import Derived.Test.YtgphmfnkeolbcaaGreatDoorMk
import Derived.Test.YtgphmfnkeolbcaaGreatDoorIn
/- Lines: as elements; what a document's lines are, cell by cell. No condition. -/
set_option linter.unusedVariables false
set_option linter.unusedSimpArgs false
set_option maxRecDepth 100000
namespace Go.Proofs.YtgphmfnkeolbcaaGreatDoor
open Go Go.RowKit Go.Proofs.YtgphmfnkeolbcaaGreatDoorW.PrintWords RX
structure LineA where
  from_ : Int
  len : Int
  attrs : List At
  text : ByteArray
def line0 : LineA := ⟨0, 0, [], ByteArray.empty⟩
def LineA.tup (o : LineA) : Int × Int × List At × ByteArray := (o.from_, o.len, o.attrs, o.text)
def kLine : Kd LineA := Kd.comap LineA.tup (Kd.pair (Kd.int .i64) (Kd.pair (Kd.int .i64) (Kd.pair kAttrs Kd.string)))
def lineV (x : LineA) (A : Option Addr) (c : Nat) : List Value := [.int .i64 x.from_, .int .i64 x.len, .slice A x.attrs.length c, .string x.text]
theorem kLine_K {w : World} {x : LineA} {cs : List Value} (h : kLine.K w x cs) : ∃ A c, cs = lineV x A c ∧ x.attrs.length ≤ c ∧ kAttr.C w A x.attrs.length x.attrs := by
  obtain ⟨_, _, rfl, rfl, _, _, rfl, rfl, _, _, rfl, ⟨A, c, rfl, hl, hC⟩, rfl⟩ := h
  exact ⟨A, c, rfl, hl, hC⟩
theorem kLine_K_of {w : World} {x : LineA} {A : Option Addr} {c : Nat} (hl : x.attrs.length ≤ c) (hC : kAttr.C w A x.attrs.length x.attrs) : kLine.K w x (lineV x A c) :=
  ⟨[.int .i64 x.from_], _, rfl, rfl, [.int .i64 x.len], _, rfl, rfl, [.slice A x.attrs.length c], [.string x.text], rfl, ⟨A, c, rfl, hl, hC⟩, rfl⟩
theorem RX.Kd.atLine {w : World} {A : Option Addr} {n : Nat} {xs : List LineA} (h : kLine.C w A n xs) {i : Int} (h0 : 0 ≤ i) (h1 : i < n) : ∃ ad B c, A = some ad ∧ CellsAt w (ad.add (i.toNat * 4)) (lineV (xs.getD i.toNat line0) B c) ∧ (xs.getD i.toNat line0).attrs.length ≤ c ∧ kAttr.C w B (xs.getD i.toNat line0).attrs.length (xs.getD i.toNat line0).attrs := by
  obtain ⟨ad, cs, e, hK, hc⟩ := Kd.atC h line0 h0 h1
  obtain ⟨B, c, rfl, hl, hC⟩ := kLine_K hK
  exact ⟨ad, B, c, e, hc, hl, hC⟩
theorem kLine_M {w : World} {base : Nat} {ok : Nat → Prop} {x : LineA} {B : Option Addr} {c : Nat} (h : kAttrs.M w base ok x.attrs [.slice B x.attrs.length c]) : kLine.M w base ok x (lineV x B c) :=
  ⟨[.int .i64 x.from_], _, rfl, rfl, [.int .i64 x.len], _, rfl, rfl, [.slice B x.attrs.length c], [.string x.text], rfl, h, rfl⟩
theorem repsLine0 {w : World} {base : Nat} {ok : Nat → Prop} : Reps (kLine.M w base ok) 4 [] [] := Reps.none _ _
def letL (c : CellA) : Int := if c.rune < 0 then 65532 else c.rune
abbrev LSt := List LineA × List Int × Nat × Nat
def lnStep (s : LSt) (c : CellA) : LSt := if c.rune = 10 then (s.1 ++ [⟨(s.2.2.1 : Int), (s.2.1.length : Int), c.attrs, runesBytes s.2.1⟩], [], s.2.2.2 + 1, s.2.2.2 + 1) else (s.1, s.2.1 ++ [letL c], s.2.2.1, s.2.2.2 + 1)
def lnRun (cs : List CellA) : LSt := cs.foldl lnStep ([], [], 0, 0)
theorem lnRun_snoc (cs : List CellA) (c : CellA) : lnRun (cs ++ [c]) = lnStep (lnRun cs) c := by unfold lnRun; rw [List.foldl_append]; rfl
theorem lnRun_nl {cs : List CellA} {c : CellA} (h : c.rune = 10) : lnRun (cs ++ [c]) = ((lnRun cs).1 ++ [⟨((lnRun cs).2.2.1 : Int), ((lnRun cs).2.1.length : Int), c.attrs, runesBytes (lnRun cs).2.1⟩], [], (lnRun cs).2.2.2 + 1, (lnRun cs).2.2.2 + 1) := by rw [lnRun_snoc]; exact if_pos h
theorem lnRun_tx {cs : List CellA} {c : CellA} (h : ¬ c.rune = 10) : lnRun (cs ++ [c]) = ((lnRun cs).1, (lnRun cs).2.1 ++ [letL c], (lnRun cs).2.2.1, (lnRun cs).2.2.2 + 1) := by rw [lnRun_snoc]; exact if_neg h
theorem lnRun_inv : ∀ cs : List CellA, (lnRun cs).2.2.2 = cs.length ∧ (lnRun cs).2.2.1 + (lnRun cs).2.1.length = cs.length ∧ (lnRun cs).2.1 = (cs.drop (lnRun cs).2.2.1).map letL ∧ (lnRun cs).1.length ≤ cs.length := by
  refine B.snoc_ind ⟨rfl, rfl, rfl, Nat.le_refl _⟩ ?_
  intro cs c ⟨h1, h2, h3, h4⟩
  by_cases hc : c.rune = 10
  · rw [lnRun_nl hc]
    refine ⟨?_, ?_, ?_, ?_⟩
    · show (lnRun cs).2.2.2 + 1 = _; rw [h1, List.length_append]; rfl
    · show (lnRun cs).2.2.2 + 1 + 0 = _; rw [h1, List.length_append]; rfl
    · show ([] : List Int) = ((cs ++ [c]).drop ((lnRun cs).2.2.2 + 1)).map letL
      rw [h1, List.drop_of_length_le (by rw [List.length_append]; exact Nat.le_refl _)]; rfl
    · show ((lnRun cs).1 ++ [_]).length ≤ _
      rw [List.length_append, List.length_append]; simp only [List.length_singleton]; omega
  · rw [lnRun_tx hc]
    refine ⟨?_, ?_, ?_, ?_⟩
    · show (lnRun cs).2.2.2 + 1 = _; rw [h1, List.length_append]; rfl
    · show (lnRun cs).2.2.1 + ((lnRun cs).2.1 ++ [letL c]).length = _
      rw [List.length_append, List.length_append, List.length_singleton, List.length_singleton]; omega
    · show (lnRun cs).2.1 ++ [letL c] = ((cs ++ [c]).drop (lnRun cs).2.2.1).map letL
      rw [List.drop_append_of_le_length (by omega), List.map_append, ← h3]; rfl
    · show (lnRun cs).1.length ≤ _
      rw [List.length_append]; omega
def lnEnds (cs : List CellA) : Bool := decide (0 < (lnRun cs).1.length) && decide ((lnRun cs).2.1.length = 0)
theorem lnEnds_nil : lnEnds [] = false := rfl
theorem lnEnds_snoc (cs : List CellA) (c : CellA) : lnEnds (cs ++ [c]) = decide (c.rune = 10) := by
  unfold lnEnds
  by_cases hc : c.rune = 10
  · rw [lnRun_nl hc, decide_eq_true hc]
    show (decide (0 < ((lnRun cs).1 ++ [_]).length) && decide (([] : List Int).length = 0)) = true
    rw [List.length_append]; simp
  · rw [lnRun_tx hc, decide_eq_false hc]
    show (decide (0 < (lnRun cs).1.length) && decide (((lnRun cs).2.1 ++ [letL c]).length = 0)) = false
    rw [List.length_append]; simp
theorem lnEnds_iff (cs : List CellA) : lnEnds cs = true ↔ 0 < cs.length ∧ (cs.getD (cs.length - 1) cell0).rune = 10 := by
  rcases B.snoc_cases cs with rfl | ⟨ys, a, rfl⟩
  · rw [lnEnds_nil]; simp
  · rw [lnEnds_snoc, decide_eq_true_eq, List.length_append, List.length_singleton, Nat.add_sub_cancel]
    have e : (ys ++ [a]).getD ys.length cell0 = a := by rw [List.getD_eq_getElem?_getD, List.getElem?_append_right (Nat.le_refl _), Nat.sub_self]; rfl
    rw [e]
    exact ⟨fun h => ⟨by omega, h⟩, fun h => h.2⟩
def lnChain (at0_ : Int) : List LineA → Prop
  | [] => True
  | l :: r => l.from_ = at0_ ∧ 0 ≤ l.len ∧ lnChain (at0_ + l.len + 1) r
def lnEnd (at0_ : Int) : List LineA → Int
  | [] => at0_
  | l :: r => lnEnd (at0_ + l.len + 1) r
theorem lnChain_snoc : ∀ (ls : List LineA) (k : Int) (l : LineA), lnChain k (ls ++ [l]) ↔ lnChain k ls ∧ l.from_ = lnEnd k ls ∧ 0 ≤ l.len
  | [], k, l => by simp [lnChain, lnEnd]
  | a :: r, k, l => by
    show (a.from_ = k ∧ 0 ≤ a.len ∧ lnChain (k + a.len + 1) (r ++ [l])) ↔ (a.from_ = k ∧ 0 ≤ a.len ∧ lnChain (k + a.len + 1) r) ∧ l.from_ = lnEnd (k + a.len + 1) r ∧ 0 ≤ l.len
    rw [lnChain_snoc r]
    constructor
    · rintro ⟨h1, h2, h3, h4⟩; exact ⟨⟨h1, h2, h3⟩, h4⟩
    · rintro ⟨⟨h1, h2, h3⟩, h4⟩; exact ⟨h1, h2, h3, h4⟩
theorem lnEnd_snoc : ∀ (ls : List LineA) (k : Int) (l : LineA), lnEnd k (ls ++ [l]) = lnEnd k ls + l.len + 1
  | [], k, l => rfl
  | a :: r, k, l => lnEnd_snoc r _ l
theorem lnRun_chain : ∀ cs : List CellA, lnChain 0 (lnRun cs).1 ∧ lnEnd 0 (lnRun cs).1 = ((lnRun cs).2.2.1 : Int) := by
  refine B.snoc_ind ⟨trivial, rfl⟩ ?_
  intro cs c ⟨h1, h2⟩
  obtain ⟨i1, i2, _, _⟩ := lnRun_inv cs
  by_cases hc : c.rune = 10
  · rw [lnRun_nl hc]
    refine ⟨(lnChain_snoc _ _ _).2 ⟨h1, h2.symm, Int.natCast_nonneg _⟩, ?_⟩
    show lnEnd 0 ((lnRun cs).1 ++ [_]) = _
    rw [lnEnd_snoc, h2]
    show ((lnRun cs).2.2.1 : Int) + ((lnRun cs).2.1.length : Int) + 1 = (((lnRun cs).2.2.2 + 1 : Nat) : Int)
    omega
  · rw [lnRun_tx hc]; exact ⟨h1, h2⟩
theorem lnChain_at : ∀ (ls : List LineA) (k : Int), lnChain k ls → ∀ i, i < ls.length → k ≤ (ls.getD i line0).from_ ∧ 0 ≤ (ls.getD i line0).len ∧ (ls.getD i line0).from_ + (ls.getD i line0).len < lnEnd k ls ∧ (i = 0 → (ls.getD i line0).from_ = k) ∧ (∀ j, j + 1 = i → (ls.getD i line0).from_ = (ls.getD j line0).from_ + (ls.getD j line0).len + 1)
  | l :: r, k, h, 0, _ => by
    obtain ⟨h1, h2, h3⟩ := h
    have he : ∀ (r : List LineA) (k : Int), lnChain k r → k ≤ lnEnd k r := by
      intro r
      induction r with
      | nil => intro k _; exact Int.le_refl _
      | cons a r ih => intro k h; have := ih _ h.2.2; have := h.2.1; show k ≤ lnEnd (k + a.len + 1) r; omega
    have := he r _ h3
    refine ⟨by show k ≤ l.from_; omega, h2, ?_, fun _ => h1, fun j hj => by omega⟩
    show l.from_ + l.len < lnEnd (k + l.len + 1) r
    omega
  | l :: r, k, h, i + 1, hi => by
    obtain ⟨h1, h2, h3⟩ := h
    obtain ⟨a, b, c, d, e⟩ := lnChain_at r _ h3 i (by simpa using hi)
    refine ⟨by show k ≤ (r.getD i line0).from_; omega, b, c, fun h => by omega, fun j hj => ?_⟩
    obtain rfl : j = i := by omega
    cases j with
    | zero => show (r.getD 0 line0).from_ = l.from_ + l.len + 1; rw [d rfl]; omega
    | succ j => exact e j rfl
def lnFind (p : Int) : List LineA → Nat
  | [] => 0
  | l :: r => if p ≤ l.from_ + l.len then 0 else lnFind p r + 1
theorem lnFind_le (p : Int) : ∀ ls, lnFind p ls ≤ ls.length
  | [] => Nat.le_refl _
  | l :: r => by have := lnFind_le p r; unfold lnFind; split <;> simp <;> omega
theorem lnFind_at (p : Int) : ∀ ls : List LineA, lnFind p ls < ls.length → p ≤ (ls.getD (lnFind p ls) line0).from_ + (ls.getD (lnFind p ls) line0).len
  | [], h => absurd h (Nat.not_lt_zero _)
  | l :: r, h => by
    unfold lnFind at h ⊢
    by_cases hp : p ≤ l.from_ + l.len
    · rw [if_pos hp]; exact hp
    · rw [if_neg hp] at h ⊢
      exact lnFind_at p r (by simpa using h)
theorem lnFind_lt (p : Int) : ∀ (ls : List LineA) (j : Nat), j < lnFind p ls → ¬ p ≤ (ls.getD j line0).from_ + (ls.getD j line0).len
  | [], j, h => absurd h (Nat.not_lt_zero _)
  | l :: r, j, h => by
    unfold lnFind at h
    by_cases hp : p ≤ l.from_ + l.len
    · rw [if_pos hp] at h; exact absurd h (Nat.not_lt_zero _)
    · rw [if_neg hp] at h
      cases j with
      | zero => exact hp
      | succ j => exact lnFind_lt p r j (by omega)
theorem lnFind_of {p : Int} : ∀ {ls : List LineA} {i : Nat}, i ≤ ls.length → (∀ j, j < i → ¬ p ≤ (ls.getD j line0).from_ + (ls.getD j line0).len) → (i < ls.length → p ≤ (ls.getD i line0).from_ + (ls.getD i line0).len) → lnFind p ls = i
  | [], i, hi, _, _ => by have : i = 0 := by simpa using hi
                          rw [this]; rfl
  | l :: r, 0, _, _, h => if_pos (h (by simp))
  | l :: r, i + 1, hi, h0, h1 => by
    have h00 : ¬ p ≤ l.from_ + l.len := h0 0 (by omega)
    unfold lnFind
    rw [if_neg h00, lnFind_of (ls := r) (i := i) (by simpa using hi) (fun j hj => h0 (j + 1) (by omega)) (fun h => h1 (by simpa using h))]
abbrev LSE := List LineA × List Int × Int
def lnStepE (s : LSE) (x : ElA) : LSE := if x.2.1.rune = 10 then (s.1 ++ [⟨s.2.2, (s.2.1.length : Int), x.2.1.attrs, runesBytes s.2.1⟩], [], IntKind.i64.wrap (x.1 + 1)) else (s.1, s.2.1 ++ [letL x.2.1], s.2.2)
def lnRunE (pre : List ElA) : LSE := pre.foldl lnStepE ([], [], 0)
theorem lnRunE_snoc (pre : List ElA) (x : ElA) : lnRunE (pre ++ [x]) = lnStepE (lnRunE pre) x := by unfold lnRunE; rw [List.foldl_append]; rfl
theorem lnRunE_nl {pre : List ElA} {x : ElA} (h : x.2.1.rune = 10) : lnRunE (pre ++ [x]) = ((lnRunE pre).1 ++ [⟨(lnRunE pre).2.2, ((lnRunE pre).2.1.length : Int), x.2.1.attrs, runesBytes (lnRunE pre).2.1⟩], [], IntKind.i64.wrap (x.1 + 1)) := by rw [lnRunE_snoc]; exact if_pos h
theorem lnRunE_tx {pre : List ElA} {x : ElA} (h : ¬ x.2.1.rune = 10) : lnRunE (pre ++ [x]) = ((lnRunE pre).1, (lnRunE pre).2.1 ++ [letL x.2.1], (lnRunE pre).2.2) := by rw [lnRunE_snoc]; exact if_neg h
theorem lnRunE_len : ∀ pre : List ElA, (lnRunE pre).1.length ≤ pre.length ∧ (lnRunE pre).2.1.length ≤ pre.length := by
  refine B.snoc_ind ⟨Nat.le_refl _, Nat.le_refl _⟩ ?_
  intro pre x ⟨h1, h2⟩
  rw [List.length_append, List.length_singleton]
  by_cases hc : x.2.1.rune = 10
  · rw [lnRunE_nl hc]
    refine ⟨?_, Nat.zero_le _⟩
    show ((lnRunE pre).1 ++ [_]).length ≤ _
    rw [List.length_append, List.length_singleton]; omega
  · rw [lnRunE_tx hc]
    refine ⟨by show (lnRunE pre).1.length ≤ _; omega, ?_⟩
    show ((lnRunE pre).2.1 ++ [_]).length ≤ _
    rw [List.length_append, List.length_singleton]; omega
theorem EOK.pre {L : List CellA} {pre : List ElA} {x : ElA} (h : EOK L (pre ++ [x])) : EOK L pre := by
  obtain ⟨h1, h2⟩ := h
  rw [List.length_append, List.length_singleton] at h1 h2
  refine ⟨by omega, fun t ht => ?_⟩
  have h3 := h2 t (by omega)
  have e : (pre ++ [x]).getD t el0 = pre.getD t el0 := by rw [List.getD_eq_getElem?_getD, List.getElem?_append_left ht, ← List.getD_eq_getElem?_getD]
  rwa [e] at h3
theorem lnRunE_ok {L : List CellA} (hL : L.length ≤ 1000000000) : ∀ pre : List ElA, EOK L pre → lnRunE pre = ((lnRun (L.take pre.length)).1, (lnRun (L.take pre.length)).2.1, ((lnRun (L.take pre.length)).2.2.1 : Int)) := by
  refine B.snoc_ind (fun _ => rfl) ?_
  intro pre x ih h
  obtain ⟨h1, h2, h3⟩ := EOK.last h
  have hi := ih (EOK.pre h)
  obtain ⟨i1, _⟩ := lnRun_inv (L.take pre.length)
  rw [List.length_take, Nat.min_eq_left (Nat.le_of_lt h1)] at i1
  rw [List.length_append, List.length_singleton, cells_take h1, ← h3]
  by_cases hc : x.2.1.rune = 10
  · rw [lnRunE_nl hc, lnRun_nl hc, hi, h2, IntWalk.i64_in _ ⟨by omega, by omega⟩, i1]; rfl
  · rw [lnRunE_tx hc, lnRun_tx hc, hi]
theorem lnRunE_all {L : List CellA} {pre : List ElA} (hL : L.length ≤ 1000000000) (h : EOK L pre) (hl : pre.length = L.length) : (lnRunE pre).1 = (lnRun L).1 ∧ (lnRunE pre).2.1 = (lnRun L).2.1 := by
  rw [lnRunE_ok hL pre h, hl, List.take_length]; exact ⟨rfl, rfl⟩
noncomputable def lnErr (xs : List OpA) : Nat := if isDoc xs = true then (if lnEnds (cellsAll xs) = true then 0 else 14) else 9
noncomputable def lnOf (xs : List OpA) : List LineA := if lnErr xs = 0 then (lnRun (cellsAll xs)).1 else []
noncomputable def lnAt (xs : List OpA) (p : Int) : Int × Int × Nat :=
  if lnErr xs ≠ 0 then (0, 0, lnErr xs) else if p < 0 ∨ lnFind p (lnOf xs) = (lnOf xs).length then (0, 0, 12) else ((lnFind p (lnOf xs) : Int), p - ((lnOf xs).getD (lnFind p (lnOf xs)) line0).from_, 0)
noncomputable def lnPlace (xs : List OpA) (i c : Int) : Int × Nat :=
  if lnErr xs ≠ 0 then (0, lnErr xs) else if i < 0 ∨ ((lnOf xs).length : Int) ≤ i ∨ c < 0 ∨ ((lnOf xs).getD i.toNat line0).len < c then (0, 12) else (((lnOf xs).getD i.toNat line0).from_ + c, 0)
noncomputable def lnTouched (xs : List OpA) (f n : Int) : Int × Int × Nat :=
  if (lnAt xs f).2.2 ≠ 0 then (0, 0, (lnAt xs f).2.2) else if n < 0 ∨ ((cellsAll xs).length : Int) - f < n then (0, 0, 12) else if n = 0 then ((lnAt xs f).1, (lnAt xs f).1, 0) else if (lnAt xs (f + n - 1)).2.2 ≠ 0 then (0, 0, (lnAt xs (f + n - 1)).2.2) else ((lnAt xs f).1, (lnAt xs (f + n - 1)).1, 0)
noncomputable def lnText (cs : List CellA) : ByteArray := runesBytes (cs.map letL)
theorem sumL_base : ∀ xs : List OpA, badE xs = 0 → sB xs ≤ B.L → (sumL (xs.map pelO)).2.1 + (sumL (xs.map pelO)).2.2 = sB xs ∧ 0 ≤ (sumL (xs.map pelO)).2.1 ∧ 0 ≤ (sumL (xs.map pelO)).2.2 := by
  refine B.snoc_ind (fun _ _ => ⟨rfl, Int.le_refl _, Int.le_refl _⟩) ?_
  intro xs a ih hb hL
  obtain ⟨h1, h2⟩ := B.bad_snoc.1 hb
  rw [B.sB_snoc] at hL
  have hB1 := sB_ok h1
  have hL0 : B.L = 1099511627776 := rfl
  rw [List.map_append, List.map_cons, List.map_nil, sumL_snoc, B.sB_snoc]
  rcases kind_of_ok h2 with k | k | k | k
  · have e : opB a = 0 := B.opB_ins (.inl k)
    obtain ⟨i1, i2, i3⟩ := ih h1 (by omega)
    unfold stepL
    rw [if_neg (by show ¬ a.kind = 3; omega), if_neg (by show ¬ a.kind = 4; omega)]
    exact ⟨by show (sumL (xs.map pelO)).2.1 + (sumL (xs.map pelO)).2.2 = sB xs + opB a; omega, i2, i3⟩
  · have e : opB a = 0 := B.opB_ins (.inr k)
    obtain ⟨i1, i2, i3⟩ := ih h1 (by omega)
    unfold stepL
    rw [if_neg (by show ¬ a.kind = 3; omega), if_neg (by show ¬ a.kind = 4; omega)]
    exact ⟨by show (sumL (xs.map pelO)).2.1 + (sumL (xs.map pelO)).2.2 = sB xs + opB a; omega, i2, i3⟩
  · have e : opB a = a.count := B.opB_cnt (.inl k)
    have hc := count_of_ok h2 (.inl k)
    obtain ⟨i1, i2, i3⟩ := ih h1 (by omega)
    have e2 : (pelO a).2 = a.count := by unfold pelO; rw [if_neg (by omega), if_neg (by omega)]
    unfold stepL
    rw [if_pos (show (pelO a).1 = 3 from k), e2, IntWalk.i64_in _ ⟨by omega, by omega⟩]
    exact ⟨by show (sumL (xs.map pelO)).2.1 + a.count + (sumL (xs.map pelO)).2.2 = sB xs + opB a; omega, by show 0 ≤ (sumL (xs.map pelO)).2.1 + a.count; omega, i3⟩
  · have e : opB a = a.count := B.opB_cnt (.inr k)
    have hc := count_of_ok h2 (.inr k)
    obtain ⟨i1, i2, i3⟩ := ih h1 (by omega)
    have e2 : (pelO a).2 = a.count := by unfold pelO; rw [if_neg (by omega), if_neg (by omega)]
    unfold stepL
    rw [if_neg (by show ¬ a.kind = 3; omega), if_pos (show (pelO a).1 = 4 from k), e2, IntWalk.i64_in _ ⟨by omega, by omega⟩]
    exact ⟨by show (sumL (xs.map pelO)).2.1 + ((sumL (xs.map pelO)).2.2 + a.count) = sB xs + opB a; omega, i2, by show 0 ≤ (sumL (xs.map pelO)).2.2 + a.count; omega⟩
theorem sB_zero : ∀ xs : List OpA, badE xs = 0 → sB xs = 0 → ∀ o ∈ xs, o.kind = 1 ∨ o.kind = 2 := by
  refine B.snoc_ind (fun _ _ o ho => by cases ho) ?_
  intro xs a ih hb h0 o ho
  obtain ⟨h1, h2⟩ := B.bad_snoc.1 hb
  rw [B.sB_snoc] at h0
  have hB1 := sB_ok h1
  have ha : opB a = 0 ∧ (a.kind = 1 ∨ a.kind = 2) := by
    rcases kind_of_ok h2 with k | k | k | k
    · exact ⟨B.opB_ins (.inl k), .inl k⟩
    · exact ⟨B.opB_ins (.inr k), .inr k⟩
    · have := B.opB_cnt (.inl k); have := count_of_ok h2 (.inl k); omega
    · have := B.opB_cnt (.inr k); have := count_of_ok h2 (.inr k); omega
  rcases List.mem_append.1 ho with ho | ho
  · exact ih h1 (by omega) o ho
  · rw [List.mem_singleton.1 ho]; exact ha.2
theorem doc_iff {xs : List OpA} (hb : badE xs = 0) (hL : sB xs ≤ B.L) : mBaseO xs = 0 ↔ isDoc xs = true := by
  obtain ⟨h1, h2, h3⟩ := sumL_base xs hb hL
  have hL0 : B.L = 1099511627776 := rfl
  have e : mBaseO xs = sB xs := by unfold mBaseO; rw [h1, IntWalk.i64_in _ ⟨by omega, by omega⟩]
  rw [e]
  refine ⟨fun h => doc_of_mem (sB_zero xs hb h), fun h => ?_⟩
  have : ∀ ys : List OpA, (∀ o ∈ ys, o.kind = 1 ∨ o.kind = 2) → sB ys = 0 := by
    intro ys
    induction ys with
    | nil => intro _; rfl
    | cons o r ih =>
      intro h
      show opB o + sB r = 0
      rw [B.opB_ins (h o List.mem_cons_self), ih fun x hx => h x (List.mem_cons_of_mem _ hx)]; rfl
  exact this xs (doc_mem h)
theorem ent96 : Ent Tryz.prog 96 := ent_of Tryz.func96 (by kernel_rfl) rfl
theorem inserts_any (d : Nat) (xs : List OpA) (w : World) (hd : DeltaC w d xs) (hb : badE xs = 0) (hn : xs.length ≤ 1100000) (hz : ∀ i, i < xs.length → opSz (xs.getD i op0)) : Calls Tryz.prog 96 #[pw d 0] w fun e w' => ∃ A' c' zs, zs = (if isDoc xs = true then xs else []) ∧ e = .returned (.tuple #[.slice A' zs.length c', .bool (isDoc xs)]) ∧ zs.length ≤ c' ∧ kOp.R 102 w' w.heap.size (OkFrom w.heap.size) (.slice A' zs.length c') zs ∧ Below w.heap.size w w' := by
 refine en Tryz.func96 rfl 25 [(0, pw d 0)] (fun R_ hR_ => ?_)
 refine sg (xe0 2 [(0, pw d 0)] ?_)
 refine nl (sg (xe0 1 [(7, pw d 0)] ?_))
 refine xc 56 ent56 [pw d 0] (dops_any d xs _ hd hb hn hz) ?_
 rintro e w_5 ⟨A_1, c_2, rfl, hl_3, hr_4, hb_6⟩; refine ⟨_, rfl, ?_⟩
 refine xe0 1 [(4, aL A_1 xs c_2)] ?_
 refine nl (sq (sg (xr0 3 [(9, aL A_1 xs c_2), (10, i6 (xs.length : Int)), (11, i6 0)] [] ?_)))
 refine nl (bk (X_loop (ι := Nat) (fun i => [(4, aL A_1 xs c_2), (9, aL A_1 xs c_2), (10, i6 (xs.length : Int)), (11, i6 (i : Int))]) (fun i wl => i ≤ xs.length ∧ (∀ t, t < i → (xs.getD t op0).kind = 1 ∨ (xs.getD t op0).kind = 2) ∧ Below w_5.heap.size w_5 wl) (fun i => xs.length - i) 0 ⟨by omega, fun t ht => by omega, Below.refl _ _⟩ (by kernel_rfl) ?_))
 rintro i wl ⟨hi, hk0, HB⟩
 refine sq (X_region ?_)
 by_cases c_7 : (i : Int) < (xs.length : Int)
 ·refine xr1 1 [(12, .eq bT)] [(12, bT)] [] (dT c_7) ?_
  refine nl (sq (ct (sk (sq (bk (sq (X_region ?_)))))))
  obtain ⟨ad_8, B_11, c_12, ha_9, hc_10, hl_13, hC_14⟩ := Kd.atOp (Kd.R_C (Kd.R_below hr_4 HB)) (i := (i : Int)) (by omega) (by omega)
  replace hc_10 : CellsAt wl (ad_8.add ((i : Int).toNat * 7)) (o7L (xs.getD i op0) (aL B_11 (xs.getD i op0).attrs c_12)) := hc_10
  replace hl_13 : (xs.getD i op0).attrs.length ≤ c_12 := hl_13
  replace hC_14 : kAttr.C wl B_11 ((xs.getD i op0).attrs.length) (xs.getD i op0).attrs := hC_14
  refine xw 3 [(13, .idx ad_8), (14, .load (.agg (o7A (xs.getD i op0) (aL B_11 (xs.getD i op0).attrs c_12))))] [(6, pw wl.heap.size 0), (14, .agg (o7A (xs.getD i op0) (aL B_11 (xs.getD i op0).attrs c_12)))] [12] (wl.alloc (.cells #[i6 0, s0, i6 0, i6 0, s0, i6 0, .slice none 0 0] 102)) [A_1 = some ad_8, (0 : Int) ≤ (i : Int), (i : Int) < (xs.length : Int), la 102 (ad_8.add ((i : Int).toNat * 7)) (.agg (o7A (xs.getD i op0) (aL B_11 (xs.getD i op0).attrs c_12))) wl] ⟨ha_9, (by omega), (by omega), loadsE rfl rfl hc_10 0 ⟨by kernel_rfl, by kernel_rfl⟩, trivial⟩ ?_
  obtain ⟨w_15, hw_19, hb_16, hk_17, hz_18⟩ := new_world wl #[i6 0, s0, i6 0, i6 0, s0, i6 0, .slice none 0 0] 102
  rw [hw_19]
  refine xst (.agg (o7A (xs.getD i op0) (aL B_11 (xs.getD i op0).attrs c_12))) hk_17 0 (o7A (xs.getD i op0) (aL B_11 (xs.getD i op0).attrs c_12)) (fun w_20 hg_21 hk_22 hz_23 => ?_)
  refine nl (sg (xr1 2 [(16, .load (i6 ((xs.getD i op0).kind)))] [(16, i6 ((xs.getD i op0).kind))] [14] (lc 3 hk_22 0) ?_))
  by_cases c_24 : (xs.getD i op0).kind = 1
  ·refine xr1 6 [(17, .eq bF)] [(22, bF)] [6, 16] (nF c_24) ?_
   refine nl (cf (sk (rg (xr1 2 [(23, .eq (i6 ((i : Int) + 1)))] [(11, i6 ((i : Int) + 1))] [22] (w6 ((i : Int) + 1)) ?_))))
   refine nl ?_
   refine ⟨(i + 1), by kernel_rfl, ?_, ?_⟩
   ·exact ⟨by omega, fun t ht => by by_cases e_ : t = i; (· subst e_; exact .inl c_24); (· exact hk0 t (by omega)), (bg (bt HB hb_16) hg_21 (HB).size)⟩
   (try dsimp only); omega
  refine xr 4 [(17, .eq bT), (20, .load (i6 ((xs.getD i op0).kind)))] [(18, bT), (20, i6 ((xs.getD i op0).kind))] [6, 16] [_, _] ⟨nT c_24, lc 3 hk_22 0, trivial⟩ ?_
  by_cases c_25 : (xs.getD i op0).kind = 2
  ·refine xr1 2 [(21, .eq bF)] [(22, bF)] [18, 20] (nF c_25) ?_
   refine nl (cf (sk (rg (xe1 2 [(23, .eq (i6 ((i : Int) + 1)))] [(4, aL A_1 xs c_2), (9, aL A_1 xs c_2), (10, i6 (xs.length : Int)), (11, i6 ((i : Int) + 1))] (w6 ((i : Int) + 1)) ?_))))
   refine nl ?_
   refine ⟨(i + 1), by kernel_rfl, ?_, ?_⟩
   ·exact ⟨by omega, fun t ht => by by_cases e_ : t = i; (· subst e_; exact .inr c_25); (· exact hk0 t (by omega)), (bg (bt HB hb_16) hg_21 (HB).size)⟩
   (try dsimp only); omega
  refine xr1 2 [(21, .eq bT)] [(22, bT)] [18, 20] (nT c_25) ?_
  refine nl (ct (sg (xe0 2 [(2, .slice none 0 0), (3, bF)] ?_)))
  refine nl (X_ret (rj [.slice none 0 0, bF] hR_ ?_))
  have hB_26 : Below w.heap.size w w_20 := (bg (bt (bt hb_6 HB) hb_16) hg_21 ((bt hb_6 HB)).size)
  have hd_ := isDoc_no (xs := xs) (i := i) (by omega) c_24 c_25
  exact ⟨none, 0, [], by rw [hd_]; rfl, by rw [hd_]; rfl, Nat.le_refl _, Kd.R_nil _ _ _ _ _, hB_26⟩
 refine xr1 1 [(12, .eq bF)] [(12, bF)] [] (dF c_7) ?_
 refine nl (sq (cf (X_exit (sg (xe0 3 [(2, aL A_1 xs c_2), (3, bT)] ?_)))))
 refine nl (X_ret (rj [.slice A_1 xs.length c_2, bT] hR_ ?_))
 have hd_ := isDoc_yes (xs := xs) (fun t ht => hk0 t (by omega))
 exact ⟨_, _, xs, by rw [if_pos hd_], by rw [hd_]; rfl, (RX.Kd.R_len (Kd.R_below hr_4 HB)).2, Kd.R_low (Kd.R_below hr_4 HB) (Nat.le_refl _), (bt hb_6 HB)⟩
end Go.Proofs.YtgphmfnkeolbcaaGreatDoor
