import Derived.Test.YtgphmfnkeolbcaaGreatDoorT50
import Derived.Test.YtgphmfnkeolbcaaGreatDoorClp
import Derived.Test.YtgphmfnkeolbcaaGreatDoorAn
import Derived.Test.YtgphmfnkeolbcaaGreatDoorSpare
/- Lines that lie one behind the other: they make the text; a cell's line. No condition. -/
set_option linter.unusedVariables false
set_option linter.unusedSimpArgs false
namespace Go.Proofs.YtgphmfnkeolbcaaGreatDoor
open Go Go.RowKit Go.Proofs.YtgphmfnkeolbcaaGreatDoorW.PrintWords RX

def nlB : ByteArray := ⟨#[10]⟩
def lnTxt (ls : List LineA) : ByteArray := ls.foldl (fun a l => a ++ (l.text ++ nlB)) ByteArray.empty
theorem lnTxt_snoc (ls : List LineA) (l : LineA) : lnTxt (ls ++ [l]) = lnTxt ls ++ (l.text ++ nlB) := by unfold lnTxt; rw [List.foldl_append]; rfl
theorem lnTxt_grow : ∀ (b a : List LineA), (lnTxt a).size ≤ (lnTxt (a ++ b)).size
  | [], a => by rw [List.append_nil]; exact Nat.le_refl _
  | l :: r, a => by
    have h := lnTxt_grow r (a ++ [l])
    rw [List.append_assoc, lnTxt_snoc, ByteArray.size_append] at h
    exact Nat.le_trans (Nat.le_add_right _ _) h
theorem lnTxt_sz {ls : List LineA} {i : Nat} (hi : i < ls.length) : (lnTxt (ls.take i)).size + ((ls.getD i line0).text.size + 1) ≤ (lnTxt ls).size := by
  have h := lnTxt_grow (ls.drop (i + 1)) (ls.take (i + 1))
  rw [List.take_append_drop, take_snocD line0 ls i hi, lnTxt_snoc, ByteArray.size_append, ByteArray.size_append] at h
  exact h
def lnNl (cs : List CellA) : Nat := (cs.filter (fun c => decide (c.rune = 10))).length
theorem lnNl_yes {cs : List CellA} {c : CellA} (h : c.rune = 10) : lnNl (cs ++ [c]) = lnNl cs + 1 := by unfold lnNl; rw [List.filter_append, List.filter_cons, if_pos (decide_eq_true h), List.filter_nil, List.length_append]; rfl
theorem lnNl_no {cs : List CellA} {c : CellA} (h : ¬ c.rune = 10) : lnNl (cs ++ [c]) = lnNl cs := by unfold lnNl; rw [List.filter_append, List.filter_cons, if_neg (by rw [decide_eq_true_eq]; exact h), List.filter_nil, List.append_nil]
theorem lnNl_le (cs : List CellA) : lnNl cs ≤ cs.length := List.length_filter_le _ _
theorem rb_nil' : runesBytes [] = ByteArray.empty := rfl
theorem ba_app_empty (a : ByteArray) : a ++ ByteArray.empty = a := ByteArray.append_empty
theorem lnRun_back : ∀ cs : List CellA, lnTxt (lnRun cs).1 ++ runesBytes (lnRun cs).2.1 = runesBytes (cs.map letL) ∧ (lnRun cs).1.length = lnNl cs := by
  refine B.snoc_ind ⟨?_, rfl⟩ ?_
  · show ByteArray.empty ++ runesBytes [] = runesBytes []
    rw [rb_nil', ba_app_empty]
  intro cs c ⟨h1, h2⟩
  have hm : (cs ++ [c]).map letL = cs.map letL ++ [letL c] := by rw [List.map_append]; rfl
  by_cases hc : c.rune = 10
  · rw [lnRun_nl hc, hm, B.rb_append, ← h1, lnNl_yes hc]
    refine ⟨?_, ?_⟩
    · show lnTxt ((lnRun cs).1 ++ [_]) ++ runesBytes [] = _
      rw [lnTxt_snoc, rb_nil', ba_app_empty]
      have hl : letL c = 10 := by unfold letL; rw [if_neg (by omega), hc]
      rw [hl, ByteArray.append_assoc]
      rfl
    · show ((lnRun cs).1 ++ [_]).length = _
      rw [List.length_append, h2]; rfl
  · rw [lnRun_tx hc, hm, lnNl_no hc]
    refine ⟨?_, h2⟩
    show lnTxt (lnRun cs).1 ++ runesBytes ((lnRun cs).2.1 ++ [letL c]) = _
    rw [B.rb_append, B.rb_append, ← h1, ByteArray.append_assoc]
theorem lnChain_pre : ∀ (a b : List LineA) (k : Int), lnChain k (a ++ b) → lnChain k a
  | [], _, _, _ => trivial
  | l :: r, b, k, h => ⟨h.1, h.2.1, lnChain_pre r b _ h.2.2⟩
theorem lnChain_nth {ls : List LineA} (h : lnChain 0 ls) {i : Nat} (hi : i < ls.length) : (ls.getD i line0).from_ = lnEnd 0 (ls.take i) ∧ lnEnd 0 (ls.take (i + 1)) = lnEnd 0 (ls.take i) + (ls.getD i line0).len + 1 ∧ lnTxt (ls.take (i + 1)) = lnTxt (ls.take i) ++ ((ls.getD i line0).text ++ nlB) := by
  have h1 : lnChain 0 (ls.take (i + 1)) := lnChain_pre _ (ls.drop (i + 1)) 0 (by rw [List.take_append_drop]; exact h)
  rw [take_snocD line0 ls i hi] at h1 ⊢
  exact ⟨((lnChain_snoc _ _ _).1 h1).2.1, lnEnd_snoc _ _ _, lnTxt_snoc _ _⟩
theorem lnRun_nls : ∀ cs : List CellA, (∀ i, i < (lnRun cs).1.length → ((cs.getD (((lnRun cs).1.getD i line0).from_ + ((lnRun cs).1.getD i line0).len).toNat cell0).rune = 10 ∧ ∀ q : Int, ((lnRun cs).1.getD i line0).from_ ≤ q → q < ((lnRun cs).1.getD i line0).from_ + ((lnRun cs).1.getD i line0).len → ¬ (cs.getD q.toNat cell0).rune = 10)) ∧ (∀ q : Nat, (lnRun cs).2.2.1 ≤ q → q < cs.length → ¬ (cs.getD q cell0).rune = 10) := by
  refine B.snoc_ind ⟨fun i hi => absurd hi (Nat.not_lt_zero _), fun q _ hq => absurd hq (Nat.not_lt_zero _)⟩ ?_
  intro cs c ⟨h1, h2⟩
  obtain ⟨i1, i2, _, _⟩ := lnRun_inv cs
  obtain ⟨c1, c2⟩ := lnRun_chain cs
  have hlt : ∀ i, i < (lnRun cs).1.length → 0 ≤ ((lnRun cs).1.getD i line0).from_ ∧ ((lnRun cs).1.getD i line0).from_ + ((lnRun cs).1.getD i line0).len < (cs.length : Int) ∧ 0 ≤ ((lnRun cs).1.getD i line0).len := fun i hi => by
    obtain ⟨a, b, d, _, _⟩ := lnChain_at _ _ c1 i hi
    rw [c2] at d
    exact ⟨a, by omega, b⟩
  have hget : ∀ q : Nat, q < cs.length → (cs ++ [c]).getD q cell0 = cs.getD q cell0 := fun q hq => by
    rw [List.getD_eq_getElem?_getD, List.getElem?_append_left hq, ← List.getD_eq_getElem?_getD]
  have hlast : (cs ++ [c]).getD cs.length cell0 = c := by
    rw [List.getD_eq_getElem?_getD, List.getElem?_append_right (Nat.le_refl _), Nat.sub_self]; rfl
  have hold : ∀ i, i < (lnRun cs).1.length → (((cs ++ [c]).getD (((lnRun cs).1.getD i line0).from_ + ((lnRun cs).1.getD i line0).len).toNat cell0).rune = 10 ∧ ∀ q : Int, ((lnRun cs).1.getD i line0).from_ ≤ q → q < ((lnRun cs).1.getD i line0).from_ + ((lnRun cs).1.getD i line0).len → ¬ ((cs ++ [c]).getD q.toNat cell0).rune = 10) := fun i hi => by
    obtain ⟨a, b, d⟩ := hlt i hi
    obtain ⟨e, g⟩ := h1 i hi
    refine ⟨by rw [hget _ (by omega)]; exact e, fun q hq1 hq2 => ?_⟩
    rw [hget _ (by omega)]
    exact g q hq1 hq2
  by_cases hc : c.rune = 10
  · rw [lnRun_nl hc]
    refine ⟨fun i hi => ?_, fun q hq1 hq2 => ?_⟩
    · by_cases hi2 : i < (lnRun cs).1.length
      · have : ((lnRun cs).1 ++ [(⟨((lnRun cs).2.2.1 : Int), ((lnRun cs).2.1.length : Int), c.attrs, runesBytes (lnRun cs).2.1⟩ : LineA)]).getD i line0 = (lnRun cs).1.getD i line0 := by
          rw [List.getD_eq_getElem?_getD, List.getElem?_append_left hi2, ← List.getD_eq_getElem?_getD]
        show ((cs ++ [c]).getD ((((lnRun cs).1 ++ [_]).getD i line0).from_ + (((lnRun cs).1 ++ [_]).getD i line0).len).toNat cell0).rune = 10 ∧ _
        rw [this]
        exact hold i hi2
      · have hil : i = (lnRun cs).1.length := by
          have : i < ((lnRun cs).1 ++ [(⟨((lnRun cs).2.2.1 : Int), ((lnRun cs).2.1.length : Int), c.attrs, runesBytes (lnRun cs).2.1⟩ : LineA)]).length := hi
          rw [List.length_append, List.length_singleton] at this
          omega
        have : ((lnRun cs).1 ++ [(⟨((lnRun cs).2.2.1 : Int), ((lnRun cs).2.1.length : Int), c.attrs, runesBytes (lnRun cs).2.1⟩ : LineA)]).getD i line0 = ⟨((lnRun cs).2.2.1 : Int), ((lnRun cs).2.1.length : Int), c.attrs, runesBytes (lnRun cs).2.1⟩ := by
          rw [hil, List.getD_eq_getElem?_getD, List.getElem?_append_right (Nat.le_refl _), Nat.sub_self]; rfl
        show ((cs ++ [c]).getD ((((lnRun cs).1 ++ [_]).getD i line0).from_ + (((lnRun cs).1 ++ [_]).getD i line0).len).toNat cell0).rune = 10 ∧ _
        rw [this]
        refine ⟨?_, fun q hq1 hq2 => ?_⟩
        · show ((cs ++ [c]).getD (((lnRun cs).2.2.1 : Int) + ((lnRun cs).2.1.length : Int)).toNat cell0).rune = 10
          rw [show (((lnRun cs).2.2.1 : Int) + ((lnRun cs).2.1.length : Int)).toNat = cs.length from by omega, hlast]
          exact hc
        · replace hq1 : ((lnRun cs).2.2.1 : Int) ≤ q := hq1
          replace hq2 : q < ((lnRun cs).2.2.1 : Int) + ((lnRun cs).2.1.length : Int) := hq2
          rw [hget _ (by omega)]
          exact h2 _ (by omega) (by omega)
    · replace hq1 : (lnRun cs).2.2.2 + 1 ≤ q := hq1
      rw [List.length_append, List.length_singleton] at hq2
      omega
  · rw [lnRun_tx hc]
    refine ⟨hold, fun q hq1 hq2 => ?_⟩
    replace hq1 : (lnRun cs).2.2.1 ≤ q := hq1
    rw [List.length_append, List.length_singleton] at hq2
    by_cases hq : q < cs.length
    · rw [hget _ hq]; exact h2 q hq1 hq
    · rw [show q = cs.length from by omega, hlast]; exact hc
theorem lnBack_all {xs : List OpA} (h0 : lnErr xs = 0) : lnChain 0 (lnOf xs) ∧ lnEnd 0 (lnOf xs) = ((cellsAll xs).length : Int) ∧ lnTxt (lnOf xs) = lnText (cellsAll xs) ∧ lnNl (cellsAll xs) = (lnOf xs).length ∧ 0 < (cellsAll xs).length := by
  have hd : isDoc xs = true := Decidable.byContradiction fun h => by unfold lnErr at h0; rw [if_neg h] at h0; exact absurd h0 (by decide)
  have he : lnEnds (cellsAll xs) = true := Decidable.byContradiction fun h => by unfold lnErr at h0; rw [if_pos hd, if_neg h] at h0; exact absurd h0 (by decide)
  have hf : lnOf xs = (lnRun (cellsAll xs)).1 := if_pos h0
  rw [hf]
  obtain ⟨c1, c2⟩ := lnRun_chain (cellsAll xs)
  obtain ⟨i1, i2, _, _⟩ := lnRun_inv (cellsAll xs)
  obtain ⟨b1, b2⟩ := lnRun_back (cellsAll xs)
  have h3 : (lnRun (cellsAll xs)).2.1.length = 0 := by unfold lnEnds at he; rw [Bool.and_eq_true] at he; exact of_decide_eq_true he.2
  have h4 := ((lnEnds_iff _).1 he).1
  rw [List.length_eq_zero_iff.1 h3, rb_nil', ba_app_empty] at b1
  exact ⟨c1, by rw [c2]; omega, b1, b2.symm, h4⟩
theorem lnBack_at {xs : List OpA} (h0 : lnErr xs = 0) {p : Int} (hp0 : 0 ≤ p) (hp1 : p < ((cellsAll xs).length : Int)) : ∃ i : Nat, i < (lnOf xs).length ∧ lnAt xs p = ((i : Int), p - ((lnOf xs).getD i line0).from_, 0) ∧ ((lnOf xs).getD i line0).from_ ≤ p ∧ p ≤ ((lnOf xs).getD i line0).from_ + ((lnOf xs).getD i line0).len ∧ lnPlace xs (i : Int) (p - ((lnOf xs).getD i line0).from_) = (p, 0) ∧ (((cellsAll xs).getD p.toNat cell0).rune = 10 ↔ p - ((lnOf xs).getD i line0).from_ = ((lnOf xs).getD i line0).len) := by
  obtain ⟨c1, c2, _, _, h4⟩ := lnBack_all h0
  have hf : lnOf xs = (lnRun (cellsAll xs)).1 := if_pos h0
  have hle := lnFind_le p (lnOf xs)
  have hne : lnFind p (lnOf xs) ≠ (lnOf xs).length := fun he => by
    cases hk : (lnOf xs).length with
    | zero =>
      rw [List.length_eq_zero_iff.1 hk] at c2
      have : (0 : Int) = ((cellsAll xs).length : Int) := c2
      omega
    | succ k =>
      have h5 := lnFind_lt p (lnOf xs) k (by omega)
      obtain ⟨n1, n2, _⟩ := lnChain_nth c1 (show k < (lnOf xs).length by omega)
      rw [show k + 1 = (lnOf xs).length from by omega, List.take_length, c2] at n2
      omega
  have hlt : lnFind p (lnOf xs) < (lnOf xs).length := by omega
  have h2 := lnFind_at p _ hlt
  obtain ⟨f0, l0, _, e0, e1⟩ := lnChain_at _ _ c1 _ hlt
  have h3 : ((lnOf xs).getD (lnFind p (lnOf xs)) line0).from_ ≤ p := by
    cases hk : lnFind p (lnOf xs) with
    | zero => rw [hk] at e0; rw [e0 rfl]; exact hp0
    | succ k =>
      have h3 := lnFind_lt p (lnOf xs) k (by omega)
      rw [hk] at e1
      rw [e1 k rfl]; omega
  refine ⟨lnFind p (lnOf xs), hlt, ?_, h3, h2, ?_, ?_⟩
  · unfold lnAt; rw [if_neg (by omega), if_neg (by omega)]
  · unfold lnPlace
    rw [if_neg (by omega), Int.toNat_natCast, if_neg (by omega)]
    exact Prod.ext (by show _ + (p - _) = p; omega) rfl
  · rw [hf] at hlt h2 h3 ⊢
    obtain ⟨g1, g2⟩ := (lnRun_nls (cellsAll xs)).1 _ hlt
    constructor
    · intro h
      refine Decidable.byContradiction fun hn => g2 p h3 (by omega) h
    · intro h
      rw [show p.toNat = (((lnRun (cellsAll xs)).1.getD (lnFind p (lnRun (cellsAll xs)).1) line0).from_ + ((lnRun (cellsAll xs)).1.getD (lnFind p (lnRun (cellsAll xs)).1) line0).len).toNat from by omega]
      exact g1
theorem lnBack_not {xs : List OpA} (hd : isDoc xs = true) (h0 : lnErr xs ≠ 0) : lnErr xs = 14 ∧ ((cellsAll xs).length = 0 ∨ ¬ ((cellsAll xs).getD ((cellsAll xs).length - 1) cell0).rune = 10) := by
  unfold lnErr at h0 ⊢
  rw [if_pos hd] at h0 ⊢
  by_cases he : lnEnds (cellsAll xs) = true
  · rw [if_pos he] at h0; exact absurd rfl h0
  · rw [if_neg he]
    refine ⟨rfl, ?_⟩
    by_cases hl : (cellsAll xs).length = 0
    · exact .inl hl
    · exact .inr fun h => he ((lnEnds_iff _).2 ⟨by omega, h⟩)
end Go.Proofs.YtgphmfnkeolbcaaGreatDoor
set_option linter.unusedVariables false
set_option linter.unusedSimpArgs false
set_option maxRecDepth 100000
namespace Go.Proofs.YtgphmfnkeolbcaaGreatDoor
open Go Go.RowKit RX
theorem ent108 : Ent Tryz.prog 108 := ent_of Tryz.func108 (by kernel_rfl) rfl
theorem ent40 : Ent Tryz.prog 40 := ent_of Tryz.func40 (by kernel_rfl) rfl
theorem list_any (es : List Addr) (w : World) (h : Errs w es) : Calls Tryz.prog 108 #[] w fun e w' => e = .returned (.agg (errAgg es)) ∧ Below w.heap.size w w' := by
 refine en Tryz.func108 rfl 21 [] (fun R_ hR_ => ?_)
 refine sg (xwe 1 [] [(0, pw w.heap.size 0)] (w.alloc (.cells #[.nilIface, .nilIface, .nilIface, .nilIface, .nilIface, .nilIface, .nilIface, .nilIface, .nilIface, .nilIface, .nilIface, .nilIface, .nilIface, .nilIface, .nilIface, .nilIface, .nilIface, .nilIface, .nilIface] 152)) [] trivial ?_)
 obtain ⟨w_1, hw_5, hb_2, hk_3, hz_4⟩ := new_world w #[.nilIface, .nilIface, .nilIface, .nilIface, .nilIface, .nilIface, .nilIface, .nilIface, .nilIface, .nilIface, .nilIface, .nilIface, .nilIface, .nilIface, .nilIface, .nilIface, .nilIface, .nilIface, .nilIface] 152
 rw [hw_5]
 refine nl (sg (xr 20 [(1, .load (ev es 1)), (2, .load (ev es 2)), (3, .load (ev es 3)), (4, .load (ev es 4)), (5, .load (ev es 5)), (6, .load (ev es 6)), (7, .load (ev es 7)), (8, .load (ev es 8)), (9, .load (ev es 9)), (10, .load (ev es 10)), (11, .load (ev es 11)), (12, .load (ev es 12)), (13, .load (ev es 13)), (14, .load (ev es 14)), (15, .load (ev es 15)), (16, .load (ev es 16)), (17, .load (ev es 17)), (18, .load (ev es 18)), (19, .load (ev es 19))] [(20, .agg #[ev es 1, ev es 2, ev es 3, ev es 4, ev es 5, ev es 6, ev es 7, ev es 8, ev es 9, ev es 10, ev es 11, ev es 12, ev es 13, ev es 14, ev es 15, ev es 16, ev es 17, ev es 18, ev es 19])] [] [la 35 (⟨6, 0, none⟩) (ev es 1) w_1, la 35 (⟨7, 0, none⟩) (ev es 2) w_1, la 35 (⟨8, 0, none⟩) (ev es 3) w_1, la 35 (⟨9, 0, none⟩) (ev es 4) w_1, la 35 (⟨5, 0, none⟩) (ev es 5) w_1, la 35 (⟨4, 0, none⟩) (ev es 6) w_1, la 35 (⟨10, 0, none⟩) (ev es 7) w_1, la 35 (⟨11, 0, none⟩) (ev es 8) w_1, la 35 (⟨0, 0, none⟩) (ev es 9) w_1, la 35 (⟨12, 0, none⟩) (ev es 10) w_1, la 35 (⟨3, 0, none⟩) (ev es 11) w_1, la 35 (⟨1, 0, none⟩) (ev es 12) w_1, la 35 (⟨13, 0, none⟩) (ev es 13) w_1, la 35 (⟨2, 0, none⟩) (ev es 14) w_1, la 35 (⟨14, 0, none⟩) (ev es 15) w_1, la 35 (⟨15, 0, none⟩) (ev es 16) w_1, la 35 (⟨16, 0, none⟩) (ev es 17) w_1, la 35 (⟨17, 0, none⟩) (ev es 18) w_1, la 35 (⟨18, 0, none⟩) (ev es 19) w_1] ⟨loads1 rfl ((hb_2.cell (World.block_lt_of_cell? _ _ (h.load 1 6 (by decide) (by decide) rfl))).trans (h.load 1 6 (by decide) (by decide) rfl)), loads1 rfl ((hb_2.cell (World.block_lt_of_cell? _ _ (h.load 2 7 (by decide) (by decide) rfl))).trans (h.load 2 7 (by decide) (by decide) rfl)), loads1 rfl ((hb_2.cell (World.block_lt_of_cell? _ _ (h.load 3 8 (by decide) (by decide) rfl))).trans (h.load 3 8 (by decide) (by decide) rfl)), loads1 rfl ((hb_2.cell (World.block_lt_of_cell? _ _ (h.load 4 9 (by decide) (by decide) rfl))).trans (h.load 4 9 (by decide) (by decide) rfl)), loads1 rfl ((hb_2.cell (World.block_lt_of_cell? _ _ (h.load 5 5 (by decide) (by decide) rfl))).trans (h.load 5 5 (by decide) (by decide) rfl)), loads1 rfl ((hb_2.cell (World.block_lt_of_cell? _ _ (h.load 6 4 (by decide) (by decide) rfl))).trans (h.load 6 4 (by decide) (by decide) rfl)), loads1 rfl ((hb_2.cell (World.block_lt_of_cell? _ _ (h.load 7 10 (by decide) (by decide) rfl))).trans (h.load 7 10 (by decide) (by decide) rfl)), loads1 rfl ((hb_2.cell (World.block_lt_of_cell? _ _ (h.load 8 11 (by decide) (by decide) rfl))).trans (h.load 8 11 (by decide) (by decide) rfl)), loads1 rfl ((hb_2.cell (World.block_lt_of_cell? _ _ (h.load 9 0 (by decide) (by decide) rfl))).trans (h.load 9 0 (by decide) (by decide) rfl)), loads1 rfl ((hb_2.cell (World.block_lt_of_cell? _ _ (h.load 10 12 (by decide) (by decide) rfl))).trans (h.load 10 12 (by decide) (by decide) rfl)), loads1 rfl ((hb_2.cell (World.block_lt_of_cell? _ _ (h.load 11 3 (by decide) (by decide) rfl))).trans (h.load 11 3 (by decide) (by decide) rfl)), loads1 rfl ((hb_2.cell (World.block_lt_of_cell? _ _ (h.load 12 1 (by decide) (by decide) rfl))).trans (h.load 12 1 (by decide) (by decide) rfl)), loads1 rfl ((hb_2.cell (World.block_lt_of_cell? _ _ (h.load 13 13 (by decide) (by decide) rfl))).trans (h.load 13 13 (by decide) (by decide) rfl)), loads1 rfl ((hb_2.cell (World.block_lt_of_cell? _ _ (h.load 14 2 (by decide) (by decide) rfl))).trans (h.load 14 2 (by decide) (by decide) rfl)), loads1 rfl ((hb_2.cell (World.block_lt_of_cell? _ _ (h.load 15 14 (by decide) (by decide) rfl))).trans (h.load 15 14 (by decide) (by decide) rfl)), loads1 rfl ((hb_2.cell (World.block_lt_of_cell? _ _ (h.load 16 15 (by decide) (by decide) rfl))).trans (h.load 16 15 (by decide) (by decide) rfl)), loads1 rfl ((hb_2.cell (World.block_lt_of_cell? _ _ (h.load 17 16 (by decide) (by decide) rfl))).trans (h.load 17 16 (by decide) (by decide) rfl)), loads1 rfl ((hb_2.cell (World.block_lt_of_cell? _ _ (h.load 18 17 (by decide) (by decide) rfl))).trans (h.load 18 17 (by decide) (by decide) rfl)), loads1 rfl ((hb_2.cell (World.block_lt_of_cell? _ _ (h.load 19 18 (by decide) (by decide) rfl))).trans (h.load 19 18 (by decide) (by decide) rfl)), trivial⟩ ?_))
 refine xst (.agg #[ev es 1, ev es 2, ev es 3, ev es 4, ev es 5, ev es 6, ev es 7, ev es 8, ev es 9, ev es 10, ev es 11, ev es 12, ev es 13, ev es 14, ev es 15, ev es 16, ev es 17, ev es 18, ev es 19]) hk_3 0 #[ev es 1, ev es 2, ev es 3, ev es 4, ev es 5, ev es 6, ev es 7, ev es 8, ev es 9, ev es 10, ev es 11, ev es 12, ev es 13, ev es 14, ev es 15, ev es 16, ev es 17, ev es 18, ev es 19] (fun w_6 hg_7 hk_8 hz_9 => ?_)
 refine nl (X_ret (RX.ret_cell (P := Tryz.prog) (fn := Tryz.f108) (N := 21) (R := R_) (c := 0) (t := 152) (p := ⟨w.heap.size, 0, none⟩) (v := .agg #[ev es 1, ev es 2, ev es 3, ev es 4, ev es 5, ev es 6, ev es 7, ev es 8, ev es 9, ev es 10, ev es 11, ev es 12, ev es 13, ev es 14, ev es 15, ev es 16, ev es 17, ev es 18, ev es 19]) rfl rfl (lB hk_8 0) (hR_ _ _ ?_)))
 exact ⟨rfl, (bg hb_2 hg_7 (Nat.le_refl _))⟩
theorem num_nil (w : World) : Calls Tryz.prog 40 #[.nilIface] w fun e w' => e = .returned (i6 0) ∧ Below w.heap.size w w' := by
 refine en Tryz.func40 rfl 18 [(0, .nilIface)] (fun R_ hR_ => ?_)
 refine sg (xe0 1 [(0, .nilIface)] ?_)
 refine nl (sq (sg (xr0 2 [(6, bT)] [] ?_)))
 refine nl (ct (sg (xe0 1 [(2, i6 0)] ?_)))
 refine nl (X_ret (rj [i6 0] hR_ ?_))
 exact ⟨rfl, (Below.refl _ _)⟩
theorem num_err (es : List Addr) (n : Nat) (hn : 0 < n) (hn' : n ≤ 19) (w : World) (h : Errs w es) : Calls Tryz.prog 40 #[.iface 301 (.pointer (some (errAt es n)))] w fun e w' => e = .returned (i6 (n : Int)) ∧ Below w.heap.size w w' := by
 refine en Tryz.func40 rfl 18 [(0, .iface 301 (.pointer (some (errAt es n))))] (fun R_ hR_ => ?_)
 refine sg (xe0 1 [(0, .iface 301 (.pointer (some (errAt es n))))] ?_)
 refine nl (sq (sg (xr0 2 [(6, bF)] [] ?_)))
 refine nl (cf (sk (sq (sg (xc 108 ent108 [] (list_any es _ (h.below (Below.refl _ _))) ?_)))))
 rintro e w_1 ⟨rfl, hb_2⟩; refine ⟨_, rfl, ?_⟩
 refine xr0 1 [(7, .agg (errAgg es)), (8, i6 0)] [6] ?_
 refine nl (bk (X_loop (ι := Nat) (fun i => [(0, .iface 301 (.pointer (some (errAt es n)))), (7, .agg (errAgg es)), (8, i6 (i : Int))]) (fun i wl => i < n ∧ Below w.heap.size w wl) (fun i => n - i) 0 ⟨by omega, hb_2⟩ (by kernel_rfl) ?_))
 rintro i wl ⟨hi, HB⟩
 refine sq (X_region ?_)
 by_cases c_3 : (i : Int) < 19
 ·refine xr1 1 [(9, .eq bT)] [(9, bT)] [] (dT c_3) ?_
  refine nl (sq (ct (sk (sq (bk (sg (xr 4 [(11, .as (.iface 301 (.pointer (some (errAt es (i + 1))))))] [(3, nv i), (4, .iface 301 (.pointer (some (errAt es (i + 1)))))] [9] [RunsAs Tryz.prog [(7, .agg (errAgg es)), (8, i6 (i : Int))] (Go.Op.index 152 (Go.Operand.tmp 7) (Go.Operand.tmp 8)) 35 (.iface 301 (.pointer (some (errAt es (i + 1))))) wl] ⟨runs_index rfl rfl (err_index es i (by omega) _), trivial⟩ ?_)))))))
  refine nl (sg (xr0 2 [(12, .iface 301 (.pointer (some (errAt es n)))), (13, .iface 301 (.pointer (some (errAt es (i + 1)))))] [4] ?_))
  by_cases c_4 : n = i + 1
  ·refine xr 1 [(14, .as bT)] [(14, bT)] [12, 13] [RunsAs Tryz.prog [(12, .iface 301 (.pointer (some (errAt es n)))), (13, .iface 301 (.pointer (some (errAt es (i + 1)))))] (Go.Op.binOp Go.BinOp.eql 35 (Go.Operand.tmp 12) (Go.Operand.tmp 13) 35) 4 bT wl] ⟨runs_bin rfl rfl rfl (by have h := (h.below HB).eql (n := n) (m := i + 1) (by omega) (by omega) (by omega) (by omega); rw [decide_eq_true c_4] at h; exact h), trivial⟩ ?_
   refine nl (ct (sg (xe1 3 [(16, .eq (i6 ((i : Int) + 1)))] [(2, i6 ((i : Int) + 1))] (w6 ((i : Int) + 1)) ?_)))
   refine nl (X_ret (rj [i6 ((i : Int) + 1)] hR_ ?_))
   exact ⟨ret_int (by omega), HB⟩
  refine xr 1 [(14, .as bF)] [(14, bF)] [12, 13] [RunsAs Tryz.prog [(12, .iface 301 (.pointer (some (errAt es n)))), (13, .iface 301 (.pointer (some (errAt es (i + 1)))))] (Go.Op.binOp Go.BinOp.eql 35 (Go.Operand.tmp 12) (Go.Operand.tmp 13) 35) 4 bF wl] ⟨runs_bin rfl rfl rfl (by have h := (h.below HB).eql (n := n) (m := i + 1) (by omega) (by omega) (by omega) (by omega); rw [decide_eq_false c_4] at h; exact h), trivial⟩ ?_
  refine nl (cf (sk (rg (xr1 2 [(17, .eq (i6 ((i : Int) + 1)))] [(8, i6 ((i : Int) + 1))] [3, 14] (w6 ((i : Int) + 1)) ?_))))
  refine nl ?_
  refine ⟨(i + 1), by kernel_rfl, ?_, ?_⟩
  ·exact ⟨by omega, HB⟩
  (try dsimp only); omega
 exfalso; omega
theorem num_any (es : List Addr) (n : Nat) (hn : n ≤ 19) (w : World) (h : Errs w es) : Calls Tryz.prog 40 #[errV es n] w fun e w' => e = .returned (i6 (n : Int)) ∧ Below w.heap.size w w' := by
 by_cases h0 : n = 0
 ·subst h0
  exact num_nil w
 rw [errV_pos _ _ (by omega)]
 exact num_err es n (by omega) hn w h
end Go.Proofs.YtgphmfnkeolbcaaGreatDoor
