/- The program's errors: package-level variables that hold pointers of errors.New, and what comparing them answers. Condition: 'Errs', which a row's list gives. -/
import Derived.Test.YtgphmfnkeolbcaaDoorRX
import Derived.Test.YtgphmfnkeolbcaaDoorProg
import Derived.LaidLaws
import Derived.LaidEql
import Derived.ChangeArms
import Derived.KernelRfl
set_option linter.unusedVariables false
set_option linter.unusedSimpArgs false
set_option maxRecDepth 100000
namespace Go.Proofs.YtgphmfnkeolbcaaDoor
open Go Go.RowKit RX

/-- the variables, by the errors' numbers less 1 -/
def errG : List Nat := [2, 3, 4, 5, 6, 7, 8, 9, 1, 10,
  11, 0, 12, 13, 14, 15, 16, 17, 18]

structure Errs (w : World) (es : List Addr) : Prop where
  len : es.length = 19
  nodup : ∀ (i j : Nat) (a : Addr), es[i]? = some a → es[j]? = some a → i = j
  cell : ∀ (i g : Nat) (a : Addr), errG[i]? = some g → es[i]? = some a → w.cell? ⟨g, 0, none⟩ = some (.iface 164 (.pointer (some a)))
  blk : ∀ (i : Nat) (a : Addr), es[i]? = some a → ∃ c t, w.heap[a.block]? = some (.cells c t (0, 0))

theorem Errs.below {w w1 : World} {es : List Addr} (h : Errs w es) (hb : Below w.heap.size w w1) : Errs w1 es :=
  ⟨h.len, h.nodup, fun i g a h1 h2 => (hb.cell (World.block_lt_of_cell? _ _ (h.cell i g a h1 h2))).trans (h.cell i g a h1 h2), fun i a h1 => by
    obtain ⟨c, t, e⟩ := h.blk i a h1
    exact ⟨c, t, (hb.block _ (Array.getElem?_eq_some_iff.1 e).1).trans e⟩⟩

def errAt (es : List Addr) (n : Nat) : Addr := es.getD (n - 1) ⟨0, 0, none⟩
/-- the value of the error of number n; nil for 0 -/
def errV (es : List Addr) (n : Nat) : Value := if n = 0 then .nilIface else .iface 164 (.pointer (some (errAt es n)))
theorem errV_zero (es : List Addr) : errV es 0 = .nilIface := rfl
theorem errV_pos (es : List Addr) (n : Nat) (h : 0 < n) : errV es n = .iface 164 (.pointer (some (errAt es n))) := if_neg (by omega)

theorem Errs.at {w : World} {es : List Addr} (h : Errs w es) {n : Nat} (h0 : 0 < n) (h1 : n ≤ 19) : es[n - 1]? = some (errAt es n) := by
  have hl := h.len
  unfold errAt
  rw [List.getD_eq_getElem?_getD, List.getElem?_eq_getElem (by omega)]
  rfl
theorem Errs.load {w : World} {es : List Addr} (h : Errs w es) (n g : Nat) (h0 : 0 < n) (h1 : n ≤ 19) (hg : errG[n - 1]? = some g) : w.cell? ⟨g, 0, none⟩ = some (.iface 164 (.pointer (some (errAt es n)))) := h.cell _ g _ hg (h.at h0 h1)

theorem errInfo : (Tryd.prog.info? 164).map (fun i => i.comparable) = some true := by kernel_rfl
theorem errInfo2 : (Tryd.prog.info? 181).map (fun i => i.size) = some 1 := by kernel_rfl
theorem Errs.eql {w : World} {es : List Addr} (h : Errs w es) {n m : Nat} (h0 : 0 < n) (h1 : n ≤ 19) (h2 : 0 < m) (h3 : m ≤ 19) :
    (binOp .eql 30 (.iface 164 (.pointer (some (errAt es n)))) (.iface 164 (.pointer (some (errAt es m))))).run Tryd.prog w = .ok (.bool (decide (n = m))) w := by
  obtain ⟨i, hi, hc⟩ := Option.map_eq_some_iff.1 errInfo
  obtain ⟨j, hj, hz⟩ := Option.map_eq_some_iff.1 errInfo2
  by_cases e : n = m
  · subst e
    rw [decide_eq_true rfl]
    exact run_eql_iface_ptr_same w _ Tryd.underlying30 Tryd.underlying164 hi hc hj
  · rw [decide_eq_false e]
    have a1 := h.at h0 h1
    have a2 := h.at h2 h3
    obtain ⟨c1, t1, b1⟩ := h.blk _ _ a1
    obtain ⟨c2, t2, b2⟩ := h.blk _ _ a2
    refine run_eql_iface_ptr_other w Tryd.underlying30 Tryd.underlying164 hi hc hj (by rw [hz]; decide) (fun he => ?_) b1 b2
    rw [← he] at a2
    have := h.nodup _ _ _ a1 a2
    omega

/-! ### what a row's list gives -/
abbrev errD (text : List UInt8) : DataW Unit := .iface "*errors.errorString" (.ptr (.agg [.lit (.string text)]))
theorem errStar : "*" ++ "errors.errorString" = "*errors.errorString" := by decide
theorem errRow (u : TypeId) (h : Tryd.prog.typeName? 3 u = some "*errors.errorString") : u = 164 :=
  typeName_ptr_named (nm := "errors.errorString") (by rw [errStar]; kernel_rfl) (by kernel_rfl) (by decide) u (by rw [errStar]; exact h)
theorem errC1 : Tryd.prog.cellsOf 181 = 1 := by kernel_rfl
theorem errC2 : Tryd.prog.cellsOf 9 = 1 := by kernel_rfl

theorem errs_vars {W : World} : ∀ (l : List (String × DataW Unit)) (ps : List MemPlace), DataW.LaidVars Tryd.prog W l ps → ps.Nodup →
    (∀ b off, MemPlace.cell b off ∈ ps → (∃ c t, W.heap[b]? = some (.cells c t (0, 0))) ∧ ∀ u v, W.cell? ⟨b, off, none⟩ = some (.iface u v) → Value.okWide Tryd.prog W .any 0 u v) →
    (∀ x ∈ l, ∃ g text, Tryd.prog.globalNamed x.1 = some g ∧ (Tryd.prog.globals[g]?).map (·.type) = some 30 ∧ x.2 = errD text) →
    ∃ es : List Addr, es.length = l.length ∧ (∀ (i g : Nat) (a : Addr) n d, l[i]? = some (n, d) → Tryd.prog.globalNamed n = some g → es[i]? = some a → W.cell? ⟨g, 0, none⟩ = some (.iface 164 (.pointer (some a)))) ∧
      (∀ (i : Nat) a, es[i]? = some a → MemPlace.cell a.block a.off ∈ ps) ∧ (∀ (i j : Nat) (a : Addr), es[i]? = some a → es[j]? = some a → i = j)
  | [], ps, _, _, _, _ => ⟨[], rfl, fun i g a n d h => by simp at h, fun i a h => by simp at h, fun i j a h => by simp at h⟩
  | (n, d) :: r, ps, h, hnd, hok, hl => by
    obtain ⟨g, t, cs, fuel, p, q, hg, ht, hv, hd, hr, rfl⟩ := h
    obtain ⟨g', text, hg', ht', hdat⟩ := hl (n, d) (by simp)
    obtain rfl := Option.some.inj (hg'.symm.trans hg)
    obtain rfl := Option.some.inj (ht'.symm.trans ht)
    dsimp only at hdat
    subst hdat
    obtain ⟨l0⟩ := cs
    rw [List.nodup_append] at hnd
    obtain ⟨hnd1, hndq, hdis⟩ := hnd
    obtain ⟨a, s, e1, hc, _, _, rfl⟩ := errorString_of_trod Tryd.underlying30 errRow Tryd.underlying164 Tryd.underlying181 rfl rfl Tryd.underlying9 errC1 errC2 hd (fun u v e => by
      dsimp only at e
      subst e
      exact (hok g' 0 (by simp [MemPlace.row])).2 u v (by simpa using World.var?_cell hg hv 0))
    dsimp only at e1
    subst e1
    obtain ⟨es, hlen, hcell, hin, hdup⟩ := errs_vars r q hr hndq (fun b off hb => hok b off (by simp [hb])) (fun x hx => hl x (by simp [hx]))
    refine ⟨a :: es, by simp [hlen], ?_, ?_, ?_⟩
    · intro i g2 a2 n2 d2 h1 h2 h3
      cases i with
      | zero =>
        simp only [List.getElem?_cons_zero, Option.some.injEq, Prod.mk.injEq] at h1 h3
        obtain ⟨rfl, rfl⟩ := h1
        subst h3
        obtain rfl := Option.some.inj (h2.symm.trans hg)
        simpa using World.var?_cell hg hv 0
      | succ i => exact hcell i g2 a2 n2 d2 (by simpa using h1) h2 (by simpa using h3)
    · intro i a2 h1
      cases i with
      | zero =>
        simp only [List.getElem?_cons_zero, Option.some.injEq] at h1
        subst h1
        simp [MemPlace.row]
      | succ i => have := hin i a2 (by simpa using h1); simp [this]
    · have hout : ∀ (i : Nat) b, es[i]? = some b → b ≠ a := by
        rintro i b h1 rfl
        exact hdis _ (by simp [MemPlace.row]) _ (hin i b h1) rfl
      intro i j b h1 h2
      cases i with
      | zero =>
        cases j with
        | zero => rfl
        | succ j =>
          simp only [List.getElem?_cons_zero, Option.some.injEq] at h1
          exact absurd h1.symm (hout j b (by simpa using h2))
      | succ i =>
        cases j with
        | zero =>
          simp only [List.getElem?_cons_zero, Option.some.injEq] at h2
          exact absurd h2.symm (hout i b (by simpa using h1))
        | succ j => exact congrArg (· + 1) (hdup i j b (by simpa using h1) (by simpa using h2))

/-! ### a row's list that bears other variables too, or not all errors -/
theorem laid_sub {W : World} : ∀ {l l' : List (String × DataW Unit)}, l'.Sublist l → ∀ {ps : List MemPlace}, DataW.LaidVars Tryd.prog W l ps → ∃ ps', DataW.LaidVars Tryd.prog W l' ps' ∧ ps'.Sublist ps := by
  intro l l' hs
  induction hs with
  | slnil => intro ps h; exact ⟨ps, h, List.Sublist.refl _⟩
  | cons a hs ih =>
    intro ps h
    obtain ⟨n, d⟩ := a
    obtain ⟨g, t, cs, fuel, p, q, hg, ht, hv, hd, hr, rfl⟩ := h
    obtain ⟨ps', h1, h2⟩ := ih hr
    exact ⟨ps', h1, h2.trans (List.sublist_append_right _ _)⟩
  | cons_cons a hs ih =>
    intro ps h
    obtain ⟨n, d⟩ := a
    obtain ⟨g, t, cs, fuel, p, q, hg, ht, hv, hd, hr, rfl⟩ := h
    obtain ⟨ps', h1, h2⟩ := ih hr
    exact ⟨_, ⟨g, t, cs, fuel, p, ps', hg, ht, hv, hd, h1, rfl⟩, h2.append_left _⟩
theorem errs_part {W : World} {l l' : List (String × DataW Unit)} (h : laidMet Tryd.prog l W) (hs : l'.Sublist l)
    (hl : ∀ x ∈ l', ∃ g text, Tryd.prog.globalNamed x.1 = some g ∧ (Tryd.prog.globals[g]?).map (·.type) = some 30 ∧ x.2 = errD text) :
    ∃ es : List Addr, es.length = l'.length ∧ (∀ (i g : Nat) (a : Addr) n d, l'[i]? = some (n, d) → Tryd.prog.globalNamed n = some g → es[i]? = some a → W.cell? ⟨g, 0, none⟩ = some (.iface 164 (.pointer (some a)))) ∧
      (∀ (i : Nat) a, es[i]? = some a → ∃ c t, W.heap[a.block]? = some (.cells c t (0, 0))) ∧ (∀ (i j : Nat) (a : Addr), es[i]? = some a → es[j]? = some a → i = j) := by
  obtain ⟨ps, hv, hnd, hok⟩ := h
  obtain ⟨ps', hv', hsub⟩ := laid_sub hs hv
  obtain ⟨es, h1, h2, h3, h4⟩ := errs_vars l' ps' hv' (hnd.sublist hsub) (fun b off hb => hok b off (hsub.subset hb)) hl
  exact ⟨es, h1, h2, fun i a hi => (hok _ _ (hsub.subset (h3 i a hi))).1, h4⟩
def permE (perm : List Nat) (es : List Addr) : List Addr := perm.map fun i => es.getD i ⟨0, 0, none⟩
theorem permE_at {perm : List Nat} {es : List Addr} {i j : Nat} {a : Addr} (h1 : perm[i]? = some j) (h2 : es[j]? = some a) : (permE perm es)[i]? = some a := by
  unfold permE
  rw [List.getElem?_map, h1]
  simp [List.getD_eq_getElem?_getD, h2]
/-- the errors of these numbers alone -/
structure ErrsOn (E : List Nat) (w : World) (es : List Addr) : Prop where
  cell : ∀ n g : Nat, n ∈ E → errG[n - 1]? = some g → w.cell? ⟨g, 0, none⟩ = some (.iface 164 (.pointer (some (errAt es n))))
theorem ErrsOn.sub {E E' : List Nat} {w : World} {es : List Addr} (h : ErrsOn E w es) (hs : (E'.all fun n => E.contains n) = true) : ErrsOn E' w es :=
  ⟨fun n g hn hg => h.cell n g (List.contains_iff_mem.1 (List.all_eq_true.1 hs n hn)) hg⟩
theorem ErrsOn.load {E : List Nat} {w : World} {es : List Addr} (h : ErrsOn E w es) (n g : Nat) (hn : n ∈ E) (h1 : n ≤ 19) (hg : errG[n - 1]? = some g) : w.cell? ⟨g, 0, none⟩ = some (.iface 164 (.pointer (some (errAt es n)))) := h.cell n g hn hg
theorem ErrsOn.below {E : List Nat} {w w1 : World} {es : List Addr} (h : ErrsOn E w es) (hb : Below w.heap.size w w1) : ErrsOn E w1 es :=
  ⟨fun n g hn hg => (hb.cell (World.block_lt_of_cell? _ _ (h.cell n g hn hg))).trans (h.cell n g hn hg)⟩
theorem Errs.on {E : List Nat} {w : World} {es : List Addr} (h : Errs w es) (hE : (E.all fun n => decide (0 < n) && decide (n ≤ 19)) = true) : ErrsOn E w es :=
  ⟨fun n g hn hg => by
    have := List.all_eq_true.1 hE n hn
    simp only [Bool.and_eq_true, decide_eq_true_eq] at this
    exact h.load n g this.1 this.2 hg⟩
theorem errsOn_of {W : World} {E : List Nat} {l l' : List (String × DataW Unit)} (h : laidMet Tryd.prog l W) (hs : l'.Sublist l)
    (hl : ∀ x ∈ l', ∃ g text, Tryd.prog.globalNamed x.1 = some g ∧ (Tryd.prog.globals[g]?).map (·.type) = some 30 ∧ x.2 = errD text) (perm : List Nat)
    (hp : ∀ n ∈ E, ∃ i g nm d, perm[n - 1]? = some i ∧ l'[i]? = some (nm, d) ∧ Tryd.prog.globalNamed nm = some g ∧ errG[n - 1]? = some g) : ∃ es, ErrsOn E W es := by
  obtain ⟨es, h1, h2, _, _⟩ := errs_part h hs hl
  refine ⟨permE perm es, ⟨fun n g hn hg => ?_⟩⟩
  obtain ⟨i, g', nm, d, e1, e2, e3, e4⟩ := hp n hn
  obtain rfl := Option.some.inj (e4.symm.trans hg)
  have hi : i < es.length := by rw [h1]; exact (List.getElem?_eq_some_iff.1 e2).1
  have := h2 i g' es[i] nm d e2 e3 (List.getElem?_eq_getElem hi)
  unfold errAt
  rw [List.getD_eq_getElem?_getD, permE_at e1 (List.getElem?_eq_getElem hi)]
  exact this
end Go.Proofs.YtgphmfnkeolbcaaDoor
