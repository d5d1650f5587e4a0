import Derived.Test.YtgphmfnkeolbcaaDoorCls
import Derived.Test.YtgphmfnkeolbcaaDoorCell
import Derived.Test.YtgphmfnkeolbcaaDoorO3
/- Builders: what operations do to a document's cells; the canonical list does the same. No condition. -/
set_option linter.unusedVariables false
set_option linter.unusedSimpArgs false
set_option maxRecDepth 100000
namespace Go.Proofs.YtgphmfnkeolbcaaDoor
open Go Go.RowKit Go.Proofs.YtgphmfnkeolbcaaDoorW.PrintWords RX
namespace B
def cR (at4 : List At) (r : Nat) : CellA := ⟨(r : Int), ByteArray.empty, 0, 0, ByteArray.empty, at4⟩
/-- the cells of an insert -/
noncomputable def came (o : OpA) : List CellA := if o.kind = 2 then [⟨-1, o.text, o.vk, o.vn, o.vt, o.attrs⟩] else (U.sc o.text).map (cR o.attrs)
def pat (at4 : List At) (c : CellA) : CellA := ⟨c.rune, c.kind, c.vk, c.vn, c.vt, comp (cmpF false) c.attrs at4⟩
/-- what operations make of cells; none: there are too few -/
noncomputable def edit : List OpA → List CellA → Option (List CellA)
  | [], cs => some cs
  | o :: r, cs => if o.kind = 1 ∨ o.kind = 2 then (edit r cs).map (came o ++ ·) else if (cs.length : Int) < o.count then none else if o.kind = 3 then (edit r (cs.drop o.count.toNat)).map ((cs.take o.count.toNat).map (pat o.attrs) ++ ·) else edit r (cs.drop o.count.toNat)
theorem ed_ins {o : OpA} (h : o.kind = 1 ∨ o.kind = 2) (r : List OpA) (cs : List CellA) : edit (o :: r) cs = (edit r cs).map (came o ++ ·) := if_pos h
theorem ed_few {o : OpA} (h : o.kind = 3 ∨ o.kind = 4) {cs : List CellA} (hc : (cs.length : Int) < o.count) (r : List OpA) : edit (o :: r) cs = none := by
  unfold edit
  rw [if_neg (by omega), if_pos hc]
theorem ed_ret {o : OpA} (h : o.kind = 3) {cs : List CellA} (hc : ¬ (cs.length : Int) < o.count) (r : List OpA) : edit (o :: r) cs = (edit r (cs.drop o.count.toNat)).map ((cs.take o.count.toNat).map (pat o.attrs) ++ ·) := by
  show (if _ then _ else _) = _
  rw [if_neg (by omega), if_neg hc, if_pos h]
theorem ed_del {o : OpA} (h : o.kind = 4) {cs : List CellA} (hc : ¬ (cs.length : Int) < o.count) (r : List OpA) : edit (o :: r) cs = edit r (cs.drop o.count.toNat) := by
  show (if _ then _ else _) = _
  rw [if_neg (by omega), if_neg hc, if_neg (by omega)]
theorem ed_congr {X Y : List OpA} (h : ∀ cs, edit X cs = edit Y cs) : ∀ (p : List OpA) (cs : List CellA), edit (p ++ X) cs = edit (p ++ Y) cs
  | [], cs => h cs
  | o :: p, cs => by
    have ih := ed_congr h p
    rw [List.cons_append, List.cons_append]
    unfold edit
    rw [ih, ih]
theorem map_add {α β : Type} (f : α → β) (cs : List α) (n m : Nat) : (cs.take (n + m)).map f = (cs.take n).map f ++ ((cs.drop n).take m).map f := by
  rw [← List.map_append, List.take_add]
/-- two that meet do what the joined one does -/
theorem ed_jo {b a : OpA} (hb : pErr b = 0) (ha : pErr a = 0) (hm : meets b a) (hk : a.kind ≠ 4) (r : List OpA) (cs : List CellA) : edit (jo b a :: r) cs = edit (b :: a :: r) cs := by
  obtain ⟨m1, m2, m3⟩ := hm
  rcases kind_of_ok ha with k | k | k | k
  · have kb : b.kind = 1 := m1.trans k
    have kj : (jo b a).kind = 1 := kb
    obtain ⟨_, _, _, _, _, ub, _⟩ := ok_ins hb kb
    obtain ⟨_, _, _, _, _, ua, _⟩ := ok_ins ha k
    obtain ⟨_, sa⟩ := utf_app ub ua
    have e : came (jo b a) = came b ++ came a := by
      unfold came
      rw [if_neg (by omega), if_neg (by omega), if_neg (by omega)]
      show (U.sc (b.text ++ a.text)).map (cR b.attrs) = _
      rw [sa, List.map_append, m3]
    rw [ed_ins (.inl kj), ed_ins (.inl kb), ed_ins (.inl k), e, Option.map_map]
    congr 1
    funext x
    exact List.append_assoc ..
  · exact absurd k m2
  · have kb : b.kind = 3 := m1.trans k
    have kj : (jo b a).kind = 3 := kb
    have h1 := count_of_ok hb (.inl kb)
    have h2 := count_of_ok ha (.inl k)
    have cj : (jo b a).count = b.count + a.count := rfl
    by_cases c1 : (cs.length : Int) < b.count
    · rw [ed_few (.inl kj) (by omega), ed_few (.inl kb) c1]
    · rw [ed_ret kb c1]
      have hl : (cs.drop b.count.toNat).length = cs.length - b.count.toNat := List.length_drop ..
      by_cases c2 : (cs.length : Int) < b.count + a.count
      · rw [ed_few (.inl kj) (by omega), ed_few (.inl k) (by omega)]; rfl
      · rw [ed_ret kj (by omega), ed_ret k (by omega), cj, show (b.count + a.count).toNat = b.count.toNat + a.count.toNat by omega, Option.map_map, ← List.drop_drop, map_add]
        show Option.map (fun x => (_ ++ _) ++ x) _ = _
        rw [show (jo b a).attrs = b.attrs from rfl, m3]
        congr 1
        funext x
        exact List.append_assoc ..
  · exact absurd k hk
theorem ed_push {X : List OpA} {a : OpA} (hX : badE X = 0) (ha : pErr a = 0) (hk : a.kind ≠ 4) (r : List OpA) (cs : List CellA) : edit (push X a ++ r) cs = edit (X ++ a :: r) cs := by
  rcases snoc_cases X with rfl | ⟨Y, b, rfl⟩
  · rw [push_nil]; rfl
  · rw [push_snoc]
    by_cases hm : meets b a
    · rw [if_pos hm, List.append_assoc, List.append_assoc]
      exact ed_congr (fun cs => ed_jo (bad_snoc.1 hX).2 ha hm hk r cs) Y cs
    · rw [if_neg hm, List.append_assoc]; rfl
theorem ed_two {g c : Int} (hg : 0 ≤ g) (hc : 0 ≤ c) (r : List OpA) (cs : List CellA) : edit (gone (g + c) :: r) cs = edit (gone g :: gone c :: r) cs := by
  have cg : ∀ n, (gone n).count = n := fun _ => rfl
  have hl : (cs.drop g.toNat).length = cs.length - g.toNat := List.length_drop ..
  by_cases c1 : (cs.length : Int) < g
  · rw [ed_few (.inr rfl) (by rw [cg]; omega), ed_few (.inr rfl) (by rw [cg]; omega)]
  · rw [ed_del (o := gone g) rfl (by rw [cg]; exact c1), cg]
    by_cases c2 : (cs.length : Int) < g + c
    · rw [ed_few (.inr rfl) (by rw [cg]; omega), ed_few (.inr rfl) (by rw [cg]; omega)]
    · rw [ed_del (o := gone (g + c)) rfl (by rw [cg]; omega), ed_del (o := gone c) rfl (by rw [cg]; omega), cg, cg, show (g + c).toNat = g.toNat + c.toNat by omega, List.drop_drop]
theorem ed_swap {a : OpA} (ha : a.kind = 1 ∨ a.kind = 2) (g : Int) (r : List OpA) (cs : List CellA) : edit (a :: gone g :: r) cs = edit (gone g :: a :: r) cs := by
  rw [ed_ins ha]
  by_cases c1 : (cs.length : Int) < g
  · rw [ed_few (o := gone g) (.inr rfl) c1, ed_few (o := gone g) (.inr rfl) c1]; rfl
  · rw [ed_del (o := gone g) rfl c1, ed_del (o := gone g) rfl c1, ed_ins ha]
theorem ed_run : ∀ xs : List OpA, badE xs = 0 → sB xs ≤ L → ∀ r cs, edit (dels (run xs).1 (run xs).2 ++ r) cs = edit (xs ++ r) cs := by
  refine snoc_ind ?_ ?_
  · intro _ _ r cs
    show edit (dels [] 0 ++ r) cs = _
    rw [show dels [] 0 = [] from if_pos rfl]
  · intro xs a ih h hL r cs
    obtain ⟨h1, h2⟩ := bad_snoc.1 h
    have hb := opB_ok h2
    rw [sB_snoc] at hL
    have hi := run_ok xs h1 (by omega)
    have ih := ih h1 (by omega) (a :: r) cs
    rw [List.append_assoc]
    show _ = edit (xs ++ a :: r) cs
    rw [← ih, run_snoc]
    have g0 := hi.g0
    have hsb := hi.sb
    have hs := sB_ok hi.good
    obtain ⟨d1, d2, d3, d4⟩ := dels_ok hi.good hi.chain hi.last hi.g0 (by omega)
    generalize run xs = s at *
    unfold step
    by_cases k4 : a.kind = 4
    · rw [if_pos k4]
      have hc := count_of_ok h2 (.inr k4)
      have ea := ok_del h2 k4
      show edit (dels s.1 (s.2 + a.count) ++ r) cs = _
      unfold dels
      rw [if_neg (by omega)]
      by_cases g1 : s.2 = 0
      · rw [if_pos g1, g1, Int.zero_add, ← ea, List.append_assoc]; rfl
      · rw [if_neg g1, List.append_assoc, List.append_assoc]
        refine ed_congr (fun cs => ?_) s.1 cs
        show edit (gone (s.2 + a.count) :: r) cs = edit (gone s.2 :: a :: r) cs
        rw [ed_two g0 (by omega), ← ea]
    · rw [if_neg k4]
      by_cases k3 : a.kind = 3
      · rw [if_pos k3]
        show edit (dels (push (dels s.1 s.2) a) 0 ++ r) cs = _
        rw [show dels (push (dels s.1 s.2) a) 0 = push (dels s.1 s.2) a from if_pos rfl]
        exact ed_push d1 h2 k4 r cs
      · rw [if_neg k3]
        have kk : a.kind = 1 ∨ a.kind = 2 := by have := kind_of_ok h2; omega
        show edit (dels (push s.1 a) s.2 ++ r) cs = _
        unfold dels
        by_cases g1 : s.2 = 0
        · rw [if_pos g1, if_pos g1]
          exact ed_push hi.good h2 k4 r cs
        · rw [if_neg g1, if_neg g1, List.append_assoc, List.append_assoc]
          show edit (push s.1 a ++ gone s.2 :: r) cs = edit (s.1 ++ gone s.2 :: a :: r) cs
          rw [ed_push hi.good h2 k4]
          exact ed_congr (fun cs => ed_swap kk _ r cs) s.1 cs
theorem ed_fin {a : OpA} (hp : plainR a) : ∀ (ys : List OpA) (cs : List CellA), (∀ c ∈ cs, pat [] c = c) → ∀ x, edit (ys ++ [a]) cs = some x → edit ys cs = some x
  | [], cs, hc, x, h => by
    rw [List.nil_append] at h
    by_cases c1 : (cs.length : Int) < a.count
    · rw [ed_few (.inl hp.1) c1] at h; cases h
    · rw [ed_ret hp.1 c1, List.eq_nil_of_length_eq_zero hp.2] at h
      have e : (cs.take a.count.toNat).map (pat []) = cs.take a.count.toNat := by
        refine (List.map_congr_left (g := id) fun c hx => hc c (List.mem_of_mem_take hx)).trans (List.map_id _)
      rw [e] at h
      have h : some (cs.take a.count.toNat ++ cs.drop a.count.toNat) = some x := h
      rw [List.take_append_drop] at h
      exact h
  | o :: ys, cs, hc, x, h => by
    rw [List.cons_append] at h
    by_cases k1 : o.kind = 1 ∨ o.kind = 2
    · rw [ed_ins k1] at h ⊢
      obtain ⟨y, hy, e⟩ := Option.map_eq_some_iff.1 h
      rw [ed_fin hp ys cs hc y hy]
      exact congrArg some e
    · unfold edit at h ⊢
      rw [if_neg k1] at h ⊢
      by_cases c1 : (cs.length : Int) < o.count
      · rw [if_pos c1] at h; cases h
      · rw [if_neg c1] at h ⊢
        have hd : ∀ c ∈ cs.drop o.count.toNat, pat [] c = c := fun c hx => hc c (List.mem_of_mem_drop hx)
        by_cases k3 : o.kind = 3
        · rw [if_pos k3] at h ⊢
          obtain ⟨y, hy, e⟩ := Option.map_eq_some_iff.1 h
          rw [ed_fin hp ys _ hd y hy]
          exact congrArg some e
        · rw [if_neg k3] at h ⊢
          exact ed_fin hp ys _ hd x h
theorem merge_nil : ∀ xs : List At, merge xs [] = xs.map fun x => (some x, none)
  | [] => by unfold merge; rfl
  | x :: a => by unfold merge; rw [merge_nil a]; rfl
theorem pat_nil {c : CellA} (h : chkA false c.attrs = 0) : pat [] c = c := by
  have hg := ((chkA_good false c.attrs).1 h).1
  have e : comp (cmpF false) c.attrs [] = c.attrs := by
    unfold comp
    rw [merge_nil, List.filterMap_map]
    have : ∀ l : List At, (∀ x ∈ l, x ∈ c.attrs) → l.filterMap (cmpF false ∘ fun x => (some x, none)) = l := by
      intro l
      induction l with
      | nil => intro _; rfl
      | cons x l ih =>
        intro hx
        have h1 := (hg x (hx x (by simp))).2
        have h2 : isNull x = false := h1.resolve_left (by simp)
        rw [List.filterMap_cons_some (b := x) (by show (if false = true ∨ isNull x = false then some x else none) = some x; rw [if_pos (.inr h2)]), ih (fun y hy => hx y (by simp [hy]))]
    exact this c.attrs fun _ h => h
  unfold pat
  rw [e]
/-- the canonical list does what the operations do -/
theorem ed_can {xs : List OpA} (h : (bOf xs).2 = 0) {cs : List CellA} (hc : ∀ c ∈ cs, chkA false c.attrs = 0) {x : List CellA} (he : edit xs cs = some x) : edit (can xs) cs = some x := by
  obtain ⟨h1, h2, _⟩ := bOf_ok h
  have hr := ed_run xs h1 h2 [] cs
  rw [List.append_nil, List.append_nil, he] at hr
  unfold can
  rcases snoc_cases (dels (run xs).1 (run xs).2) with e | ⟨ys, a, e⟩
  · rw [e] at hr ⊢; exact hr
  · rw [e] at hr ⊢
    rw [fin_snoc]
    by_cases hp : plainR a
    · rw [if_pos hp]; exact ed_fin hp ys cs (fun c hx => pat_nil (hc c hx)) x hr
    · rw [if_neg hp]; exact hr
section
variable {xs : List OpA} {cs : List CellA} {i pt : Nat} {out : List CellA}
end
end B
end Go.Proofs.YtgphmfnkeolbcaaDoor
