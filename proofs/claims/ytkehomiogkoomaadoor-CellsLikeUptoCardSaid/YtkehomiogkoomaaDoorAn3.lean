/- Two operations that make new memory and come up together. No condition. -/
import Derived.Test.YtkehomiogkoomaaDoorAn2
set_option linter.unusedVariables false
set_option linter.unusedSimpArgs false
namespace Go.Proofs.YtkehomiogkoomaaDoor.RX
open Go Go.RowKit Go.Proofs.YtkehomiogkoomaaDoorW.PrintLast
section
variable {P : Program} {N : Nat} {ops : Array Oper} {wd w : World} {ds : List Nat} {qs : QS} {l : Slots}
end
theorem XB_gPure {P : Program} {N : Nat} {ops : Array Oper} {wd w0 : World} {ds : List Nat} {qs : QS} {ov : List (Nat × Ov)} {fuel : Nat} (hq : Deaf qs) : ∀ (ids : List Nat) (listed : Array Bool) (l : Slots) (vs : List Value) (listed' : Array Bool) (l' : Slots) (cs : World → List Prop),
    (∀ w, gA P N ops ov ds true w ids listed l = some (vs, listed', l', List.replicate ids.length w, cs w)) → (∀ w, allP (cs w)) → XB P N ops wd ds fuel listed' qs l' w0 → XB P N ops wd ds (ids.length + fuel) listed qs l w0 := by
  intro ids
  induction ids with
  | nil =>
    intro listed l vs listed' l' cs h _ hn
    have h := h w0
    simp only [gA, Option.some.injEq, Prod.mk.injEq] at h
    obtain ⟨_, rfl, rfl, _⟩ := h
    simpa using hn
  | cons i r ih =>
    intro listed l vs listed' l' cs h hc hn a ha
    have h0 := h w0
    simp only [gA] at h0
    split at h0
    · cases h0
    · rename_i o ho
      cases hb : (o.dst.isSome && okD N o.dst && Region.noSelect ops && Region.free .any ops listed i && (Region.ready .any ops listed).contains i && Region.closedB .any ops listed && (true || Region.lastB .any ops listed ds i)) with
      | false => rw [hb] at h0; cases h0
      | true =>
        rw [hb] at h0
        simp only [cond_true] at h0
        have hb' := hb
        simp only [Bool.and_eq_true] at hb'
        obtain ⟨⟨⟨⟨⟨⟨hsome, hd⟩, hs⟩, hf⟩, hr⟩, hcl⟩, _⟩ := hb'
        rw [show (i :: r).length + fuel = (r.length + fuel) + 1 from by simp; omega]
        split at h0
        · rename_i hg
          split at h0
          · rename_i v w1 cs1 h1
            split at h0
            · rename_i vs2 ls l2 ws cs2 h2
              simp only [Option.some.injEq, Prod.mk.injEq, List.length_cons, List.replicate_succ, List.cons.injEq] at h0
              obtain ⟨rfl, rfl, rfl, _, _⟩ := h0
              have hall : ∀ w, ∃ c1 c2, gx1 P l w o (ovOf ov o.dst) = some (v, w, c1) ∧ gA P N ops ov ds true w r (listed.setIfInBounds i true) (putS l o.dst v) = some (vs2, ls, l2, List.replicate r.length w, c2) ∧ cs w = c1 ++ c2 := by
                intro w
                have hw := h w
                simp only [gA, ho, hb, cond_true, hg] at hw
                split at hw
                · rename_i v' w' c1 e1
                  split at hw
                  · rename_i vs' ls' l2' ws' c2 e2
                    simp only [Option.some.injEq, Prod.mk.injEq, List.length_cons, List.replicate_succ, List.cons.injEq] at hw
                    obtain ⟨⟨rfl, rfl⟩, rfl, rfl, ⟨rfl, rfl⟩, hcw⟩ := hw
                    exact ⟨c1, c2, e1, e2, hcw.symm⟩
                  · cases hw
                · cases hw
              refine wpAnyLast_any (v := v) ho (Region.noSelect_spec hs) (deaf_lift hq _ _) _ _ _ _ (Region.free_spec ho hf) (by simpa using hr) (.inl ⟨gd_ok ha hg, fun w => ?_⟩) ?_
              · obtain ⟨c1, c2, e1, _, ec⟩ := hall w
                have hcw := hc w
                rw [ec] at hcw
                rcases gx1_ok e1 (allP_append hcw).1 ha with hrun | ⟨_, _, hn⟩
                · exact hrun
                · rw [hn] at hsome; cases hsome
              · exact ih _ _ _ _ _ (fun w => ((gA P N ops ov ds true w r (listed.setIfInBounds i true) (putS l o.dst v)).map (·.2.2.2.2)).getD []) (fun w => by
                  obtain ⟨c1, c2, _, e2, _⟩ := hall w
                  rw [e2]; rfl) (fun w => by
                  obtain ⟨c1, c2, _, e2, ec⟩ := hall w
                  rw [e2]
                  have hcw := hc w
                  rw [ec] at hcw
                  exact (allP_append hcw).2) hn _ (ha.putS hd v)
            · cases h0
          · cases h0
        · rename_i hg
          split at h0
          · rename_i vs2 ls l2 ws cs2 h2
            simp only [Option.some.injEq, Prod.mk.injEq, List.length_cons, List.replicate_succ, List.cons.injEq] at h0
            obtain ⟨rfl, rfl, rfl, _, _⟩ := h0
            have hall : ∀ w, gA P N ops ov ds true w r (listed.setIfInBounds i true) (putS l o.dst undef) = some (vs2, ls, l2, List.replicate r.length w, cs w) := by
              intro w
              have hw := h w
              simp only [gA, ho, hb, cond_true, hg] at hw
              split at hw
              · rename_i vs' ls' l2' ws' c2 e2
                simp only [Option.some.injEq, Prod.mk.injEq, List.length_cons, List.replicate_succ, List.cons.injEq] at hw
                obtain ⟨⟨_, rfl⟩, rfl, rfl, ⟨_, rfl⟩, rfl⟩ := hw
                exact e2
              · cases hw
            exact wpAnyLast_any (v := undef) ho (Region.noSelect_spec hs) (deaf_lift hq _ _) _ _ _ _ (Region.free_spec ho hf) (by simpa using hr) (.inr ⟨gd_ok ha hg, rfl⟩) (ih _ _ _ _ _ cs hall hc hn _ (ha.putS hd undef))
          · cases h0
        · cases h0

section
variable {P : Program} {N : Nat} {ops : Array Oper} {wd w : World} {ds : List Nat} {qs : QS} {l : Slots}
theorem XB_pure {fuel fuel' : Nat} {listed : Array Bool} (ids : List Nat) (ov : List (Nat × Ov)) (vs : List Value) (listed' : Array Bool) (l' : Slots) (cs : World → List Prop) (hq : Deaf qs)
    (h : ∀ w, (gA P N ops ov ds true w ids listed l).map (fun r => (r.1, r.2.1, keep r.2.2.1 (l'.map (·.1)), r.2.2.2)) = some (vs, listed', l', List.replicate ids.length w, cs w)) (hf : fuel = ids.length + fuel') (hc : ∀ w, allP (cs w)) (hn : XB P N ops wd ds fuel' listed' qs l' w) : XB P N ops wd ds fuel listed qs l w := by
  subst hf
  have h2 : ∀ w, gA P N ops ov ds true w ids listed l = some (vs, listed', putIds ops ids vs l, List.replicate ids.length w, cs w) ∧ keep (putIds ops ids vs l) (l'.map (·.1)) = l' := by
    intro w
    obtain ⟨r, hr, he⟩ := Option.map_eq_some_iff.1 (h w)
    obtain ⟨vs1, ls1, l1, ws1, cs1⟩ := r
    simp only [Prod.mk.injEq] at he
    obtain ⟨rfl, rfl, he, rfl, rfl⟩ := he
    have := gA_slots _ _ _ _ _ _ _ _ hr
    subst this
    exact ⟨hr, he⟩
  refine XB_gPure hq ids listed l _ _ _ _ (fun w => (h2 w).1) hc ?_
  intro a ha
  exact hn a (by rw [← (h2 w).2]; exact ha.keep _)
end
end Go.Proofs.YtkehomiogkoomaaDoor.RX
