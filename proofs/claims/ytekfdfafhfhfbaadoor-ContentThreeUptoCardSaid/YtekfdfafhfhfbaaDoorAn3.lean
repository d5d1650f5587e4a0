/- Two operations that make new memory and come up together. No condition. -/
import Derived.Test.YtekfdfafhfhfbaaDoorAn2
set_option linter.unusedVariables false
set_option linter.unusedSimpArgs false
namespace Go.Proofs.YtekfdfafhfhfbaaDoor.RX
open Go Go.RowKit Go.Proofs.YtekfdfafhfhfbaaDoorW.PrintLast
section
variable {P : Program} {N : Nat} {ops : Array Oper} {wd w : World} {ds : List Nat} {qs : QS} {l : Slots}
theorem XB_step {fuel' : Nat} {listed : Array Bool} (i : Nat) (o : Oper) (h0 : ops[i]? = some o)
    (h : XL P N ops [o] (thenS (fun l' w' => Below wd.heap.size wd w' ∧ XB P N ops wd ds fuel' (listed.setIfInBounds i true) qs l' w') qs) l w) (a : Act) (ha : Fr N l a) :
    wpOp P ops (lift N qs) i (fun a' w' => (i ∉ ds → Below wd.heap.size wd w → Below wd.heap.size wd w') ∧ wpAnyLast P .any ops (lift N qs) (fun w' => Below wd.heap.size wd w') ds fuel' (listed.setIfInBounds i true) a' w') a w := by
  have h1 := h a ha
  unfold wpOp
  simp only [h0]
  have hm : ∀ a' w', lift N (thenS (fun l' w' => Below wd.heap.size wd w' ∧ XB P N ops wd ds fuel' (listed.setIfInBounds i true) qs l' w') qs) .normal a' w' →
      (i ∉ ds → Below wd.heap.size wd w → Below wd.heap.size wd w') ∧ wpAnyLast P .any ops (lift N qs) (fun w' => Below wd.heap.size wd w') ds fuel' (listed.setIfInBounds i true) a' w' := by
    rintro a' w' ⟨l', hl', hb, hx⟩
    exact ⟨fun _ _ => hb, hx a' hl'⟩
  unfold wpList at h1
  split at h1
  · rename_i hw
    rw [if_pos hw]
    refine h1.imp (fun h1 => upon_Q (Q := lift N (thenS (fun l' w' => Below wd.heap.size wd w' ∧ XB P N ops wd ds fuel' (listed.setIfInBounds i true) qs l' w') qs)) (fun _ _ _ hx => hx) (fun hx => hx) (Oper.wp_mono (fun a' w' hx => hm a' w' hx) h1)) (fun h => h)
  · rename_i hw
    rw [if_neg hw]
    exact hm _ _ h1
/-- two that make new memory come up together: either may be first -/
theorem XB_two {fuel fuel' : Nat} {listed : Array Bool} (i j : Nat) (li lj : Array Bool) (o o' : Oper) (h0 : ops[i]? = some o) (h0' : ops[j]? = some o') (hr : Region.ready .any ops listed = [i, j]) (hl : listed.setIfInBounds i true = li) (hl' : listed.setIfInBounds j true = lj) (hf : fuel = fuel' + 1)
    (h : XL P N ops [o] (thenS (fun l' w' => Below wd.heap.size wd w' ∧ XB P N ops wd ds fuel' li qs l' w') qs) l w)
    (h' : XL P N ops [o'] (thenS (fun l' w' => Below wd.heap.size wd w' ∧ XB P N ops wd ds fuel' lj qs l' w') qs) l w) : XB P N ops wd ds fuel listed qs l w := by
  subst hf
  subst hl
  subst hl'
  intro a ha
  refine wpAnyLast_all hr (by simp) fun k hk => ?_
  have hk2 : k = i ∨ k = j := by simpa using hk
  rcases hk2 with rfl | rfl
  · exact XB_step k o h0 h a ha
  · exact XB_step k o' h0' h' a ha
end
end Go.Proofs.YtekfdfafhfhfbaaDoor.RX
