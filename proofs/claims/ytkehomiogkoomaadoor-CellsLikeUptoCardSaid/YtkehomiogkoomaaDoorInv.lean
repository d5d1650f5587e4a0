/- Calls of methods through an interface whose dynamic type is known. No condition. -/
import Derived.Test.YtkehomiogkoomaaDoorRX
set_option linter.unusedVariables false
set_option linter.unusedSimpArgs false
namespace Go.Proofs.YtkehomiogkoomaaDoor.RX
open Go Go.RowKit
section
variable {P : Program} {N : Nat} {ops : Array Oper} {qs : QS} {rest : List Oper} {o : Oper} {l : Slots} {w : World}
theorem XL_inv (f : FuncId) (args : Array Value) (hg : gd ops l o = some true) (hd : okD N o.dst = true) (hk : (known l o && notSelect o.op) = true) (hr : (execOp (evD l) o).run P w = .ok (.enter f args) w)
    {R : Ending → World → Prop} (hc : Calls P f args w R) (hn : ∀ e w', R e w' → ∃ v, e = .returned v ∧ XL P N ops rest qs (putS l o.dst v) w') : XL P N ops (o :: rest) qs l w := by
  intro a ha
  simp only [Bool.and_eq_true] at hk
  refine wpList_step fun K hK => ?_
  rw [if_pos (gd_ok ha hg)]
  refine wp_enter (f := f) (args := args) (by rw [run_known ha P w hk.1 hk.2]; exact hr) hc fun e w' hR => ?_
  obtain ⟨v, h1, h2⟩ := hn e w' hR
  exact ⟨v, h1, hK _ _ (h2 _ (ha.putS hd v))⟩
end
end Go.Proofs.YtkehomiogkoomaaDoor.RX
