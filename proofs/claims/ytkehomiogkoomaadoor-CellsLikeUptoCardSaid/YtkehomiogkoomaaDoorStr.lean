/- Strings: an index, a cut, conversions, going over one. No condition. -/
import Derived.Test.YtkehomiogkoomaaDoorKd
import Derived.Laws.Strings
import Derived.Laws.Strings3
import Derived.Laws.DeepStrings4
import Derived.Laws.BytesArg
import Derived.Laws.Cover4
import Derived.Laws.IdiomStrings
import Derived.Lib.OthersKept
import Derived.Laws.RangeString
import Derived.Laws.Entries
import Derived.Laws.Concat
set_option linter.unusedVariables false
set_option linter.unusedSimpArgs false
namespace Go.Proofs.YtkehomiogkoomaaDoor.RX
open Go Go.RowKit Go.Proofs.YtkehomiogkoomaaDoorW.PrintWords

section
variable {P : Program} {l : Slots} {t ty : TypeId} {x lo hi y : Operand} {s : ByteArray} {k k' : IntKind} {w : World}
theorem runs_conv {src dst : TypeId} {v v' : Value} (hx : ev l x = some v) (h : (convert src dst v).run P w = .ok v' w) : RunsAs P l (.convert src dst x) ty v' w := by
  intro o ho _
  have e1 : evD l x = v := by rw [evD, hx]; rfl
  unfold execOp
  simp only [ho, e1, Sem.run_bind, Sem.run_pure, Result.andThen_ok, h]
end
theorem run_sadd {P : Program} {t : TypeId} {a b : ByteArray} {w : World} (h : a.size + b.size ≤ 9223372036854775807) : (binOp .add t (.string a) (.string b)).run P w = .ok (.string (a ++ b)) w := by rw [binOp_string_add]; exact run_string_add_sum w a b h
theorem add_plain (g j : Nat) : (⟨g, 0, none⟩ : Addr).add j = ⟨g, j, none⟩ := by unfold Addr.add; split <;> simp_all
/-- string(rs), rs any row of scalars -/
theorem conv_runesC {P : Program} {w : World} {src dst e n c : Nat} {A : Option Addr} (xs : List Int) (hs : P.underlying src = some (.slice e)) (he : P.underlying e = some (.int .i32)) (hd : P.underlying dst = some .string)
    (h : (Kd.int .i32).C w A n xs) : (convert src dst (.slice A n c)).run P w = .ok (.string (runesBytes xs)) w := by
  obtain ⟨hn, _, _⟩ := id h
  by_cases h0 : n = 0
  · subst h0
    have : xs = [] := List.length_eq_zero_iff.1 hn
    subst this
    rw [run_convert_runes_string w src dst e _ _ _ hs he hd]
    cases A with
    | none => rfl
    | some a => exact run_runesToString w a 0 c [] (by simp [run_loadCells w a 0 (fun _ => undef) (fun j hj => by omega)])
  · obtain ⟨ad, rfl, _⟩ := Kd.atI h (i := 0) (by omega) (by omega)
    have := run_convert_runes (P := P) w src dst e ad n c xs (by omega) hs he hd (fun j hj => by
      obtain ⟨ad', e1, hc⟩ := Kd.atI h (i := (j : Int)) (by omega) (by omega)
      injection e1 with e1
      subst e1
      have := hc 0 _ rfl
      simp only [Int.toNat_natCast, Nat.mul_one] at this
      rw [RX.add_add, Nat.add_zero] at this
      rw [this]; simp [rd])
    rwa [List.take_of_length_le (by omega)] at this

section
variable {P : Program} {N : Nat} {ops : Array Oper} {qs : QS} {rest : List Oper} {o : Oper} {l : Slots} {w : World}
theorem XL_val (hg : gd ops l o = some true) (hd : okD N o.dst = true) {v : Value} {w1 : World} (hr : ∀ a, Fr N l a → (execOp a.eval o).run P w = .ok (.value v) w1) (hn : XL P N ops rest qs (putS l o.dst v) w1) : XL P N ops (o :: rest) qs l w := by
  intro a ha
  refine wpList_step fun K hK => ?_
  rw [if_pos (gd_ok ha hg)]
  unfold Oper.wp
  rw [hr a ha]
  exact hK _ _ (hn _ (ha.putS hd v))
end
end Go.Proofs.YtkehomiogkoomaaDoor.RX
