/- Strings: an index, a cut, conversions, going over one. No condition. -/
import Derived.Test.YtkehomiogkoomaaDoorKd
import Derived.Laws.Strings
import Derived.Laws.Strings3
import Derived.Laws.DeepStrings4
import Derived.Laws.BytesArg
import Derived.Laws.Cover4
import Derived.Laws.IdiomStrings
import Derived.Lib.OthersKept
import Derived.Laws.RangeString
import Derived.Laws.Entries
import Derived.Laws.Concat
set_option linter.unusedVariables false
set_option linter.unusedSimpArgs false
namespace Go.Proofs.YtkehomiogkoomaaDoor.RX
open Go Go.RowKit Go.Proofs.YtkehomiogkoomaaDoorW.PrintWords

section
variable {P : Program} {l : Slots} {t ty : TypeId} {x lo hi y : Operand} {s : ByteArray} {k k' : IntKind} {w : World}
theorem runs_conv {src dst : TypeId} {v v' : Value} (hx : ev l x = some v) (h : (convert src dst v).run P w = .ok v' w) : RunsAs P l (.convert src dst x) ty v' w := by
  intro o ho _
  have e1 : evD l x = v := by rw [evD, hx]; rfl
  unfold execOp
  simp only [ho, e1, Sem.run_bind, Sem.run_pure, Result.andThen_ok, h]
end
theorem run_sadd {P : Program} {t : TypeId} {a b : ByteArray} {w : World} (h : a.size + b.size ≤ 9223372036854775807) : (binOp .add t (.string a) (.string b)).run P w = .ok (.string (a ++ b)) w := by rw [binOp_string_add]; exact run_string_add_sum w a b h
theorem add_plain (g j : Nat) : (⟨g, 0, none⟩ : Addr).add j = ⟨g, j, none⟩ := by unfold Addr.add; split <;> simp_all
/-- string(rs), rs any row of scalars -/
theorem conv_runesC {P : Program} {w : World} {src dst e n c : Nat} {A : Option Addr} (xs : List Int) (hs : P.underlying src = some (.slice e)) (he : P.underlying e = some (.int .i32)) (hd : P.underlying dst = some .string)
    (h : (Kd.int .i32).C w A n xs) : (convert src dst (.slice A n c)).run P w = .ok (.string (runesBytes xs)) w := by
  obtain ⟨hn, _, _⟩ := id h
  by_cases h0 : n = 0
  · subst h0
    have : xs = [] := List.length_eq_zero_iff.1 hn
    subst this
    rw [run_convert_runes_string w src dst e _ _ _ hs he hd]
    cases A with
    | none => rfl
    | some a => exact run_runesToString w a 0 c [] (by simp [run_loadCells w a 0 (fun _ => undef) (fun j hj => by omega)])
  · obtain ⟨ad, rfl, _⟩ := Kd.atI h (i := 0) (by omega) (by omega)
    have := run_convert_runes (P := P) w src dst e ad n c xs (by omega) hs he hd (fun j hj => by
      obtain ⟨ad', e1, hc⟩ := Kd.atI h (i := (j : Int)) (by omega) (by omega)
      injection e1 with e1
      subst e1
      have := hc 0 _ rfl
      simp only [Int.toNat_natCast, Nat.mul_one] at this
      rw [RX.add_add, Nat.add_zero] at this
      rw [this]; simp [rd])
    rwa [List.take_of_length_le (by omega)] at this

section
variable {P : Program} {N : Nat} {ops : Array Oper} {qs : QS} {rest : List Oper} {o : Oper} {l : Slots} {w : World}
theorem XL_val (hg : gd ops l o = some true) (hd : okD N o.dst = true) {v : Value} {w1 : World} (hr : ∀ a, Fr N l a → (execOp a.eval o).run P w = .ok (.value v) w1) (hn : XL P N ops rest qs (putS l o.dst v) w1) : XL P N ops (o :: rest) qs l w := by
  intro a ha
  refine wpList_step fun K hK => ?_
  rw [if_pos (gd_ok ha hg)]
  unfold Oper.wp
  rw [hr a ha]
  exact hK _ _ (hn _ (ha.putS hd v))
/-- []rune(s) -/
theorem XL_runes {src dst e : TypeId} {x : Operand} {s : ByteArray} (rs : List Int) (ho : o.op = .convert src dst x) (hg : gd ops l o = some true) (hd : okD N o.dst = true) (hs : P.underlying src = some .string) (hdt : P.underlying dst = some (.slice e)) (he : P.underlying e = some (.int .i32))
    (hv : evs l [x] = some [.string s]) (hrs : Conv.runesFrom s s.size 0 #[] = (rs.map (Value.int .i32)).toArray) (h46 : rs.length ≤ 1073741824)
    (hn : ∀ c w1, (Kd.int .i32).R e w1 w.heap.size (OkFrom w.heap.size) (.slice (some ⟨w.heap.size, 0, none⟩) rs.length c) rs → rs.length ≤ c → Below w.heap.size w w1 → XL P N ops rest qs (putS l o.dst (.slice (some ⟨w.heap.size, 0, none⟩) rs.length c)) w1) : XL P N ops (o :: rest) qs l w := by
  have hsz : (Conv.runesFrom s s.size 0 #[]).size = rs.length := by rw [hrs]; simp
  have hrun := run_runes_of_string (P := P) w src dst e s hs hdt he (by omega)
  rw [hsz] at hrun
  have hge := grownCap_ge w rs.length 0 e
  have hle : grownCap w rs.length 0 e ≤ maxLen := grownCap_le_maxLen w rs.length 0 e (by simp only [maxLen]; omega)
  refine XL_val hg hd (w1 := w.drew.alloc (.cells (Conv.runesFrom s s.size 0 #[] ++ Array.replicate (grownCap w rs.length 0 e - rs.length) (.int .i32 0)) e)) (fun a ha => ?_) (hn (grownCap w rs.length 0 e) _ ?_ hge ?_)
  · have hx := evs_ok ha _ _ hv
    simp only [List.map_cons, List.map_nil, List.cons.injEq, and_true] at hx
    unfold execOp
    simp only [ho, hx, Sem.run_bind, hrun, Result.andThen_ok, Sem.run_pure]
  · refine ⟨fun k hk => ?_, rs.map (Value.int .i32), ⟨(by show (rs.map (Value.int .i32)).length = rs.length * 1; simp), .inr ⟨w.heap.size, _, (Conv.runesFrom s s.size 0 #[] ++ Array.replicate (grownCap w rs.length 0 e - rs.length) (.int .i32 0)), rfl, Nat.le_refl _, ?_, hge, hle, ?_, ?_⟩⟩, ?_⟩
    · simp only [Value.ownBlock, Option.some.injEq] at hk
      subst hk
      exact Nat.le_refl _
    · exact heap_alloc_new w.drew _
    · rw [hrs]; simp only [Array.size_append, List.size_toArray, List.length_map, Array.size_replicate]; show _ = grownCap w rs.length 0 e * 1; omega
    · rw [hrs]; show List.take (rs.length * 1) _ = _; simp
    · have := repsInt (w := w.drew.alloc (.cells (Conv.runesFrom s s.size 0 #[] ++ Array.replicate (grownCap w rs.length 0 e - rs.length) (.int .i32 0)) e)) (base := w.heap.size) (ok := fun k => OkFrom w.heap.size k ∧ some k ≠ (Value.slice (some ⟨w.heap.size, 0, none⟩) rs.length (grownCap w rs.length 0 e)).ownBlock) (k := .i32) rs
      rwa [show rs.flatMap (fun x => [Value.int .i32 x]) = rs.map (Value.int .i32) from by clear hn hrun hsz hrs h46 hge hle this; induction rs with | nil => rfl | cons x r ih => simp [ih]] at this
  · exact (Below.refl _ _).drew.alloc (Nat.le_refl _) _
end
end Go.Proofs.YtkehomiogkoomaaDoor.RX
