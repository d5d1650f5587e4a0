/- Strings: an index, a cut, conversions, going over one. No condition. -/
import Derived.Test.YtkehomiogkoomaaDoorKd
import Derived.Laws.Strings
import Derived.Laws.Strings3
import Derived.Laws.DeepStrings4
import Derived.Laws.BytesArg
import Derived.Laws.Cover4
import Derived.Laws.IdiomStrings
import Derived.Lib.OthersKept
import Derived.Laws.RangeString
import Derived.Laws.Entries
import Derived.Laws.Concat
set_option linter.unusedVariables false
set_option linter.unusedSimpArgs false
namespace Go.Proofs.YtkehomiogkoomaaDoor.RX
open Go Go.RowKit Go.Proofs.YtkehomiogkoomaaDoorW.PrintWords

section
variable {P : Program} {l : Slots} {t ty : TypeId} {x lo hi y : Operand} {s : ByteArray} {k k' : IntKind} {w : World}
end
theorem run_sadd {P : Program} {t : TypeId} {a b : ByteArray} {w : World} (h : a.size + b.size ≤ 9223372036854775807) : (binOp .add t (.string a) (.string b)).run P w = .ok (.string (a ++ b)) w := by rw [binOp_string_add]; exact run_string_add_sum w a b h
theorem add_plain (g j : Nat) : (⟨g, 0, none⟩ : Addr).add j = ⟨g, j, none⟩ := by unfold Addr.add; split <;> simp_all
section
variable {P : Program} {N : Nat} {ops : Array Oper} {qs : QS} {rest : List Oper} {o : Oper} {l : Slots} {w : World}
theorem XL_val (hg : gd ops l o = some true) (hd : okD N o.dst = true) {v : Value} {w1 : World} (hr : ∀ a, Fr N l a → (execOp a.eval o).run P w = .ok (.value v) w1) (hn : XL P N ops rest qs (putS l o.dst v) w1) : XL P N ops (o :: rest) qs l w := by
  intro a ha
  refine wpList_step fun K hK => ?_
  rw [if_pos (gd_ok ha hg)]
  unfold Oper.wp
  rw [hr a ha]
  exact hK _ _ (hn _ (ha.putS hd v))
theorem XL_range {t : TypeId} {x : Operand} {s : ByteArray} (ho : o.op = .range t x) (hg : gd ops l o = some true) (hd : okD N o.dst = true) (ht : P.underlying t = some .string) (hv : evs l [x] = some [.string s])
    (hn : ∀ w1, Below w.heap.size w w1 → w1.heap[w.heap.size]? = some (.stringIter s 0) → XL P N ops rest qs (putS l o.dst (.pointer (some ⟨w.heap.size, 0, none⟩))) w1) : XL P N ops (o :: rest) qs l w := by
  refine XL_val hg hd (v := .pointer (some ⟨w.heap.size, 0, none⟩)) (w1 := w.iter s 0) (fun a ha => ?_) (hn _ ((Below.refl _ _).alloc (Nat.le_refl _) _) (World.iter_heap w s 0))
  have he := evs_ok ha _ _ hv
  simp only [List.map_cons, List.map_nil, List.cons.injEq, and_true] at he
  unfold execOp
  simp only [ho, he, Sem.run_bind, run_range_string w t s ht, Result.andThen_ok, Sem.run_pure]
theorem XL_next {x : Operand} {s : ByteArray} {g pos : Nat} (ho : o.op = .next x true) (hg : gd ops l o = some true) (hd : okD N o.dst = true) (hv : evs l [x] = some [.pointer (some ⟨g, 0, none⟩)]) (hk : w.heap[g]? = some (.stringIter s pos))
    (h1 : pos < s.size → ∀ w1, w.grownBy w1 (some g) → w1.heap[g]? = some (.stringIter s (pos + (Utf8.decode s pos).2)) → XL P N ops rest qs (putS l o.dst (.tuple #[.bool true, .int .i64 (pos : Int), .int .i32 ((Utf8.decode s pos).1 : Int)])) w1)
    (h2 : ¬ pos < s.size → XL P N ops rest qs (putS l o.dst (.tuple #[.bool false])) w) : XL P N ops (o :: rest) qs l w := by
  by_cases hp : pos < s.size
  · refine XL_val hg hd (w1 := w.iterAt g s (pos + (Utf8.decode s pos).2)) (fun a ha => ?_) (h1 hp _ ⟨rfl, rfl, rfl, by simp [World.iterAt], fun k hkl hne => ?_⟩ (Lib.iterAt_heap w g s pos _ hk))
    · have he := evs_ok ha _ _ hv
      simp only [List.map_cons, List.map_nil, List.cons.injEq, and_true] at he
      unfold execOp
      simp only [ho, he, Sem.run_bind, Lib.run_next_any_at w g s pos _ hk hp, Result.andThen_ok, Sem.run_pure]
    · simp only [World.iterAt]
      rw [Array.getElem?_setIfInBounds_ne]
      intro e; subst e; exact hne rfl
  · refine XL_val hg hd (w1 := w) (fun a ha => ?_) (h2 hp)
    have he := evs_ok ha _ _ hv
    simp only [List.map_cons, List.map_nil, List.cons.injEq, and_true] at he
    unfold execOp
    simp only [ho, he, Sem.run_bind, Lib.run_next_end_at w g s pos _ hk hp, Result.andThen_ok, Sem.run_pure]
end
end Go.Proofs.YtkehomiogkoomaaDoor.RX
