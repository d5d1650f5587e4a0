import Derived.Test.YtgphmfnkeolbcaaDoorAt
import Derived.Laws.Strings
import Derived.Laws.Strings3
import Derived.Laws.DeepStrings4
import Derived.Laws.BytesArg
import Derived.Laws.Cover4
import Derived.Laws.IdiomStrings
import Derived.Lib.OthersKept
import Derived.Laws.RangeString
import Derived.Laws.Entries
import Derived.Laws.Concat
import Derived.Test.YtgphmfnkeolbcaaDoorRow
import Derived.Stop.Asserts
/- Strings: an index, a cut, conversions, going over one. No condition. -/
set_option linter.unusedVariables false
set_option linter.unusedSimpArgs false
namespace Go.Proofs.YtgphmfnkeolbcaaDoor.RX
open Go Go.RowKit Go.Proofs.YtgphmfnkeolbcaaDoorW.PrintWords

section
variable {P : Program} {l : Slots} {t ty : TypeId} {x lo hi y : Operand} {s : ByteArray} {k k' : IntKind} {w : World}
theorem runs_conv {src dst : TypeId} {v v' : Value} (hx : ev l x = some v) (h : (convert src dst v).run P w = .ok v' w) : RunsAs P l (.convert src dst x) ty v' w := by
  intro o ho _
  have e1 : evD l x = v := by rw [evD, hx]; rfl
  unfold execOp
  simp only [ho, e1, Sem.run_bind, Sem.run_pure, Result.andThen_ok, h]
end
theorem run_sadd {P : Program} {t : TypeId} {a b : ByteArray} {w : World} (h : a.size + b.size ≤ 9223372036854775807) : (binOp .add t (.string a) (.string b)).run P w = .ok (.string (a ++ b)) w := by rw [binOp_string_add]; exact run_string_add_sum w a b h
theorem add_plain (g j : Nat) : (⟨g, 0, none⟩ : Addr).add j = ⟨g, j, none⟩ := by unfold Addr.add; split <;> simp_all
/-- string(rs), rs any row of scalars -/
theorem conv_runesC {P : Program} {w : World} {src dst e n c : Nat} {A : Option Addr} (xs : List Int) (hs : P.underlying src = some (.slice e)) (he : P.underlying e = some (.int .i32)) (hd : P.underlying dst = some .string)
    (h : (Kd.int .i32).C w A n xs) : (convert src dst (.slice A n c)).run P w = .ok (.string (runesBytes xs)) w := by
  obtain ⟨hn, _, _⟩ := id h
  by_cases h0 : n = 0
  · subst h0
    have : xs = [] := List.length_eq_zero_iff.1 hn
    subst this
    rw [run_convert_runes_string w src dst e _ _ _ hs he hd]
    cases A with
    | none => rfl
    | some a => exact run_runesToString w a 0 c [] (by simp [run_loadCells w a 0 (fun _ => undef) (fun j hj => by omega)])
  · obtain ⟨ad, rfl, _⟩ := Kd.atI h (i := 0) (by omega) (by omega)
    have := run_convert_runes (P := P) w src dst e ad n c xs (by omega) hs he hd (fun j hj => by
      obtain ⟨ad', e1, hc⟩ := Kd.atI h (i := (j : Int)) (by omega) (by omega)
      injection e1 with e1
      subst e1
      have := hc 0 _ rfl
      simp only [Int.toNat_natCast, Nat.mul_one] at this
      rw [RX.add_add, Nat.add_zero] at this
      rw [this]; simp [rd])
    rwa [List.take_of_length_le (by omega)] at this

section
variable {P : Program} {N : Nat} {ops : Array Oper} {qs : QS} {rest : List Oper} {o : Oper} {l : Slots} {w : World}
theorem XL_val (hg : gd ops l o = some true) (hd : okD N o.dst = true) {v : Value} {w1 : World} (hr : ∀ a, Fr N l a → (execOp a.eval o).run P w = .ok (.value v) w1) (hn : XL P N ops rest qs (putS l o.dst v) w1) : XL P N ops (o :: rest) qs l w := by
  intro a ha
  refine wpList_step fun K hK => ?_
  rw [if_pos (gd_ok ha hg)]
  unfold Oper.wp
  rw [hr a ha]
  exact hK _ _ (hn _ (ha.putS hd v))
theorem XL_range {t : TypeId} {x : Operand} {s : ByteArray} (ho : o.op = .range t x) (hg : gd ops l o = some true) (hd : okD N o.dst = true) (ht : P.underlying t = some .string) (hv : evs l [x] = some [.string s])
    (hn : ∀ w1, Below w.heap.size w w1 → w1.heap[w.heap.size]? = some (.stringIter s 0) → XL P N ops rest qs (putS l o.dst (.pointer (some ⟨w.heap.size, 0, none⟩))) w1) : XL P N ops (o :: rest) qs l w := by
  refine XL_val hg hd (v := .pointer (some ⟨w.heap.size, 0, none⟩)) (w1 := w.iter s 0) (fun a ha => ?_) (hn _ ((Below.refl _ _).alloc (Nat.le_refl _) _) (World.iter_heap w s 0))
  have he := evs_ok ha _ _ hv
  simp only [List.map_cons, List.map_nil, List.cons.injEq, and_true] at he
  unfold execOp
  simp only [ho, he, Sem.run_bind, run_range_string w t s ht, Result.andThen_ok, Sem.run_pure]
theorem XL_next {x : Operand} {s : ByteArray} {g pos : Nat} (ho : o.op = .next x true) (hg : gd ops l o = some true) (hd : okD N o.dst = true) (hv : evs l [x] = some [.pointer (some ⟨g, 0, none⟩)]) (hk : w.heap[g]? = some (.stringIter s pos))
    (h1 : pos < s.size → ∀ w1, w.grownBy w1 (some g) → w1.heap[g]? = some (.stringIter s (pos + (Utf8.decode s pos).2)) → XL P N ops rest qs (putS l o.dst (.tuple #[.bool true, .int .i64 (pos : Int), .int .i32 ((Utf8.decode s pos).1 : Int)])) w1)
    (h2 : ¬ pos < s.size → XL P N ops rest qs (putS l o.dst (.tuple #[.bool false])) w) : XL P N ops (o :: rest) qs l w := by
  by_cases hp : pos < s.size
  · refine XL_val hg hd (w1 := w.iterAt g s (pos + (Utf8.decode s pos).2)) (fun a ha => ?_) (h1 hp _ ⟨rfl, rfl, rfl, by simp [World.iterAt], fun k hkl hne => ?_⟩ (Lib.iterAt_heap w g s pos _ hk))
    · have he := evs_ok ha _ _ hv
      simp only [List.map_cons, List.map_nil, List.cons.injEq, and_true] at he
      unfold execOp
      simp only [ho, he, Sem.run_bind, Lib.run_next_any_at w g s pos _ hk hp, Result.andThen_ok, Sem.run_pure]
    · simp only [World.iterAt]
      rw [Array.getElem?_setIfInBounds_ne]
      intro e; subst e; exact hne rfl
  · refine XL_val hg hd (w1 := w) (fun a ha => ?_) (h2 hp)
    have he := evs_ok ha _ _ hv
    simp only [List.map_cons, List.map_nil, List.cons.injEq, and_true] at he
    unfold execOp
    simp only [ho, he, Sem.run_bind, Lib.run_next_end_at w g s pos _ hk hp, Result.andThen_ok, Sem.run_pure]
end
end Go.Proofs.YtgphmfnkeolbcaaDoor.RX
/- make with room; pieces with their memory. No condition. -/
set_option linter.unusedVariables false
set_option linter.unusedSimpArgs false
namespace Go.Proofs.YtgphmfnkeolbcaaDoor.RX
open Go Go.RowKit Go.Proofs.YtgphmfnkeolbcaaDoorW.PrintWords
section
variable {P : Program} {N : Nat} {ops : Array Oper} {qs : QS} {rest : List Oper} {o : Oper} {l : Slots} {α : Type}
/-- make([]T, 0, m) -/
theorem XL_makeCap (d : Kd α) {w : World} {t : TypeId} {x y : Operand} (ho : o.op = .makeSlice t x y) (hg : gd ops l o = some true) (hd : okD N o.dst = true) (e : Nat) (z : Value) (bytes : Nat) (m : Int)
    (hv : evs l [x, y] = some [.int .i64 0, .int .i64 m]) (ht : P.underlying t = some (.slice e)) (hinfo : (P.info? e).map (fun i => (i.zero, i.size, i.bytes)) = some (some z, d.sz, bytes)) (hz : z.cells.size = d.sz) (hs0 : 0 < d.sz) (hb0 : 0 < bytes)
    (z0 : α) (hzero : d.M w w.heap.size (fun _ => False) z0 z.cells.toList) (h0 : 0 ≤ m) (hl : m.toNat * bytes ≤ 281474976710656)
    (hn : ∀ A c w1, d.R e w1 w.heap.size (OkFrom w.heap.size) (.slice A 0 c) [] → m.toNat ≤ c → Below w.heap.size w w1 → XL P N ops rest qs (putS l o.dst (.slice A 0 c)) w1) : XL P N ops (o :: rest) qs l w := by
  obtain ⟨m, rfl⟩ := Int.eq_ofNat_of_zero_le h0
  simp only [Int.toNat_natCast] at hl hn
  obtain ⟨i0, hi, hzz⟩ := Option.map_eq_some_iff.1 hinfo
  simp only [Prod.mk.injEq] at hzz
  obtain ⟨hz0, hz1, hz2⟩ := hzz
  have hm : m ≤ 281474976710656 := Nat.le_trans (Nat.le_mul_of_pos_right _ hb0) hl
  have hr := run_make (P := P) w t e i0 z ht hi hz0 .i64 .i64 0 (m : Int) (by omega) (by omega)
    (by
      have h3 : ((i0.bytes * m : Nat) : Int) ≤ 281474976710656 := by rw [hz2, Nat.mul_comm]; omega
      rwa [Int.natCast_mul] at h3) (by omega)
  simp only [Int.toNat_natCast, Int.toNat_zero] at hr
  rw [hz1] at hr
  obtain ⟨w1, hw, hb, hk, hs⟩ := new_world w (madeCells z.cells (m * d.sz)) e
  rw [hw] at hr
  have hR : d.R e w1 w.heap.size (OkFrom w.heap.size) (.slice (some ⟨w.heap.size, 0, none⟩) (List.replicate m z0).length (List.replicate m z0).length) (List.replicate m z0) :=
    Kd.R_litB d _ hk (Kd.reps_made hz hs0 (Kd.M_below hzero hb) m) (by rw [List.length_replicate]; omega)
  rw [List.length_replicate] at hR
  have hR0 := Kd.R_take hR (Nat.zero_le m)
  rw [List.take_zero] at hR0
  refine XL_val hg hd (fun a ha => ?_) (hn _ m w1 hR0 (Nat.le_refl _) hb)
  have he := evs_ok ha _ _ hv
  simp only [List.map_cons, List.map_nil, List.cons.injEq, and_true] at he
  simp [execOp, ho, he.1, he.2, hr]
end
end Go.Proofs.YtgphmfnkeolbcaaDoor.RX
namespace Go.Proofs.YtgphmfnkeolbcaaDoor
open Go Go.RowKit Go.Proofs.YtgphmfnkeolbcaaDoorW.PrintWords RX
theorem kPiece_insM {w : World} {base : Nat} {ok : Nat → Prop} {a : List At} {t : ByteArray} {n : Int} {cs : List Value} (h : kPiece.M w base ok (.ins a t n) cs) : ∃ A c, cs = [.iface 139 (.agg #[.slice A a.length c, .string t, .int .i64 n])] ∧ a.length ≤ c ∧ kAttr.R 93 w base ok (.slice A a.length c) a := by
  obtain ⟨_, ⟨_, _, rfl, ⟨v, rfl, hR⟩, _, _, rfl, rfl, rfl⟩, rfl⟩ := h
  obtain ⟨A, c, rfl, hl, _⟩ := Kd.R_reads hR
  exact ⟨A, c, rfl, hl, hR⟩
theorem kPiece_embM {w : World} {base : Nat} {ok : Nat → Prop} {a : List At} {k : ByteArray} {v : Int × Int × ByteArray} {cs : List Value} (h : kPiece.M w base ok (.emb a k v) cs) : ∃ A c, cs = [.iface 143 (.agg #[.slice A a.length c, .string k, valV v])] ∧ a.length ≤ c ∧ kAttr.R 93 w base ok (.slice A a.length c) a := by
  obtain ⟨_, ⟨_, _, rfl, ⟨v, rfl, hR⟩, _, _, rfl, rfl, rfl⟩, rfl⟩ := h
  obtain ⟨A, c, rfl, hl, _⟩ := Kd.R_reads hR
  exact ⟨A, c, rfl, hl, hR⟩
theorem kPiece_retM {w : World} {base : Nat} {ok : Nat → Prop} {a : List At} {n : Int} {cs : List Value} (h : kPiece.M w base ok (.ret a n) cs) : ∃ A c, cs = [.iface 101 (.agg #[.slice A a.length c, .int .i64 n])] ∧ a.length ≤ c ∧ kAttr.R 93 w base ok (.slice A a.length c) a := by
  obtain ⟨_, ⟨_, _, rfl, ⟨v, rfl, hR⟩, rfl⟩, rfl⟩ := h
  obtain ⟨A, c, rfl, hl, _⟩ := Kd.R_reads hR
  exact ⟨A, c, rfl, hl, hR⟩
end Go.Proofs.YtgphmfnkeolbcaaDoor
