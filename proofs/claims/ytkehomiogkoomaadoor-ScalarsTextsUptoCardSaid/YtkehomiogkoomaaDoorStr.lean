/- Strings: an index, a cut, conversions, going over one. No condition. -/
import Derived.Test.YtkehomiogkoomaaDoorKd
import Derived.Laws.Strings
import Derived.Laws.Strings3
import Derived.Laws.DeepStrings4
import Derived.Laws.BytesArg
import Derived.Laws.Cover4
import Derived.Laws.IdiomStrings
import Derived.Lib.OthersKept
import Derived.Laws.RangeString
import Derived.Laws.Entries
import Derived.Laws.Concat
set_option linter.unusedVariables false
set_option linter.unusedSimpArgs false
namespace Go.Proofs.YtkehomiogkoomaaDoor.RX
open Go Go.RowKit Go.Proofs.YtkehomiogkoomaaDoorW.PrintWords

theorem wr_i32 {x : Int} (h1 : -2147483648 ≤ x) (h2 : x ≤ 2147483647) : Value.int .i32 (IntKind.i32.wrap x) = .int .i32 x := by rw [IntWalk.i32_in x ⟨h1, h2⟩]
theorem wr_u8 {x : Int} (h1 : 0 ≤ x) (h2 : x ≤ 255) : Value.int .u8 (IntKind.u8.wrap x) = .int .u8 x := by rw [IntWalk.u8_in x ⟨h1, h2⟩]
theorem wr_u16 {x : Int} (h1 : 0 ≤ x) (h2 : x ≤ 65535) : Value.int .u16 (IntKind.u16.wrap x) = .int .u16 x := by rw [IntWalk.u16_in x ⟨h1, h2⟩]
theorem wr_u32 {x : Int} (h1 : 0 ≤ x) (h2 : x ≤ 4294967295) : Value.int .u32 (IntKind.u32.wrap x) = .int .u32 x := by rw [IntWalk.u32_in x ⟨h1, h2⟩]
theorem wr_u64 {x : Int} (h1 : 0 ≤ x) (h2 : x ≤ 18446744073709551615) : Value.int .u64 (IntKind.u64.wrap x) = .int .u64 x := by rw [IntWalk.u64_in x ⟨h1, h2⟩]

section
variable {P : Program} {l : Slots} {t ty : TypeId} {x lo hi y : Operand} {s : ByteArray} {k k' : IntKind} {w : World}
theorem runs_slice_sh {h : Int} (ht : P.underlying t = some .string) (hx : ev l x = some (.string s)) (hh : ev l hi = some (.int k h)) (h0 : 0 ≤ h) (h1 : h ≤ s.size) :
    RunsAs P l (.slice t x none (some hi) none) ty (.string (s.extract 0 h.toNat)) w := by
  intro o ho _
  have e1 : evD l x = .string s := by rw [evD, hx]; rfl
  have e2 : evD l hi = .int k h := by rw [evD, hh]; rfl
  unfold execOp
  simp only [ho, e1, e2, Option.map_none, Option.map_some, Sem.run_bind]
  rw [run_sliceAt_string _ _ _ _ _ _ ht, run_slice_string_to_if _ _ _ _ _ ht, if_pos ⟨h0, h1⟩]
  simp
theorem runs_slice_slh {i j : Int} (ht : P.underlying t = some .string) (hx : ev l x = some (.string s)) (hl : ev l lo = some (.int k i)) (hh : ev l hi = some (.int k' j)) (h0 : 0 ≤ i) (h1 : i ≤ j) (h2 : j ≤ s.size) :
    RunsAs P l (.slice t x (some lo) (some hi) none) ty (.string (s.extract i.toNat j.toNat)) w := by
  intro o ho _
  have e1 : evD l x = .string s := by rw [evD, hx]; rfl
  have e2 : evD l hi = .int k' j := by rw [evD, hh]; rfl
  have e3 : evD l lo = .int k i := by rw [evD, hl]; rfl
  unfold execOp
  simp only [ho, e1, e2, e3, Option.map_none, Option.map_some, Sem.run_bind]
  rw [run_sliceAt_string _ _ _ _ _ _ ht, run_slice_string_if _ _ _ _ _ _ _ ht, if_pos ⟨by omega, h2⟩, if_pos ⟨h0, h1⟩]
  simp
theorem runs_index_s {i : Int} (ht : P.underlying t = some .string) (hx : ev l x = some (.string s)) (hy : ev l y = some (.int k i)) (h0 : 0 ≤ i) (h1 : i < s.size) :
    RunsAs P l (.index t x y) ty (.int .u8 ((s.data.toList.getD i.toNat 0).toNat : Int)) w := by
  refine runs_index hx hy ?_
  rw [run_index_string _ _ _ _ _ ht, dif_pos ⟨h0, h1⟩]
  have hlt : i.toNat < s.data.toList.length := by rw [Array.length_toList]; have : s.data.size = s.size := rfl; omega
  rw [List.getD_eq_getElem?_getD, List.getElem?_eq_getElem hlt]
  rfl
theorem runs_conv {src dst : TypeId} {v v' : Value} (hx : ev l x = some v) (h : (convert src dst v).run P w = .ok v' w) : RunsAs P l (.convert src dst x) ty v' w := by
  intro o ho _
  have e1 : evD l x = v := by rw [evD, hx]; rfl
  unfold execOp
  simp only [ho, e1, Sem.run_bind, Sem.run_pure, Result.andThen_ok, h]
end
theorem run_sadd {P : Program} {t : TypeId} {a b : ByteArray} {w : World} (h : a.size + b.size ≤ 9223372036854775807) : (binOp .add t (.string a) (.string b)).run P w = .ok (.string (a ++ b)) w := by rw [binOp_string_add]; exact run_string_add_sum w a b h
theorem add_plain (g j : Nat) : (⟨g, 0, none⟩ : Addr).add j = ⟨g, j, none⟩ := by unfold Addr.add; split <;> simp_all
/-- string(bs), bs a literal row of bytes -/
theorem conv_bytes {P : Program} {w : World} {src dst e g n c : Nat} (xs : List Int) (hs : P.underlying src = some (.slice e)) (he : P.underlying e = some (.int .u8)) (hd : P.underlying dst = some .string) (hn : xs.length = n)
    (h : Blk w g e (xs.map (Value.int .u8)).toArray) : (convert src dst (.slice (some ⟨g, 0, none⟩) n c)).run P w = .ok (.string (strOfNums xs)) w := by
  refine run_convert_bytes_arg w src e hs he g 0 n c xs hn (fun i hi => ?_) dst hd
  rw [Nat.zero_add]
  refine h.cell i _ ?_
  have : i < xs.length := by omega
  simp [List.getD_eq_getElem?_getD, List.getElem?_eq_getElem this]
/-- string(bs), bs any row of bytes -/
theorem conv_bytesC {P : Program} {w : World} {src dst e n c : Nat} {A : Option Addr} {base : Nat} {ok : Nat → Prop} (xs : List Int) (hs : P.underlying src = some (.slice e)) (he : P.underlying e = some (.int .u8)) (hd : P.underlying dst = some .string)
    (h : (Kd.int .u8).R e w base ok (.slice A n c) xs) : (convert src dst (.slice A n c)).run P w = .ok (.string (strOfNums xs)) w := by
  obtain ⟨hn, _⟩ := Kd.R_len h
  have hC := Kd.R_C h
  cases A with
  | none =>
    obtain ⟨_, _, _⟩ := hC
    obtain ⟨inner, ho⟩ := Kd.R_own h
    rcases ho.2 with ⟨he', h0⟩ | ⟨g, cap, cur, he', _⟩
    · injection he' with _ h1 h2
      subst h1; subst h2
      have : xs = [] := List.length_eq_zero_iff.1 hn.symm
      subst this
      rw [run_convert_bytes_nil w src e hs he 0 0 dst hd]; rfl
    · cases he'
  | some ad =>
    obtain ⟨inner, ho⟩ := Kd.R_own h
    rcases ho.2 with ⟨he', h0⟩ | ⟨g, cap, cur, he', _, hh, _⟩
    · cases he'
    · injection he' with h1 h2 h3
      injection h1 with h1
      subst h1
      refine run_convert_bytes_arg w src e hs he g 0 n c xs hn.symm (fun i hi => ?_) dst hd
      obtain ⟨ad', e1, hc⟩ := Kd.atI hC (i := (i : Int)) (by omega) (by omega)
      injection e1 with e1
      subst e1
      have := hc 0 _ rfl
      simp only [Int.toNat_natCast, Nat.mul_one] at this
      rw [add_plain] at this
      rw [Nat.zero_add]
      have e2 : (⟨g, i, none⟩ : Addr).add 0 = ⟨g, i, none⟩ := rfl
      rw [e2] at this
      rw [this]
      simp [rd]
/-- string(rs), rs any row of scalars -/
theorem conv_runesC {P : Program} {w : World} {src dst e n c : Nat} {A : Option Addr} (xs : List Int) (hs : P.underlying src = some (.slice e)) (he : P.underlying e = some (.int .i32)) (hd : P.underlying dst = some .string)
    (h : (Kd.int .i32).C w A n xs) : (convert src dst (.slice A n c)).run P w = .ok (.string (runesBytes xs)) w := by
  obtain ⟨hn, _, _⟩ := id h
  by_cases h0 : n = 0
  · subst h0
    have : xs = [] := List.length_eq_zero_iff.1 hn
    subst this
    rw [run_convert_runes_string w src dst e _ _ _ hs he hd]
    cases A with
    | none => rfl
    | some a => exact run_runesToString w a 0 c [] (by simp [run_loadCells w a 0 (fun _ => undef) (fun j hj => by omega)])
  · obtain ⟨ad, rfl, _⟩ := Kd.atI h (i := 0) (by omega) (by omega)
    have := run_convert_runes (P := P) w src dst e ad n c xs (by omega) hs he hd (fun j hj => by
      obtain ⟨ad', e1, hc⟩ := Kd.atI h (i := (j : Int)) (by omega) (by omega)
      injection e1 with e1
      subst e1
      have := hc 0 _ rfl
      simp only [Int.toNat_natCast, Nat.mul_one] at this
      rw [RX.add_add, Nat.add_zero] at this
      rw [this]; simp [rd])
    rwa [List.take_of_length_le (by omega)] at this

section
variable {P : Program} {N : Nat} {ops : Array Oper} {qs : QS} {rest : List Oper} {o : Oper} {l : Slots} {w : World}
theorem XL_val (hg : gd ops l o = some true) (hd : okD N o.dst = true) {v : Value} {w1 : World} (hr : ∀ a, Fr N l a → (execOp a.eval o).run P w = .ok (.value v) w1) (hn : XL P N ops rest qs (putS l o.dst v) w1) : XL P N ops (o :: rest) qs l w := by
  intro a ha
  refine wpList_step fun K hK => ?_
  rw [if_pos (gd_ok ha hg)]
  unfold Oper.wp
  rw [hr a ha]
  exact hK _ _ (hn _ (ha.putS hd v))
theorem XL_range {t : TypeId} {x : Operand} {s : ByteArray} (ho : o.op = .range t x) (hg : gd ops l o = some true) (hd : okD N o.dst = true) (ht : P.underlying t = some .string) (hv : evs l [x] = some [.string s])
    (hn : ∀ w1, Below w.heap.size w w1 → w1.heap[w.heap.size]? = some (.stringIter s 0) → XL P N ops rest qs (putS l o.dst (.pointer (some ⟨w.heap.size, 0, none⟩))) w1) : XL P N ops (o :: rest) qs l w := by
  refine XL_val hg hd (v := .pointer (some ⟨w.heap.size, 0, none⟩)) (w1 := w.iter s 0) (fun a ha => ?_) (hn _ ((Below.refl _ _).alloc (Nat.le_refl _) _) (World.iter_heap w s 0))
  have he := evs_ok ha _ _ hv
  simp only [List.map_cons, List.map_nil, List.cons.injEq, and_true] at he
  unfold execOp
  simp only [ho, he, Sem.run_bind, run_range_string w t s ht, Result.andThen_ok, Sem.run_pure]
theorem XL_next {x : Operand} {s : ByteArray} {g pos : Nat} (ho : o.op = .next x true) (hg : gd ops l o = some true) (hd : okD N o.dst = true) (hv : evs l [x] = some [.pointer (some ⟨g, 0, none⟩)]) (hk : w.heap[g]? = some (.stringIter s pos))
    (h1 : pos < s.size → ∀ w1, w.grownBy w1 (some g) → w1.heap[g]? = some (.stringIter s (pos + (Utf8.decode s pos).2)) → XL P N ops rest qs (putS l o.dst (.tuple #[.bool true, .int .i64 (pos : Int), .int .i32 ((Utf8.decode s pos).1 : Int)])) w1)
    (h2 : ¬ pos < s.size → XL P N ops rest qs (putS l o.dst (.tuple #[.bool false])) w) : XL P N ops (o :: rest) qs l w := by
  by_cases hp : pos < s.size
  · refine XL_val hg hd (w1 := w.iterAt g s (pos + (Utf8.decode s pos).2)) (fun a ha => ?_) (h1 hp _ ⟨rfl, rfl, rfl, by simp [World.iterAt], fun k hkl hne => ?_⟩ (Lib.iterAt_heap w g s pos _ hk))
    · have he := evs_ok ha _ _ hv
      simp only [List.map_cons, List.map_nil, List.cons.injEq, and_true] at he
      unfold execOp
      simp only [ho, he, Sem.run_bind, Lib.run_next_any_at w g s pos _ hk hp, Result.andThen_ok, Sem.run_pure]
    · simp only [World.iterAt]
      rw [Array.getElem?_setIfInBounds_ne]
      intro e; subst e; exact hne rfl
  · refine XL_val hg hd (w1 := w) (fun a ha => ?_) (h2 hp)
    have he := evs_ok ha _ _ hv
    simp only [List.map_cons, List.map_nil, List.cons.injEq, and_true] at he
    unfold execOp
    simp only [ho, he, Sem.run_bind, Lib.run_next_end_at w g s pos _ hk hp, Result.andThen_ok, Sem.run_pure]
/-- []rune(s) -/
theorem XL_runes {src dst e : TypeId} {x : Operand} {s : ByteArray} (rs : List Int) (ho : o.op = .convert src dst x) (hg : gd ops l o = some true) (hd : okD N o.dst = true) (hs : P.underlying src = some .string) (hdt : P.underlying dst = some (.slice e)) (he : P.underlying e = some (.int .i32))
    (hv : evs l [x] = some [.string s]) (hrs : Conv.runesFrom s s.size 0 #[] = (rs.map (Value.int .i32)).toArray) (h46 : rs.length ≤ 1073741824)
    (hn : ∀ c w1, (Kd.int .i32).R e w1 w.heap.size (OkFrom w.heap.size) (.slice (some ⟨w.heap.size, 0, none⟩) rs.length c) rs → rs.length ≤ c → Below w.heap.size w w1 → XL P N ops rest qs (putS l o.dst (.slice (some ⟨w.heap.size, 0, none⟩) rs.length c)) w1) : XL P N ops (o :: rest) qs l w := by
  have hsz : (Conv.runesFrom s s.size 0 #[]).size = rs.length := by rw [hrs]; simp
  have hrun := run_runes_of_string (P := P) w src dst e s hs hdt he (by omega)
  rw [hsz] at hrun
  have hge := grownCap_ge w rs.length 0 e
  have hle : grownCap w rs.length 0 e ≤ maxLen := grownCap_le_maxLen w rs.length 0 e (by simp only [maxLen]; omega)
  refine XL_val hg hd (w1 := w.drew.alloc (.cells (Conv.runesFrom s s.size 0 #[] ++ Array.replicate (grownCap w rs.length 0 e - rs.length) (.int .i32 0)) e)) (fun a ha => ?_) (hn (grownCap w rs.length 0 e) _ ?_ hge ?_)
  · have hx := evs_ok ha _ _ hv
    simp only [List.map_cons, List.map_nil, List.cons.injEq, and_true] at hx
    unfold execOp
    simp only [ho, hx, Sem.run_bind, hrun, Result.andThen_ok, Sem.run_pure]
  · refine ⟨fun k hk => ?_, rs.map (Value.int .i32), ⟨(by show (rs.map (Value.int .i32)).length = rs.length * 1; simp), .inr ⟨w.heap.size, _, (Conv.runesFrom s s.size 0 #[] ++ Array.replicate (grownCap w rs.length 0 e - rs.length) (.int .i32 0)), rfl, Nat.le_refl _, ?_, hge, hle, ?_, ?_⟩⟩, ?_⟩
    · simp only [Value.ownBlock, Option.some.injEq] at hk
      subst hk
      exact Nat.le_refl _
    · exact heap_alloc_new w.drew _
    · rw [hrs]; simp only [Array.size_append, List.size_toArray, List.length_map, Array.size_replicate]; show _ = grownCap w rs.length 0 e * 1; omega
    · rw [hrs]; show List.take (rs.length * 1) _ = _; simp
    · have := repsInt (w := w.drew.alloc (.cells (Conv.runesFrom s s.size 0 #[] ++ Array.replicate (grownCap w rs.length 0 e - rs.length) (.int .i32 0)) e)) (base := w.heap.size) (ok := fun k => OkFrom w.heap.size k ∧ some k ≠ (Value.slice (some ⟨w.heap.size, 0, none⟩) rs.length (grownCap w rs.length 0 e)).ownBlock) (k := .i32) rs
      rwa [show rs.flatMap (fun x => [Value.int .i32 x]) = rs.map (Value.int .i32) from by clear hn hrun hsz hrs h46 hge hle this; induction rs with | nil => rfl | cons x r ih => simp [ih]] at this
  · exact (Below.refl _ _).drew.alloc (Nat.le_refl _) _
end
end Go.Proofs.YtkehomiogkoomaaDoor.RX
