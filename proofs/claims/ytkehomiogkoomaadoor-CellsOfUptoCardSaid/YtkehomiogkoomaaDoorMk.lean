import Derived.Test.YtkehomiogkoomaaDoorAt
import Derived.Laws.Strings
import Derived.Laws.Strings3
import Derived.Laws.DeepStrings4
import Derived.Laws.BytesArg
import Derived.Laws.Cover4
import Derived.Laws.IdiomStrings
import Derived.Lib.OthersKept
import Derived.Laws.RangeString
import Derived.Laws.Entries
import Derived.Laws.Concat
import Derived.Test.YtkehomiogkoomaaDoorRow
import Derived.Stop.Asserts
/- Strings: an index, a cut, conversions, going over one. No condition. -/
set_option linter.unusedVariables false
set_option linter.unusedSimpArgs false
namespace Go.Proofs.YtkehomiogkoomaaDoor.RX
open Go Go.RowKit Go.Proofs.YtkehomiogkoomaaDoorW.PrintWords

theorem wr_i32 {x : Int} (h1 : -2147483648 ≤ x) (h2 : x ≤ 2147483647) : Value.int .i32 (IntKind.i32.wrap x) = .int .i32 x := by rw [IntWalk.i32_in x ⟨h1, h2⟩]
theorem wr_u8 {x : Int} (h1 : 0 ≤ x) (h2 : x ≤ 255) : Value.int .u8 (IntKind.u8.wrap x) = .int .u8 x := by rw [IntWalk.u8_in x ⟨h1, h2⟩]
section
variable {P : Program} {l : Slots} {t ty : TypeId} {x lo hi y : Operand} {s : ByteArray} {k k' : IntKind} {w : World}
theorem runs_slice_slh {i j : Int} (ht : P.underlying t = some .string) (hx : ev l x = some (.string s)) (hl : ev l lo = some (.int k i)) (hh : ev l hi = some (.int k' j)) (h0 : 0 ≤ i) (h1 : i ≤ j) (h2 : j ≤ s.size) :
    RunsAs P l (.slice t x (some lo) (some hi) none) ty (.string (s.extract i.toNat j.toNat)) w := by
  intro o ho _
  have e1 : evD l x = .string s := by rw [evD, hx]; rfl
  have e2 : evD l hi = .int k' j := by rw [evD, hh]; rfl
  have e3 : evD l lo = .int k i := by rw [evD, hl]; rfl
  unfold execOp
  simp only [ho, e1, e2, e3, Option.map_none, Option.map_some, Sem.run_bind]
  rw [run_sliceAt_string _ _ _ _ _ _ ht, run_slice_string_if _ _ _ _ _ _ _ ht, if_pos ⟨by omega, h2⟩, if_pos ⟨h0, h1⟩]
  simp
theorem runs_index_s {i : Int} (ht : P.underlying t = some .string) (hx : ev l x = some (.string s)) (hy : ev l y = some (.int k i)) (h0 : 0 ≤ i) (h1 : i < s.size) :
    RunsAs P l (.index t x y) ty (.int .u8 ((s.data.toList.getD i.toNat 0).toNat : Int)) w := by
  refine runs_index hx hy ?_
  rw [run_index_string _ _ _ _ _ ht, dif_pos ⟨h0, h1⟩]
  have hlt : i.toNat < s.data.toList.length := by rw [Array.length_toList]; have : s.data.size = s.size := rfl; omega
  rw [List.getD_eq_getElem?_getD, List.getElem?_eq_getElem hlt]
  rfl
theorem runs_conv {src dst : TypeId} {v v' : Value} (hx : ev l x = some v) (h : (convert src dst v).run P w = .ok v' w) : RunsAs P l (.convert src dst x) ty v' w := by
  intro o ho _
  have e1 : evD l x = v := by rw [evD, hx]; rfl
  unfold execOp
  simp only [ho, e1, Sem.run_bind, Sem.run_pure, Result.andThen_ok, h]
end
theorem run_sadd {P : Program} {t : TypeId} {a b : ByteArray} {w : World} (h : a.size + b.size ≤ 9223372036854775807) : (binOp .add t (.string a) (.string b)).run P w = .ok (.string (a ++ b)) w := by rw [binOp_string_add]; exact run_string_add_sum w a b h
theorem add_plain (g j : Nat) : (⟨g, 0, none⟩ : Addr).add j = ⟨g, j, none⟩ := by unfold Addr.add; split <;> simp_all
/-- string(bs), bs any row of bytes -/
theorem conv_bytesC {P : Program} {w : World} {src dst e n c : Nat} {A : Option Addr} {base : Nat} {ok : Nat → Prop} (xs : List Int) (hs : P.underlying src = some (.slice e)) (he : P.underlying e = some (.int .u8)) (hd : P.underlying dst = some .string)
    (h : (Kd.int .u8).R e w base ok (.slice A n c) xs) : (convert src dst (.slice A n c)).run P w = .ok (.string (strOfNums xs)) w := by
  obtain ⟨hn, _⟩ := Kd.R_len h
  have hC := Kd.R_C h
  cases A with
  | none =>
    obtain ⟨_, _, _⟩ := hC
    obtain ⟨inner, ho⟩ := Kd.R_own h
    rcases ho.2 with ⟨he', h0⟩ | ⟨g, cap, cur, he', _⟩
    · injection he' with _ h1 h2
      subst h1; subst h2
      have : xs = [] := List.length_eq_zero_iff.1 hn.symm
      subst this
      rw [run_convert_bytes_nil w src e hs he 0 0 dst hd]; rfl
    · cases he'
  | some ad =>
    obtain ⟨inner, ho⟩ := Kd.R_own h
    rcases ho.2 with ⟨he', h0⟩ | ⟨g, cap, cur, he', _, hh, _⟩
    · cases he'
    · injection he' with h1 h2 h3
      injection h1 with h1
      subst h1
      refine run_convert_bytes_arg w src e hs he g 0 n c xs hn.symm (fun i hi => ?_) dst hd
      obtain ⟨ad', e1, hc⟩ := Kd.atI hC (i := (i : Int)) (by omega) (by omega)
      injection e1 with e1
      subst e1
      have := hc 0 _ rfl
      simp only [Int.toNat_natCast, Nat.mul_one] at this
      rw [add_plain] at this
      rw [Nat.zero_add]
      have e2 : (⟨g, i, none⟩ : Addr).add 0 = ⟨g, i, none⟩ := rfl
      rw [e2] at this
      rw [this]
      simp [rd]
/-- string(rs), rs any row of scalars -/
theorem conv_runesC {P : Program} {w : World} {src dst e n c : Nat} {A : Option Addr} (xs : List Int) (hs : P.underlying src = some (.slice e)) (he : P.underlying e = some (.int .i32)) (hd : P.underlying dst = some .string)
    (h : (Kd.int .i32).C w A n xs) : (convert src dst (.slice A n c)).run P w = .ok (.string (runesBytes xs)) w := by
  obtain ⟨hn, _, _⟩ := id h
  by_cases h0 : n = 0
  · subst h0
    have : xs = [] := List.length_eq_zero_iff.1 hn
    subst this
    rw [run_convert_runes_string w src dst e _ _ _ hs he hd]
    cases A with
    | none => rfl
    | some a => exact run_runesToString w a 0 c [] (by simp [run_loadCells w a 0 (fun _ => undef) (fun j hj => by omega)])
  · obtain ⟨ad, rfl, _⟩ := Kd.atI h (i := 0) (by omega) (by omega)
    have := run_convert_runes (P := P) w src dst e ad n c xs (by omega) hs he hd (fun j hj => by
      obtain ⟨ad', e1, hc⟩ := Kd.atI h (i := (j : Int)) (by omega) (by omega)
      injection e1 with e1
      subst e1
      have := hc 0 _ rfl
      simp only [Int.toNat_natCast, Nat.mul_one] at this
      rw [RX.add_add, Nat.add_zero] at this
      rw [this]; simp [rd])
    rwa [List.take_of_length_le (by omega)] at this

section
variable {P : Program} {N : Nat} {ops : Array Oper} {qs : QS} {rest : List Oper} {o : Oper} {l : Slots} {w : World}
theorem XL_val (hg : gd ops l o = some true) (hd : okD N o.dst = true) {v : Value} {w1 : World} (hr : ∀ a, Fr N l a → (execOp a.eval o).run P w = .ok (.value v) w1) (hn : XL P N ops rest qs (putS l o.dst v) w1) : XL P N ops (o :: rest) qs l w := by
  intro a ha
  refine wpList_step fun K hK => ?_
  rw [if_pos (gd_ok ha hg)]
  unfold Oper.wp
  rw [hr a ha]
  exact hK _ _ (hn _ (ha.putS hd v))
end
end Go.Proofs.YtkehomiogkoomaaDoor.RX
/- make with room; pieces with their memory. No condition. -/
set_option linter.unusedVariables false
set_option linter.unusedSimpArgs false
namespace Go.Proofs.YtkehomiogkoomaaDoor.RX
open Go Go.RowKit Go.Proofs.YtkehomiogkoomaaDoorW.PrintWords
section
variable {P : Program} {N : Nat} {ops : Array Oper} {qs : QS} {rest : List Oper} {o : Oper} {l : Slots} {α : Type}
/-- make([]T, 0, m) -/
theorem XL_makeCap (d : Kd α) {w : World} {t : TypeId} {x y : Operand} (ho : o.op = .makeSlice t x y) (hg : gd ops l o = some true) (hd : okD N o.dst = true) (e : Nat) (z : Value) (bytes : Nat) (m : Int)
    (hv : evs l [x, y] = some [.int .i64 0, .int .i64 m]) (ht : P.underlying t = some (.slice e)) (hinfo : (P.info? e).map (fun i => (i.zero, i.size, i.bytes)) = some (some z, d.sz, bytes)) (hz : z.cells.size = d.sz) (hs0 : 0 < d.sz) (hb0 : 0 < bytes)
    (z0 : α) (hzero : d.M w w.heap.size (fun _ => False) z0 z.cells.toList) (h0 : 0 ≤ m) (hl : m.toNat * bytes ≤ 281474976710656)
    (hn : ∀ A c w1, d.R e w1 w.heap.size (OkFrom w.heap.size) (.slice A 0 c) [] → m.toNat ≤ c → Below w.heap.size w w1 → XL P N ops rest qs (putS l o.dst (.slice A 0 c)) w1) : XL P N ops (o :: rest) qs l w := by
  obtain ⟨m, rfl⟩ := Int.eq_ofNat_of_zero_le h0
  simp only [Int.toNat_natCast] at hl hn
  obtain ⟨i0, hi, hzz⟩ := Option.map_eq_some_iff.1 hinfo
  simp only [Prod.mk.injEq] at hzz
  obtain ⟨hz0, hz1, hz2⟩ := hzz
  have hm : m ≤ 281474976710656 := Nat.le_trans (Nat.le_mul_of_pos_right _ hb0) hl
  have hr := run_make (P := P) w t e i0 z ht hi hz0 .i64 .i64 0 (m : Int) (by omega) (by omega)
    (by
      have h3 : ((i0.bytes * m : Nat) : Int) ≤ 281474976710656 := by rw [hz2, Nat.mul_comm]; omega
      rwa [Int.natCast_mul] at h3) (by omega)
  simp only [Int.toNat_natCast, Int.toNat_zero] at hr
  rw [hz1] at hr
  obtain ⟨w1, hw, hb, hk, hs⟩ := new_world w (madeCells z.cells (m * d.sz)) e
  rw [hw] at hr
  have hR : d.R e w1 w.heap.size (OkFrom w.heap.size) (.slice (some ⟨w.heap.size, 0, none⟩) (List.replicate m z0).length (List.replicate m z0).length) (List.replicate m z0) :=
    Kd.R_litB d _ hk (Kd.reps_made hz hs0 (Kd.M_below hzero hb) m) (by rw [List.length_replicate]; omega)
  rw [List.length_replicate] at hR
  have hR0 := Kd.R_take hR (Nat.zero_le m)
  rw [List.take_zero] at hR0
  refine XL_val hg hd (fun a ha => ?_) (hn _ m w1 hR0 (Nat.le_refl _) hb)
  have he := evs_ok ha _ _ hv
  simp only [List.map_cons, List.map_nil, List.cons.injEq, and_true] at he
  simp [execOp, ho, he.1, he.2, hr]
end
end Go.Proofs.YtkehomiogkoomaaDoor.RX
namespace Go.Proofs.YtkehomiogkoomaaDoor
open Go Go.RowKit Go.Proofs.YtkehomiogkoomaaDoorW.PrintWords RX
theorem kPiece_insM {w : World} {base : Nat} {ok : Nat → Prop} {a : List At} {t : ByteArray} {n : Int} {cs : List Value} (h : kPiece.M w base ok (.ins a t n) cs) : ∃ A c, cs = [.iface 95 (.agg #[.slice A a.length c, .string t, .int .i64 n])] ∧ a.length ≤ c ∧ kAttr.R 71 w base ok (.slice A a.length c) a := by
  obtain ⟨_, ⟨_, _, rfl, ⟨v, rfl, hR⟩, _, _, rfl, rfl, rfl⟩, rfl⟩ := h
  obtain ⟨A, c, rfl, hl, _⟩ := Kd.R_reads hR
  exact ⟨A, c, rfl, hl, hR⟩
theorem kPiece_embM {w : World} {base : Nat} {ok : Nat → Prop} {a : List At} {k : ByteArray} {v : Int × Int × ByteArray} {cs : List Value} (h : kPiece.M w base ok (.emb a k v) cs) : ∃ A c, cs = [.iface 97 (.agg #[.slice A a.length c, .string k, valV v])] ∧ a.length ≤ c ∧ kAttr.R 71 w base ok (.slice A a.length c) a := by
  obtain ⟨_, ⟨_, _, rfl, ⟨v, rfl, hR⟩, _, _, rfl, rfl, rfl⟩, rfl⟩ := h
  obtain ⟨A, c, rfl, hl, _⟩ := Kd.R_reads hR
  exact ⟨A, c, rfl, hl, hR⟩
theorem kPiece_retM {w : World} {base : Nat} {ok : Nat → Prop} {a : List At} {n : Int} {cs : List Value} (h : kPiece.M w base ok (.ret a n) cs) : ∃ A c, cs = [.iface 100 (.agg #[.slice A a.length c, .int .i64 n])] ∧ a.length ≤ c ∧ kAttr.R 71 w base ok (.slice A a.length c) a := by
  obtain ⟨_, ⟨_, _, rfl, ⟨v, rfl, hR⟩, rfl⟩, rfl⟩ := h
  obtain ⟨A, c, rfl, hl, _⟩ := Kd.R_reads hR
  exact ⟨A, c, rfl, hl, hR⟩
end Go.Proofs.YtkehomiogkoomaaDoor
