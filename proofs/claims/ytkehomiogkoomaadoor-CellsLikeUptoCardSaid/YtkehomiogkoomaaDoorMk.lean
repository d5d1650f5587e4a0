/- make with room; pieces with their memory. No condition. -/
import Derived.Test.YtkehomiogkoomaaDoorRow
import Derived.Test.YtkehomiogkoomaaDoorStr
import Derived.Stop.Asserts
set_option linter.unusedVariables false
set_option linter.unusedSimpArgs false
namespace Go.Proofs.YtkehomiogkoomaaDoor.RX
open Go Go.RowKit Go.Proofs.YtkehomiogkoomaaDoorW.PrintWords
section
variable {P : Program} {N : Nat} {ops : Array Oper} {qs : QS} {rest : List Oper} {o : Oper} {l : Slots} {α : Type}
/-- make([]T, 0, m) -/
theorem XL_makeCap (d : Kd α) {w : World} {t : TypeId} {x y : Operand} (ho : o.op = .makeSlice t x y) (hg : gd ops l o = some true) (hd : okD N o.dst = true) (e : Nat) (z : Value) (bytes : Nat) (m : Int)
    (hv : evs l [x, y] = some [.int .i64 0, .int .i64 m]) (ht : P.underlying t = some (.slice e)) (hinfo : (P.info? e).map (fun i => (i.zero, i.size, i.bytes)) = some (some z, d.sz, bytes)) (hz : z.cells.size = d.sz) (hs0 : 0 < d.sz) (hb0 : 0 < bytes)
    (z0 : α) (hzero : d.M w w.heap.size (fun _ => False) z0 z.cells.toList) (h0 : 0 ≤ m) (hl : m.toNat * bytes ≤ 281474976710656)
    (hn : ∀ A c w1, d.R e w1 w.heap.size (OkFrom w.heap.size) (.slice A 0 c) [] → m.toNat ≤ c → Below w.heap.size w w1 → XL P N ops rest qs (putS l o.dst (.slice A 0 c)) w1) : XL P N ops (o :: rest) qs l w := by
  obtain ⟨m, rfl⟩ := Int.eq_ofNat_of_zero_le h0
  simp only [Int.toNat_natCast] at hl hn
  obtain ⟨i0, hi, hzz⟩ := Option.map_eq_some_iff.1 hinfo
  simp only [Prod.mk.injEq] at hzz
  obtain ⟨hz0, hz1, hz2⟩ := hzz
  have hm : m ≤ 281474976710656 := Nat.le_trans (Nat.le_mul_of_pos_right _ hb0) hl
  have hr := run_make (P := P) w t e i0 z ht hi hz0 .i64 .i64 0 (m : Int) (by omega) (by omega)
    (by
      have h3 : ((i0.bytes * m : Nat) : Int) ≤ 281474976710656 := by rw [hz2, Nat.mul_comm]; omega
      rwa [Int.natCast_mul] at h3) (by omega)
  simp only [Int.toNat_natCast, Int.toNat_zero] at hr
  rw [hz1] at hr
  obtain ⟨w1, hw, hb, hk, hs⟩ := new_world w (madeCells z.cells (m * d.sz)) e
  rw [hw] at hr
  have hR : d.R e w1 w.heap.size (OkFrom w.heap.size) (.slice (some ⟨w.heap.size, 0, none⟩) (List.replicate m z0).length (List.replicate m z0).length) (List.replicate m z0) :=
    Kd.R_litB d _ hk (Kd.reps_made hz hs0 (Kd.M_below hzero hb) m) (by rw [List.length_replicate]; omega)
  rw [List.length_replicate] at hR
  have hR0 := Kd.R_take hR (Nat.zero_le m)
  rw [List.take_zero] at hR0
  refine XL_val hg hd (fun a ha => ?_) (hn _ m w1 hR0 (Nat.le_refl _) hb)
  have he := evs_ok ha _ _ hv
  simp only [List.map_cons, List.map_nil, List.cons.injEq, and_true] at he
  simp [execOp, ho, he.1, he.2, hr]
end
end Go.Proofs.YtkehomiogkoomaaDoor.RX
namespace Go.Proofs.YtkehomiogkoomaaDoor
open Go Go.RowKit Go.Proofs.YtkehomiogkoomaaDoorW.PrintWords RX
theorem kPiece_insM {w : World} {base : Nat} {ok : Nat → Prop} {a : List At} {t : ByteArray} {n : Int} {cs : List Value} (h : kPiece.M w base ok (.ins a t n) cs) : ∃ A c, cs = [.iface 95 (.agg #[.slice A a.length c, .string t, .int .i64 n])] ∧ a.length ≤ c ∧ kAttr.R 71 w base ok (.slice A a.length c) a := by
  obtain ⟨_, ⟨_, _, rfl, ⟨v, rfl, hR⟩, _, _, rfl, rfl, rfl⟩, rfl⟩ := h
  obtain ⟨A, c, rfl, hl, _⟩ := Kd.R_reads hR
  exact ⟨A, c, rfl, hl, hR⟩
theorem kPiece_embM {w : World} {base : Nat} {ok : Nat → Prop} {a : List At} {k : ByteArray} {v : Int × Int × ByteArray} {cs : List Value} (h : kPiece.M w base ok (.emb a k v) cs) : ∃ A c, cs = [.iface 97 (.agg #[.slice A a.length c, .string k, valV v])] ∧ a.length ≤ c ∧ kAttr.R 71 w base ok (.slice A a.length c) a := by
  obtain ⟨_, ⟨_, _, rfl, ⟨v, rfl, hR⟩, _, _, rfl, rfl, rfl⟩, rfl⟩ := h
  obtain ⟨A, c, rfl, hl, _⟩ := Kd.R_reads hR
  exact ⟨A, c, rfl, hl, hR⟩
theorem kPiece_retM {w : World} {base : Nat} {ok : Nat → Prop} {a : List At} {n : Int} {cs : List Value} (h : kPiece.M w base ok (.ret a n) cs) : ∃ A c, cs = [.iface 100 (.agg #[.slice A a.length c, .int .i64 n])] ∧ a.length ≤ c ∧ kAttr.R 71 w base ok (.slice A a.length c) a := by
  obtain ⟨_, ⟨_, _, rfl, ⟨v, rfl, hR⟩, rfl⟩, rfl⟩ := h
  obtain ⟨A, c, rfl, hl, _⟩ := Kd.R_reads hR
  exact ⟨A, c, rfl, hl, hR⟩
end Go.Proofs.YtkehomiogkoomaaDoor
