/- Slices that are written over and appended to, again and again: what lies in them is not told, only where they lie. No condition. -/
import Derived.Test.YtkehomiogkoomaaDoorHand
import Derived.Laws.AppendOwn
set_option linter.unusedVariables false
set_option linter.unusedSimpArgs false
set_option maxRecDepth 100000
namespace Go.Proofs.YtkehomiogkoomaaDoor.RX
open Go Go.RowKit Go.Proofs.YtkehomiogkoomaaDoorW.PrintWords
/-- a slice over a whole block of which 'ok' speaks -/
def LiesO (e sz : Nat) (ok : Nat → Prop) (w : World) (B : Option Addr) (m c : Nat) : Prop :=
  m ≤ c ∧ c ≤ 9223372036854775807 ∧ ((B = none ∧ c = 0) ∨ ∃ g cs, B = some ⟨g, 0, none⟩ ∧ ok g ∧ RX.Blk w g e cs ∧ cs.size = c * sz)
/-- a block of type e that 'ok' speaks of has been written, its size kept, and new ones made -/
def WroteO (e : Nat) (ok : Nat → Prop) (w w1 : World) : Prop := ∃ r, w.grownBy w1 r ∧ ∀ g, r = some g → ok g ∧ ∃ cs cs', RX.Blk w g e cs ∧ RX.Blk w1 g e cs' ∧ cs'.size = cs.size
/-- only blocks of these types that 'ok' speaks of have been written, their sizes kept -/
structure SpoilO (es ok : Nat → Prop) (w w' : World) : Prop where
  os : w'.os = w.os
  tape : w'.tape = w.tape
  output : w'.output = w.output
  size : w.heap.size ≤ w'.heap.size
  k : ∀ g, g < w.heap.size → w'.heap[g]? = w.heap[g]? ∨ (ok g ∧ ∃ e cs cs', es e ∧ RX.Blk w g e cs ∧ RX.Blk w' g e cs' ∧ cs'.size = cs.size)
theorem SpoilO.refl (es ok : Nat → Prop) (w : World) : SpoilO es ok w w := ⟨rfl, rfl, rfl, Nat.le_refl _, fun _ _ => .inl rfl⟩
theorem SpoilO.of_wrote {es ok : Nat → Prop} {e : Nat} {w w1 : World} (h : WroteO e ok w w1) (he : es e) : SpoilO es ok w w1 := by
  obtain ⟨r, hg, hr⟩ := h
  refine ⟨hg.os, hg.tape, hg.output, hg.size, fun g hlt => ?_⟩
  by_cases e1 : some g = r
  · obtain ⟨h1, cs, cs', h2, h3, h4⟩ := hr g e1.symm
    exact .inr ⟨h1, e, cs, cs', he, h2, h3, h4⟩
  · exact .inl (hg.block g hlt e1)
theorem SpoilO.trans {es ok : Nat → Prop} {a b c : World} (h : SpoilO es ok a b) (k : SpoilO es ok b c) : SpoilO es ok a c := by
  refine ⟨k.os.trans h.os, k.tape.trans h.tape, k.output.trans h.output, Nat.le_trans h.size k.size, fun g hg => ?_⟩
  rcases h.k g hg with h1 | ⟨h1, e, cs, cs', he, h2, h3, h4⟩
  · rcases k.k g (Nat.lt_of_lt_of_le hg h.size) with k1 | ⟨k1, e, cs, cs', he, k2, k3, k4⟩
    · exact .inl (k1.trans h1)
    · exact .inr ⟨k1, e, cs, cs', he, h1.symm.trans k2, k3, k4⟩
  · rcases k.k g (Nat.lt_of_lt_of_le hg h.size) with k1 | ⟨k1, e2, cs2, cs3, he2, k2, k3, k4⟩
    · exact .inr ⟨h1, e, cs, cs', he, h2, k1.trans h3, h4⟩
    · have e0 : some (Obj.cells cs' e (0, 0)) = some (Obj.cells cs2 e2 (0, 0)) := (show b.heap[g]? = _ from h3).symm.trans k2
      injection e0 with e0
      injection e0 with e1 e3
      subst e1; subst e3
      exact .inr ⟨h1, e, cs, cs3, he, h2, k3, k4.trans h4⟩
theorem SpoilO.imp {es ok es' ok' : Nat → Prop} {w w1 : World} (h : SpoilO es ok w w1) (h1 : ∀ e, es e → es' e) (h2 : ∀ g, g < w.heap.size → ok g → ok' g) : SpoilO es' ok' w w1 :=
  ⟨h.os, h.tape, h.output, h.size, fun g hg => (h.k g hg).imp_right fun ⟨a, e, cs, cs', he, r⟩ => ⟨h2 g hg a, e, cs, cs', h1 e he, r⟩⟩
/-- a block keeps its type and its size -/
theorem SpoilO.blk {es ok : Nat → Prop} {w w1 : World} (h : SpoilO es ok w w1) {g t : Nat} {cs : Array Value} (hb : RX.Blk w g t cs) : ∃ cs', RX.Blk w1 g t cs' ∧ cs'.size = cs.size := by
  rcases h.k g (Blk.lt hb) with h1 | ⟨_, e, cs1, cs', _, h2, h3, h4⟩
  · exact ⟨cs, h1.trans hb, rfl⟩
  · have e0 : some (Obj.cells cs1 e (0, 0)) = some (Obj.cells cs t (0, 0)) := (show w.heap[g]? = _ from h2).symm.trans hb
    injection e0 with e0
    injection e0 with e1 e3
    subst e1; subst e3
    exact ⟨cs', h3, h4⟩
/-- a block of another type is unchanged -/
theorem SpoilO.other {es ok : Nat → Prop} {w w1 : World} (h : SpoilO es ok w w1) {g t : Nat} {cs : Array Value} (hb : RX.Blk w g t cs) (ht : ¬ es t) : RX.Blk w1 g t cs := by
  rcases h.k g (Blk.lt hb) with h1 | ⟨_, e, cs1, cs', he, h2, h3, h4⟩
  · exact h1.trans hb
  · have e0 : some (Obj.cells cs1 e (0, 0)) = some (Obj.cells cs t (0, 0)) := (show w.heap[g]? = _ from h2).symm.trans hb
    injection e0 with e0
    injection e0 with _ e3
    subst e3
    exact absurd he ht
theorem LiesO.below {e sz : Nat} {ok : Nat → Prop} {w w1 : World} {B : Option Addr} {m c : Nat} (hb : Below w.heap.size w w1) (h : LiesO e sz ok w B m c) : LiesO e sz ok w1 B m c := by
  obtain ⟨h1, h2, h⟩ := h
  refine ⟨h1, h2, ?_⟩
  rcases h with h | ⟨g, cs, h, h3, h4, h5⟩
  · exact .inl h
  · exact .inr ⟨g, cs, h, h3, Blk.below h4 hb, h5⟩
theorem LiesO.imp {e sz : Nat} {ok ok' : Nat → Prop} {w : World} {B : Option Addr} {m c : Nat} (h : LiesO e sz ok w B m c) (hi : ∀ g, ok g → ok' g) : LiesO e sz ok' w B m c := by
  obtain ⟨h1, h2, h⟩ := h
  refine ⟨h1, h2, ?_⟩
  rcases h with h | ⟨g, cs, h, h3, h4, h5⟩
  · exact .inl h
  · exact .inr ⟨g, cs, h, hi g h3, h4, h5⟩
theorem LiesO.less {e sz : Nat} {ok : Nat → Prop} {w : World} {B : Option Addr} {m m' c : Nat} (h : LiesO e sz ok w B m c) (hm : m' ≤ m) : LiesO e sz ok w B m' c := ⟨Nat.le_trans hm h.1, h.2⟩
theorem LiesO.spoil {e sz : Nat} {ok es ok' : Nat → Prop} {w w1 : World} {B : Option Addr} {m c : Nat} (h : LiesO e sz ok w B m c) (hs : SpoilO es ok' w w1) : LiesO e sz ok w1 B m c := by
  obtain ⟨h1, h2, h⟩ := h
  refine ⟨h1, h2, ?_⟩
  rcases h with h | ⟨g, cs, h, h3, h4, h5⟩
  · exact .inl h
  · obtain ⟨cs', h6, h7⟩ := hs.blk h4
    exact .inr ⟨g, cs', h, h3, h6, h7.trans h5⟩
theorem LiesO.of_R {α : Type} {d : Kd α} {e : Nat} {w : World} {base : Nat} {ok ok' : Nat → Prop} {B : Option Addr} {m c : Nat} {xs : List α} (h : d.R e w base ok (.slice B m c) xs) (hok : ∀ k, base ≤ k → ok k → k < w.heap.size → ok' k) : LiesO e d.sz ok' w B m c := by
  obtain ⟨h0, inner, ho⟩ := h
  rcases ho.1.2 with ⟨h1, h2⟩ | ⟨g, cap, cur, he, hb, hh, hn, hm, hs, _⟩
  · injection h1 with a b c'
    subst a; subst b; subst c'
    exact ⟨Nat.le_refl _, by decide, .inl ⟨rfl, rfl⟩⟩
  · injection he with a b c'
    subst a; subst b; subst c'
    exact ⟨hn, hm, .inr ⟨g, cur, rfl, hok g hb (h0 g rfl) (Array.getElem?_eq_some_iff.1 hh).1, hh, hs⟩⟩
theorem LiesO.at {e sz : Nat} {ok : Nat → Prop} {w : World} {B : Option Addr} {m c : Nat} (h : LiesO e sz ok w B m c) (h0 : 0 < m) : ∃ g cs, B = some ⟨g, 0, none⟩ ∧ ok g ∧ RX.Blk w g e cs ∧ m * sz ≤ cs.size := by
  obtain ⟨h1, _, h⟩ := h
  rcases h with ⟨_, h⟩ | ⟨g, cs, h, h3, h4, h5⟩
  · omega
  · exact ⟨g, cs, h, h3, h4, by rw [h5]; exact Nat.mul_le_mul_right _ h1⟩
theorem run_append_liesO {P : Program} {w W : World} (t ty e : TypeId) (i : TypeInfo) (z : Value) (ht : P.underlying t = some (.slice e)) (hi : P.info? e = some i) (hz : i.zero = some z) (hzs : z.cells.size = i.size) (hsz : 0 < i.size) {ok : Nat → Prop} (hok : ∀ g, W.heap.size ≤ g → ok g) {B : Option Addr} {n c : Nat} (hL0 : LiesO e i.size ok W B n c) (hW : Below W.heap.size W w)
    (a : Addr) (c' : Nat) (news : List Value) (hl : news.length = i.size) (hnews : ∀ j u, news[j]? = some u → w.cell? (a.add j) = some u) (h1 : ∀ u ∈ news, u.oneCell' = true) (hbytes : (n + 1) * i.bytes ≤ 140737488355328) (hn : n ≤ 140737488355328) :
    ∃ A1 c1 w', (Builtin.append_ #[t, t] ty #[.slice B n c, .slice (some a) 1 c']).run P w = .ok (.slice A1 (n + 1) c1) w' ∧ WroteO e ok W w' ∧ LiesO e i.size ok w' A1 (n + 1) c1 := by
  have hL := hL0.below hW
  obtain ⟨_, _, hL1⟩ := hL0
  obtain ⟨hnc, hcm, hL⟩ := hL
  rcases hL with ⟨rfl, rfl⟩ | ⟨g, cur, rfl, hg, hb, hs⟩
  · obtain rfl : n = 0 := by omega
    have hr := run_append_nil (P := P) w t ty e i z ht hi hz a 1 c' news (by omega) hnews (by omega) (by omega) (by omega)
    refine ⟨_, _, _, hr, ⟨none, ?_, fun g hg => by cases hg⟩, grownCap_ge w 1 0 e, grownCap_le_maxLen w 1 0 e (by decide), .inr ⟨_, _, rfl, hok _ hW.size, heap_alloc_new w.drew _, ?_⟩⟩
    · exact ⟨hW.os, hW.tape, hW.output, by have := hW.size; simp; omega, fun k hk _ => (Below.heap_alloc w.drew _ k (Nat.lt_of_lt_of_le hk hW.size)).trans (hW.block k hk)⟩
    · rw [Array.size_append, size_zeroCells, hzs, List.size_toArray, hl]
      have := grownCap_ge w 1 0 e
      obtain ⟨q, hq⟩ := Nat.exists_eq_add_of_le this
      rw [hq, Nat.add_sub_cancel_left, Nat.add_mul, Nat.one_mul]
  · obtain ⟨cur', hb0, hs0⟩ : ∃ cur', RX.Blk W g e cur' ∧ cur'.size = c * i.size := by
      rcases hL1 with ⟨h, _⟩ | ⟨g', cur', he, _, hb0, hs0⟩
      · cases h
      · injection he with he
        injection he with he
        subst he
        exact ⟨cur', hb0, hs0⟩
    by_cases hroom : n + 1 ≤ c
    · have hfit : n * i.size + news.length ≤ cur.size := by
        rw [hl, hs, ← Nat.succ_mul]
        exact Nat.mul_le_mul_right _ hroom
      have hr := run_append_room (P := P) w t ty e i ht hi g n c cur hb a 1 c' news (by omega) hnews h1 hroom hfit
      refine ⟨_, _, _, hr, ⟨some g, ?_, fun k hk => by
        injection hk with hk
        subst hk
        refine ⟨hg, cur', _, hb0, setRow_heap w g cur _ e _ hb, ?_⟩
        simp only [List.size_toArray, List.length_append, List.length_take, List.length_drop, Array.length_toList]
        omega⟩, hroom, hcm, .inr ⟨g, _, rfl, hg, setRow_heap w g cur _ e _ hb, ?_⟩⟩
      · exact ⟨hW.os, hW.tape, hW.output, by have := hW.size; simp [World.setRow]; omega, fun k hk hne => (setRow_other w g k _ (fun e => hne (by rw [e]))).trans (hW.block k hk)⟩
      · simp only [List.size_toArray, List.length_append, List.length_take, List.length_drop, Array.length_toList]
        omega
    · have hms : n * i.size ≤ c * i.size := Nat.mul_le_mul_right _ hnc
      have hr := run_append_grow (P := P) w t ty e i z ht hi hz ⟨g, 0, none⟩ n c (cur.toList.take (n * i.size)) (by rw [List.length_take, Array.length_toList]; omega) (fun j u hu => by
        have e2 : (⟨g, 0, none⟩ : Addr).add j = ⟨g, j, none⟩ := by unfold Addr.add; split <;> simp_all
        rw [e2, cell_of_row w g j cur e (0, 0) hb]
        rw [List.getElem?_take] at hu
        split at hu
        · simpa using hu
        · cases hu) a 1 c' news (by omega) hnews (by omega) (by omega) (growslice_fits (by omega) hbytes)
      refine ⟨_, _, _, hr, ⟨none, ?_, fun g hg => by cases hg⟩, grownCap_ge w (n + 1) c e, grownCap_le_maxLen w (n + 1) c e (by unfold maxLen; omega), .inr ⟨_, _, rfl, hok _ hW.size, heap_alloc_new w.drew _, ?_⟩⟩
      · exact ⟨hW.os, hW.tape, hW.output, by have := hW.size; simp; omega, fun k hk _ => (Below.heap_alloc w.drew _ k (Nat.lt_of_lt_of_le hk hW.size)).trans (hW.block k hk)⟩
      · rw [Array.size_append, Array.size_append, size_zeroCells, hzs, List.size_toArray, List.size_toArray, hl, List.length_take, Array.length_toList, Nat.min_eq_left (by omega)]
        have := grownCap_ge w (n + 1) c e
        obtain ⟨q, hq⟩ := Nat.exists_eq_add_of_le this
        rw [hq, Nat.add_sub_cancel_left, Nat.add_mul, Nat.add_mul, Nat.one_mul]
theorem XL_appendLiesO {P : Program} {N : Nat} {ops : Array Oper} {qs : QS} {rest : List Oper} {o : Oper} {l : Slots} {W : World} {s x : Operand} {t : TypeId} (ho : o.op = .call { callee := .builtin .append, args := #[s, x], argTypes := #[t, t] }) (hg : gd ops l o = some true) (hd : okD N o.dst = true) (e : Nat) (z : Value) (size bytes : Nat)
    (ht : P.underlying t = some (.slice e)) (hinfo : (P.info? e).map (fun i => (i.zero, i.size, i.bytes)) = some (some z, size, bytes)) (hz : z.cells.size = size) (hs0 : 0 < size)
    {B : Option Addr} {n c : Nat} {ok : Nat → Prop} (cs : List Value) (hv : evs l [s, x] = some [.slice B n c, .slice (some ⟨W.heap.size, 0, none⟩) 1 1]) (hcs : cs.length = size) (h1 : cs.all (·.oneCell') = true)
    (hok : ∀ g, W.heap.size ≤ g → ok g) (hL : LiesO e size ok W B n c) (hl : (n + 1) * bytes ≤ 140737488355328) (hn0 : n ≤ 140737488355328)
    (hn : ∀ A1 c1 w1, WroteO e ok W w1 → LiesO e size ok w1 A1 (n + 1) c1 → XL P N ops rest qs (putS l o.dst (.slice A1 (n + 1) c1)) w1) : XL P N ops (o :: rest) qs l (W.alloc (.cells cs.toArray e)) := by
  obtain ⟨i0, hi0, hzz⟩ := Option.map_eq_some_iff.1 hinfo
  simp only [Prod.mk.injEq] at hzz
  obtain ⟨hz0, hz1, hz2⟩ := hzz
  subst hz1
  subst hz2
  refine XL_law hd hg fun a ha => ?_
  have he := evs_ok ha _ _ hv
  simp only [List.map_cons, List.map_nil, List.cons.injEq, and_true] at he
  refine wpList_plain rfl fun K hK => ?_
  obtain ⟨A1, c1, w1, hr, hw, hL1⟩ := run_append_liesO (P := P) (w := W.alloc (.cells cs.toArray e)) t o.type e i0 z ht hi0 hz0 hz hs0 hok hL ((Below.refl _ W).alloc (Nat.le_refl _) _) ⟨W.heap.size, 0, none⟩ 1 cs hcs
    (by simpa using World.news_of_block (cs := cs.toArray) (t := e) (fr := (0, 0)) (heap_alloc_new W (.cells cs.toArray e))) (fun u hu => List.all_eq_true.1 h1 u hu) hl hn0
  unfold Oper.wp execOp
  simp only [ho, resolve, invoke, builtin, Sem.run_bind, Sem.run_pure, Result.andThen_ok, List.map_toArray, List.map_cons, List.map_nil, he.1, he.2, hr]
  exact hK _ _ (hn A1 c1 w1 hw hL1 _ (ha.putS hd _))
theorem XL_spoilO {P : Program} {N : Nat} {ops : Array Oper} {qs : QS} {rest : List Oper} {o : Oper} {l : Slots} {w : World} {t : TypeId} {p x : Operand} (ho : o.op = .store t p x) (hdn : o.dst = none) (hg : gd ops l o = some true)
    {g : Nat} {ok : Nat → Prop} {bt : TypeId} {cs : Array Value} {v : Value} {n : Nat} {ad : Addr} (had : ad = ⟨g, 0, none⟩) (hp : evs l [p, x] = some [.pointer (some (ad.add n)), v]) (hb : Blk w g bt cs) (hok : ok g) (vs : List Value)
    (hv : v.cells.toList = vs ∧ sizeP P t = some vs.length) (h1 : vs.all (·.oneCell') = true) (hl : n + vs.length ≤ cs.size)
    (hn : ∀ w1, WroteO bt ok w w1 → XL P N ops rest qs l w1) : XL P N ops (o :: rest) qs l w :=
  XL_spoil ho hdn hg had hp hb vs hv h1 hl fun w1 cs' h2 h3 h4 => hn w1 ⟨some g, h2, fun k hk => by injection hk with hk; subst hk; exact ⟨hok, cs, cs', hb, h3, h4⟩⟩
end Go.Proofs.YtkehomiogkoomaaDoor.RX
