/- Rows of cells whose attributes are written over and appended to: their shape. No condition. -/
import Derived.Test.YtekfdfafhfhfbaaDoorSpare
import Derived.Test.YtekfdfafhfhfbaaDoorCell
set_option linter.unusedVariables false
set_option linter.unusedSimpArgs false
set_option maxRecDepth 100000
namespace Go.Proofs.YtekfdfafhfhfbaaDoor.RX
open Go Go.RowKit Go.Proofs.YtekfdfafhfhfbaaDoorW.PrintWords

/-- a slice over a block of its own, with its room -/
def LiesC (e sz lo hi : Nat) (w : World) (B : Option Addr) (m c : Nat) : Prop :=
  m ≤ c ∧ c ≤ 9223372036854775807 ∧ ((B = none ∧ c = 0) ∨ ∃ g cs, B = some ⟨g, 0, none⟩ ∧ lo ≤ g ∧ g < hi ∧ RX.Blk w g e cs ∧ cs.size = c * sz)
theorem LiesC.of_R {α : Type} {d : Kd α} {e : Nat} {w : World} {base hi : Nat} {ok : Nat → Prop} {B : Option Addr} {m c : Nat} {xs : List α} (h : d.R e w base ok (.slice B m c) xs) (hok : ∀ k, ok k → k < hi) : LiesC e d.sz base hi w B m c := by
  obtain ⟨h0, inner, ho⟩ := h
  rcases ho.1.2 with ⟨h1, h2⟩ | ⟨g, cap, cur, he, hb, hh, hn, hm, hs, _⟩
  · injection h1 with a b c'
    subst a; subst b; subst c'
    exact ⟨Nat.le_refl _, by decide, .inl ⟨rfl, rfl⟩⟩
  · injection he with a b c'
    subst a; subst b; subst c'
    exact ⟨hn, hm, .inr ⟨g, cur, rfl, hb, hok g (h0 g rfl), hh, hs⟩⟩
theorem LiesC.below {e sz lo hi : Nat} {w w1 : World} {B : Option Addr} {m c : Nat} (hb : Below w.heap.size w w1) (h : LiesC e sz lo hi w B m c) : LiesC e sz lo hi w1 B m c := by
  obtain ⟨h1, h2, h⟩ := h
  refine ⟨h1, h2, ?_⟩
  rcases h with h | ⟨g, cs, h, h2, h3, h4, h5⟩
  · exact .inl h
  · exact .inr ⟨g, cs, h, h2, h3, h4.below hb, h5⟩
/-- at most one block has been written, of this type, its size kept -/
def Wrote (e lo hi : Nat) (w w1 : World) : Prop := ∃ r, w.grownBy w1 r ∧ ∀ g, r = some g → lo ≤ g ∧ g < hi ∧ ∃ cs cs', RX.Blk w g e cs ∧ RX.Blk w1 g e cs' ∧ cs'.size = cs.size
theorem Wrote.size {e lo hi : Nat} {w w1 : World} (h : Wrote e lo hi w w1) : w.heap.size ≤ w1.heap.size := by
  obtain ⟨r, h, _⟩ := h
  exact h.size
theorem LiesC.wrote {e e' sz lo hi lo' hi' : Nat} {w w1 : World} {B : Option Addr} {m c : Nat} (h : LiesC e sz lo hi w B m c) (hw : Wrote e' lo' hi' w w1) : LiesC e sz lo hi w1 B m c := by
  obtain ⟨r, hg, hr⟩ := hw
  obtain ⟨h1, h2, h⟩ := h
  refine ⟨h1, h2, ?_⟩
  rcases h with h | ⟨g, cs, h, h2, h3, h4, h5⟩
  · exact .inl h
  · by_cases hq : r = some g
    · obtain ⟨_, _, cs1, cs2, b1, b2, b3⟩ := hr g hq
      have e1 : (some (Obj.cells cs1 e' (0, 0)) : Option Obj) = some (.cells cs e (0, 0)) := b1.symm.trans h4
      injection e1 with e1
      injection e1 with e1 e2
      subst e1; subst e2
      exact .inr ⟨g, cs2, h, h2, h3, b2, by omega⟩
    · exact .inr ⟨g, cs, h, h2, h3, (hg.block g h4.lt fun e => hq e.symm).trans h4, h5⟩
theorem Spoilt.wr {e lo hi : Nat} {w w1 w2 : World} (h : Spoilt lo hi w w1) (hw : Wrote e lo hi w1 w2) (hl : lo ≤ w.heap.size) : Spoilt lo hi w w2 := by
  obtain ⟨r, hg, hr⟩ := hw
  exact ⟨h.b.grown hg (Nat.le_trans hl h.b.size) fun k hk => (hr k hk).1, fun k h3 h4 => (hg.block k (Nat.lt_of_lt_of_le h4 h.b.size) fun e => by have := (hr k e.symm).2.1; omega).trans (h.k k h3 h4)⟩
theorem cells_wr {e e' lo hi : Nat} {w w1 : World} {g k : Nat} {cs : Array Value} {vs : List Value} (h : CellsAt w ((⟨g, 0, none⟩ : Addr).add k) vs) (hb : RX.Blk w g e' cs) (hw : Wrote e lo hi w w1) (hne : e ≠ e') : CellsAt w1 ((⟨g, 0, none⟩ : Addr).add k) vs := by
  obtain ⟨r, hg, hr⟩ := hw
  have hk : w1.heap[g]? = w.heap[g]? := hg.block g hb.lt fun e1 => by
    obtain ⟨_, _, cs1, _, b1, _⟩ := hr g e1.symm
    have e2 : (some (Obj.cells cs1 e (0, 0)) : Option Obj) = some (.cells cs e' (0, 0)) := b1.symm.trans hb
    injection e2 with e2
    injection e2 with _ e2
    exact hne e2
  intro j u hu
  rw [← h j u hu]
  refine World.cell?_of_block ?_
  rw [add_add, show ((⟨g, 0, none⟩ : Addr).add (k + j)).block = g from by unfold Addr.add; split <;> rfl]
  exact hk

/-- a row whose elements from i on end in slices that lie -/
structure Shape (p e' e lo hi : Nat) (w : World) (A : Option Addr) (n c i : Nat) : Prop where
  o : LiesC e' (p + 1) lo hi w A n c
  r : ∀ j, i ≤ j → j < n → ∃ ad pre B m c2, A = some ad ∧ CellsAt w (ad.add (j * (p + 1))) (pre ++ [.slice B m c2]) ∧ pre.length = p ∧ LiesC e 4 lo hi w B m c2 ∧ m ≤ 100000000
section
variable {p e' e lo hi : Nat} {w w1 : World} {A : Option Addr} {n c i : Nat}
theorem Shape.next (h : Shape p e' e lo hi w A n c i) : Shape p e' e lo hi w A n c (i + 1) := ⟨h.o, fun j h1 h2 => h.r j (by omega) h2⟩
theorem Shape.below (hb : Below w.heap.size w w1) (h : Shape p e' e lo hi w A n c i) : Shape p e' e lo hi w1 A n c i := ⟨h.o.below hb, fun j h1 h2 => by
  obtain ⟨ad, pre, B, m, c2, a, b, d, e, q⟩ := h.r j h1 h2
  exact ⟨ad, pre, B, m, c2, a, cells_below b hb, d, e.below hb, q⟩⟩
theorem Shape.blk (h : Shape p e' e lo hi w A n c i) (h0 : 0 < n) : ∃ g cs, A = some ⟨g, 0, none⟩ ∧ lo ≤ g ∧ g < hi ∧ RX.Blk w g e' cs ∧ n * (p + 1) ≤ cs.size := by
  obtain ⟨h1, h2, h⟩ := h.o
  rcases h with ⟨_, h⟩ | ⟨g, cs, a, b, c, d, e⟩
  · omega
  · have : n * (p + 1) ≤ _ := Nat.mul_le_mul_right (p + 1) h1
    exact ⟨g, cs, a, b, c, d, by omega⟩
theorem Shape.wr (h : Shape p e' e lo hi w A n c i) {lo' hi' : Nat} (hw : Wrote e lo' hi' w w1) (hne : e ≠ e') : Shape p e' e lo hi w1 A n c i := ⟨h.o.wrote hw, fun j h1 h2 => by
  obtain ⟨ad, pre, B, m, c2, a, b, d, k, q⟩ := h.r j h1 h2
  obtain ⟨g, cs, e1, _, _, hb, _⟩ := h.blk (by omega)
  obtain rfl : ad = ⟨g, 0, none⟩ := by rw [a] at e1; injection e1
  exact ⟨_, pre, B, m, c2, a, cells_wr b hb hw hne, d, k.wrote hw, q⟩⟩
theorem setAll_get1 (cs : Array Value) (n k : Nat) (v : Value) (h : k ≠ n) : (setAll cs n [v])[k]? = cs[k]? := by
  show (cs.setIfInBounds n v)[k]? = _
  rw [Array.getElem?_setIfInBounds_ne (fun e => h e.symm)]
theorem blk_cellsAt {g k : Nat} {cs : Array Value} {vs : List Value} {t : Nat} (h : CellsAt w ((⟨g, 0, none⟩ : Addr).add k) vs) (hb : RX.Blk w g t cs) : ∀ j u, vs[j]? = some u → cs[k + j]? = some u := by
  intro j u hu
  have h1 := h j u hu
  have e2 : (⟨g, 0, none⟩ : Addr).add (k + j) = ⟨g, k + j, none⟩ := by unfold Addr.add; split <;> simp_all
  rw [add_add, e2] at h1
  rw [cell_of_row w g (k + j) cs t (0, 0) hb] at h1
  exact h1
theorem cellsAt_blk {g k : Nat} {cs : Array Value} {vs : List Value} {t : Nat} (hb : RX.Blk w g t cs) (h : ∀ j u, vs[j]? = some u → cs[k + j]? = some u) : CellsAt w ((⟨g, 0, none⟩ : Addr).add k) vs := by
  intro j u hu
  have e2 : (⟨g, 0, none⟩ : Addr).add (k + j) = ⟨g, k + j, none⟩ := by unfold Addr.add; split <;> simp_all
  rw [add_add, e2, cell_of_row w g (k + j) cs t (0, 0) hb]
  exact h j u hu
/-- the last cell of element i has been written -/
theorem Shape.put (h : Shape p e' e lo hi w A n c (i + 1)) {g : Nat} {cs : Array Value} {v : Value} (hA : A = some ⟨g, 0, none⟩) (hb : RX.Blk w g e' cs) (hg : w.grownBy w1 (some g)) (hb1 : RX.Blk w1 g e' (setAll cs (i * (p + 1) + p) [v])) (hlo : lo ≤ g) (hhi : g < hi) :
    Wrote e' lo hi w w1 ∧ Shape p e' e lo hi w1 A n c (i + 1) := by
  have hw : Wrote e' lo hi w w1 := ⟨some g, hg, fun k hk => by
    injection hk with hk
    subst hk
    exact ⟨hlo, hhi, cs, _, hb, hb1, setAll_size _ _ _⟩⟩
  refine ⟨hw, h.o.wrote hw, fun j h1 h2 => ?_⟩
  obtain ⟨ad, pre, B, m, c2, a, b, d, k, hq⟩ := h.r j h1 h2
  obtain rfl : ad = ⟨g, 0, none⟩ := by rw [hA] at a; injection a with a; exact a.symm
  refine ⟨_, pre, B, m, c2, hA, cellsAt_blk hb1 fun q u hu => ?_, d, k.wrote hw, hq⟩
  have h3 : (i + 1) * (p + 1) ≤ j * (p + 1) := Nat.mul_le_mul_right _ h1
  rw [Nat.succ_mul] at h3
  rw [setAll_get1 _ _ _ _ (by omega)]
  exact blk_cellsAt b hb q u hu
end
theorem shape_cells {w : World} {base : Nat} {A : Option Addr} {n c : Nat} {xs : List CellA} {e : Nat} (h : kCell.R e w base (OkFrom base) (.slice A n c) xs) (hm : ∀ j, j < xs.length → (xs.getD j cell0).attrs.length ≤ 100000000) : Shape 5 e 79 base w.heap.size w A n c 0 := by
  have hb := Kd.R_bound h
  refine ⟨LiesC.of_R (d := kCell) hb fun k hk => hk.2.2.1, fun j _ hj => ?_⟩
  obtain ⟨hn, hc⟩ := Kd.R_len h
  obtain ⟨vss, hR, hl, hM⟩ := Kd.R_raw cell0 hb
  obtain ⟨ad, cc, hA, hK, hcc⟩ := Kd.atC (Kd.R_C hR) [] (i := (j : Int)) (by omega) (by omega)
  obtain ⟨q0, r0, e1, h1, q1, r1, e2, h2, q2, r2, e3, h3, v, e4, hv⟩ := hM j (by omega)
  obtain ⟨B, c2, e5, _⟩ := Kd.R_reads hv
  subst e5
  subst e4
  subst e3
  subst e2
  obtain rfl : cc = vss.getD (j : Int).toNat [] := hK.1
  have hcc2 : CellsAt w (ad.add (j * (5 + 1))) ((q0 ++ (q1 ++ q2)) ++ [.slice B (xs.getD j cell0).attrs.length c2]) := by
    have h9 : CellsAt w (ad.add (j * 6)) (vss.getD j []) := hcc
    rw [e1] at h9
    rw [List.append_assoc, List.append_assoc]
    exact h9
  refine ⟨ad, _, B, _, c2, hA, hcc2, ?_, LiesC.of_R (d := kAttr) hv fun k hk => hk.2.2.1, hm j (by omega)⟩
  rw [List.length_append, List.length_append, (Kd.int .i32).K_len ((Kd.int .i32).K_of_M h1), Kd.string.K_len (Kd.string.K_of_M h2), (Kd.pair (Kd.int .i64) (Kd.pair (Kd.int .i64) Kd.string)).K_len ((Kd.pair (Kd.int .i64) (Kd.pair (Kd.int .i64) Kd.string)).K_of_M h3)]; rfl
theorem LiesC.at {e sz lo hi : Nat} {w : World} {B : Option Addr} {m c : Nat} (h : LiesC e sz lo hi w B m c) (h0 : 0 < m) : ∃ g cs, B = some ⟨g, 0, none⟩ ∧ lo ≤ g ∧ g < hi ∧ RX.Blk w g e cs ∧ m * sz ≤ cs.size := by
  obtain ⟨h1, h2, h⟩ := h
  rcases h with ⟨_, h⟩ | ⟨g, cs, a, b, c, d, e⟩
  · omega
  · have : m * sz ≤ _ := Nat.mul_le_mul_right sz h1
    exact ⟨g, cs, a, b, c, d, by omega⟩

/-- append of one element to a slice that lies -/
theorem run_append_lies {P : Program} {w W : World} (t ty e : TypeId) (i : TypeInfo) (z : Value) (ht : P.underlying t = some (.slice e)) (hi : P.info? e = some i) (hz : i.zero = some z) (hzs : z.cells.size = i.size) (hsz : 0 < i.size) {lo hi' : Nat} {B : Option Addr} {n c : Nat} (hL0 : LiesC e i.size lo hi' W B n c) (hW : Below W.heap.size W w)
    (a : Addr) (c' : Nat) (news : List Value) (hl : news.length = i.size) (hnews : ∀ j u, news[j]? = some u → w.cell? (a.add j) = some u) (h1 : ∀ u ∈ news, u.oneCell' = true) (hbytes : (n + 1) * i.bytes ≤ 140737488355328) (hn : n ≤ 140737488355328) :
    ∃ A1 c1 w', (Builtin.append_ #[t, t] ty #[.slice B n c, .slice (some a) 1 c']).run P w = .ok (.slice A1 (n + 1) c1) w' ∧ Wrote e lo hi' W w' := by
  have hL := hL0.below hW
  obtain ⟨hnc, hcm, hL⟩ := hL
  rcases hL with ⟨rfl, rfl⟩ | ⟨g, cur, rfl, hlo, hhi, hb, hs⟩
  · obtain rfl : n = 0 := by omega
    have hr := run_append_nil (P := P) w t ty e i z ht hi hz a 1 c' news (by omega) hnews (by omega) (by omega) (by omega)
    refine ⟨_, _, _, hr, none, ?_, fun g hg => by cases hg⟩
    exact ⟨hW.os, hW.tape, hW.output, by have := hW.size; simp; omega, fun k hk _ => (Below.heap_alloc w.drew _ k (Nat.lt_of_lt_of_le hk hW.size)).trans (hW.block k hk)⟩
  · obtain ⟨_, _, hL1⟩ := hL0
    rcases hL1 with ⟨h, _⟩ | ⟨g', cur', he, _, _, hb0, hs0⟩
    · cases h
    obtain rfl : g = g' := by injection he with he; injection he
    by_cases hroom : n + 1 ≤ c
    · have hfit : n * i.size + news.length ≤ cur.size := by
        rw [hl, hs, ← Nat.succ_mul]
        exact Nat.mul_le_mul_right _ hroom
      have hr := run_append_room (P := P) w t ty e i ht hi g n c cur hb a 1 c' news (by omega) hnews h1 hroom hfit
      refine ⟨_, _, _, hr, some g, ?_, fun k hk => ?_⟩
      · exact ⟨hW.os, hW.tape, hW.output, by have := hW.size; simp [World.setRow]; omega, fun k hk hne => (setRow_other w g k _ (fun e => hne (by rw [e]))).trans (hW.block k hk)⟩
      · injection hk with hk
        subst hk
        refine ⟨hlo, hhi, cur', _, hb0, setRow_heap w g cur _ e _ hb, ?_⟩
        simp only [List.size_toArray, List.length_append, List.length_take, List.length_drop, Array.length_toList]
        omega
    · have hms : n * i.size ≤ c * i.size := Nat.mul_le_mul_right _ hnc
      have hr := run_append_grow (P := P) w t ty e i z ht hi hz ⟨g, 0, none⟩ n c (cur.toList.take (n * i.size)) (by rw [List.length_take, Array.length_toList]; omega) (fun j u hu => by
        have e2 : (⟨g, 0, none⟩ : Addr).add j = ⟨g, j, none⟩ := by unfold Addr.add; split <;> simp_all
        rw [e2, cell_of_row w g j cur e (0, 0) hb]
        rw [List.getElem?_take] at hu
        split at hu
        · simpa using hu
        · cases hu) a 1 c' news (by omega) hnews (by omega) (by omega) (growslice_fits (by omega) hbytes)
      refine ⟨_, _, _, hr, none, ?_, fun g hg => by cases hg⟩
      exact ⟨hW.os, hW.tape, hW.output, by have := hW.size; simp; omega, fun k hk _ => (Below.heap_alloc w.drew _ k (Nat.lt_of_lt_of_le hk hW.size)).trans (hW.block k hk)⟩
theorem XL_appendLies {P : Program} {N : Nat} {ops : Array Oper} {qs : QS} {rest : List Oper} {o : Oper} {l : Slots} {W : World} {s x : Operand} {t : TypeId} (ho : o.op = .call { callee := .builtin .append, args := #[s, x], argTypes := #[t, t] }) (hg : gd ops l o = some true) (hd : okD N o.dst = true) (e : Nat) (z : Value) (size bytes : Nat)
    (ht : P.underlying t = some (.slice e)) (hinfo : (P.info? e).map (fun i => (i.zero, i.size, i.bytes)) = some (some z, size, bytes)) (hz : z.cells.size = size) (hs0 : 0 < size)
    {B : Option Addr} {n c lo hi : Nat} (cs : List Value) (hv : evs l [s, x] = some [.slice B n c, .slice (some ⟨W.heap.size, 0, none⟩) 1 1]) (hcs : cs.length = size) (h1 : cs.all (·.oneCell') = true)
    (hL : LiesC e size lo hi W B n c) (hl : (n + 1) * bytes ≤ 140737488355328) (hn0 : n ≤ 140737488355328)
    (hn : ∀ A1 c1 w1, Wrote e lo hi W w1 → XL P N ops rest qs (putS l o.dst (.slice A1 (n + 1) c1)) w1) : XL P N ops (o :: rest) qs l (W.alloc (.cells cs.toArray e)) := by
  obtain ⟨i0, hi0, hzz⟩ := Option.map_eq_some_iff.1 hinfo
  simp only [Prod.mk.injEq] at hzz
  obtain ⟨hz0, hz1, hz2⟩ := hzz
  subst hz1
  subst hz2
  refine XL_law hd hg fun a ha => ?_
  have he := evs_ok ha _ _ hv
  simp only [List.map_cons, List.map_nil, List.cons.injEq, and_true] at he
  refine wpList_plain rfl fun K hK => ?_
  obtain ⟨A1, c1, w1, hr, hw⟩ := run_append_lies (P := P) (w := W.alloc (.cells cs.toArray e)) t o.type e i0 z ht hi0 hz0 hz hs0 hL ((Below.refl _ W).alloc (Nat.le_refl _) _) ⟨W.heap.size, 0, none⟩ 1 cs hcs
    (by simpa using World.news_of_block (cs := cs.toArray) (t := e) (fr := (0, 0)) (heap_alloc_new W (.cells cs.toArray e))) (fun u hu => List.all_eq_true.1 h1 u hu) hl hn0
  unfold Oper.wp execOp
  simp only [ho, resolve, invoke, builtin, Sem.run_bind, Sem.run_pure, Result.andThen_ok, List.map_toArray, List.map_cons, List.map_nil, he.1, he.2, hr]
  exact hK _ _ (hn A1 c1 w1 hw _ (ha.putS hd _))
theorem XL_spoilW {P : Program} {N : Nat} {ops : Array Oper} {qs : QS} {rest : List Oper} {o : Oper} {l : Slots} {w : World} {t : TypeId} {p x : Operand} (ho : o.op = .store t p x) (hdn : o.dst = none) (hg : gd ops l o = some true)
    {g lo hi : Nat} {bt : TypeId} {cs : Array Value} {v : Value} {n : Nat} {ad : Addr} (had : ad = ⟨g, 0, none⟩) (hp : evs l [p, x] = some [.pointer (some (ad.add n)), v]) (hb : Blk w g bt cs) (hlo : lo ≤ g) (hhi : g < hi) (vs : List Value)
    (hv : v.cells.toList = vs ∧ sizeP P t = some vs.length) (h1 : vs.all (·.oneCell') = true) (hl : n + vs.length ≤ cs.size)
    (hn : ∀ w1, Wrote bt lo hi w w1 → XL P N ops rest qs l w1) : XL P N ops (o :: rest) qs l w :=
  XL_spoil ho hdn hg had hp hb vs hv h1 hl fun w1 cs' h2 h3 h4 => hn w1 ⟨some g, h2, fun k hk => by injection hk with hk; subst hk; exact ⟨hlo, hhi, cs, cs', hb, h3, h4⟩⟩
theorem XL_putLast {P : Program} {N : Nat} {ops : Array Oper} {qs : QS} {rest : List Oper} {o : Oper} {l : Slots} {w : World} {t : TypeId} {pp x : Operand} (ho : o.op = .store t pp x) (hdn : o.dst = none) (hg : gd ops l o = some true)
    {p e' e lo hi : Nat} {A : Option Addr} {n c i : Nat} {ad : Addr} {v : Value} (h : Shape p e' e lo hi w A n c (i + 1)) (hi0 : i < n) (hA : A = some ad) (hp : evs l [pp, x] = some [.pointer (some ((ad.add (i * (p + 1))).add p)), v])
    (hv : v.cells.toList = [v] ∧ sizeP P t = some 1) (h1 : v.oneCell' = true)
    (hn : ∀ w1, Wrote e' lo hi w w1 → Shape p e' e lo hi w1 A n c (i + 1) → XL P N ops rest qs l w1) : XL P N ops (o :: rest) qs l w := by
  obtain ⟨g, cs, hA2, h2, h3, hb, hs⟩ := h.blk (by omega)
  obtain rfl : ad = ⟨g, 0, none⟩ := by rw [hA] at hA2; injection hA2
  rw [add_add] at hp
  have hadd : (⟨g, 0, none⟩ : Addr).add (i * (p + 1) + p) = ⟨g, i * (p + 1) + p, none⟩ := by unfold Addr.add; split <;> simp_all
  rw [hadd] at hp
  have h5 : (i + 1) * (p + 1) ≤ n * (p + 1) := Nat.mul_le_mul_right _ hi0
  rw [Nat.succ_mul] at h5
  refine XL_store ho hdn hg hp hb _ [v] _ ⟨hv.1, rfl, hv.2⟩ ⟨rfl, by simp [h1]⟩ (by simp only [List.length_singleton]; omega) fun w1 h6 h7 _ => ?_
  obtain ⟨h8, h9⟩ := h.put hA hb h6 h7 h2 h3
  exact hn w1 h8 h9
end Go.Proofs.YtekfdfafhfhfbaaDoor.RX
