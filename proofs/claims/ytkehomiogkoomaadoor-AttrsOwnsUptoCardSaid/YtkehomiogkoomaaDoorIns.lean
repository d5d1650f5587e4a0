/- copy, append of a make, slices.overlaps: rules over blocks. No condition. -/
import Derived.Test.YtkehomiogkoomaaDoorOver2
import Derived.Lib.Overlaps
import Derived.Lib.AppendZerosOnto
import Derived.Laws.CopyRow
set_option linter.unusedVariables false
set_option linter.unusedSimpArgs false
set_option maxRecDepth 100000
namespace Go.Proofs.YtkehomiogkoomaaDoor.RX
open Go Go.RowKit Go.Proofs.YtkehomiogkoomaaDoorW.PrintWords
theorem run_copy_rowN {P : Program} (w : World) (dT sT ty elem : TypeId) (sz g o dLen dCap : Nat) (a : Addr) (sLen sCap : Nat) (cur : Array Value) (t : TypeId) (cs : List Value)
    (hu : P.underlying dT = some (.slice elem)) (hs : (P.info? elem).map (·.size) = some sz)
    (hg : w.heap[g]? = some (.cells cur t (0, 0))) (hn : cs.length = Nat.min sLen dLen * sz)
    (hsrc : ∀ j v, cs[j]? = some v → w.cell? (a.add j) = some v) (hfit : o + cs.length ≤ cur.size) (h1 : ∀ v ∈ cs, v.oneCell' = true) :
    (Builtin.copy_ #[dT, sT] ty #[.slice (some ⟨g, o, none⟩) dLen dCap, .slice (some a) sLen sCap]).run P w =
      .ok (goInt (Nat.min sLen dLen)) (w.setRow g (cur.toList.take o ++ cs ++ cur.toList.drop (o + cs.length)).toArray) := by
  have hl := run_loadCells_list (P := P) w a cs hsrc
  have hst := run_storeCells_at P g o t cs 0 cur w hg (by simpa using hfit) h1
  cases hq : P.info? elem with
  | none => simp [hq] at hs
  | some i =>
    have hi : i.size = sz := by simpa [hq] using hs
    simp [Builtin.copy_, run_underlying hu, Builtin.lenOf, Builtin.firstCells, sizeOf, typeInfo, hq, hi, ← hn, hl, hst]
theorem grownBy_setRow {w : World} {g : Nat} (cs : Array Value) : w.grownBy (w.setRow g cs) (some g) := by
  refine ⟨rfl, rfl, rfl, by simp [World.setRow], fun k hk hne => ?_⟩
  exact setRow_other w g k cs (fun e => hne (by rw [e]))
section
variable {P : Program} {N : Nat} {ops : Array Oper} {qs : QS} {rest : List Oper} {o : Oper} {l : Slots}
/-- copy(d, s), d in a block of the walk's own, both with cells -/
theorem XL_copyB {w : World} {x y : Operand} {dT sT : TypeId} (ho : o.op = .call { callee := .builtin .copy, args := #[x, y], argTypes := #[dT, sT] }) (hg : gd ops l o = some true) (hd : okD N o.dst = true) {elem sz g off dl dc sl sc : Nat} {a : Addr} {cur : Array Value} {t : TypeId} (cs cur' : List Value)
    (hu : P.underlying dT = some (.slice elem)) (hs : sizeP P elem = some sz) (hv : evs l [x, y] = some [.slice (some ⟨g, off, none⟩) dl dc, .slice (some a) sl sc]) (hb : Blk w g t cur) (hn : cs.length = Nat.min sl dl * sz)
    (hsrc : ∀ j v, cs[j]? = some v → w.cell? (a.add j) = some v) (hfit : off + cs.length ≤ cur.size) (h1 : ∀ v ∈ cs, v.oneCell' = true) (hc : cur.toList.take off ++ cs ++ cur.toList.drop (off + cs.length) = cur')
    (hk : ∀ w1, w.grownBy w1 (some g) → Blk w1 g t cur'.toArray → w1.heap.size = w.heap.size → XL P N ops rest qs (putS l o.dst (goInt (Nat.min sl dl))) w1) : XL P N ops (o :: rest) qs l w := by
  subst hc
  refine XL_law hd hg fun b ha => ?_
  have he := evs_ok ha _ _ hv
  simp only [List.map_cons, List.map_nil, List.cons.injEq, and_true] at he
  refine wpList_plain rfl fun K hK => ?_
  have hr := run_copy_rowN w dT sT o.type elem sz g off dl dc a sl sc cur t cs hu hs hb hn hsrc hfit h1
  unfold Oper.wp execOp
  simp only [ho, resolve, invoke, builtin, Sem.run_bind, Sem.run_pure, Result.andThen_ok, List.map_toArray, List.map_cons, List.map_nil, he.1, he.2, hr]
  exact hK _ _ (hk _ (grownBy_setRow _) (setRow_heap w g _ _ _ _ hb) (by simp [World.setRow]) _ (ha.putS hd _))
/-- append(s, make(.., k)...), s the first i of a block, no room -/
theorem XL_appendZ {w : World} {x y : Operand} {t tn : TypeId} (ho : o.op = .call { callee := .builtin .append, args := #[x, y], argTypes := #[t, tn] }) (hg : gd ops l o = some true) (hd : okD N o.dst = true) {e sz bytes g i c k : Nat} {z : Value} {kq kn : IntKind} {k' : Int} {cur : Array Value}
    (hu : P.underlying t = some (.slice e)) (hun : P.underlying tn = some (.int kn)) (hinfo : (P.info? e).map (fun i => (i.zero, i.size, i.bytes)) = some (some z, sz, bytes)) (hz : z.cells.size = sz) (hs0 : 0 < sz)
    (hv : evs l [x, y] = some [.slice (some ⟨g, 0, none⟩) i c, .int kq k']) (hb : Blk w g e cur) (hcur : i * sz ≤ cur.size) (hk' : k' = (k : Int)) (h0 : 0 < k) (hroom : c < i + k) (hl : (i + k) * bytes ≤ 140737488355328) (hb0 : 0 < bytes)
    (hn : ∀ c1 w1 cs, Below w.heap.size w w1 → w1.heap.size = w.heap.size + 1 → Blk w1 w.heap.size e cs → i + k ≤ c1 → c1 ≤ maxLen → cs.size = c1 * sz → cs.toList.take (i * sz) = cur.toList.take (i * sz) → XL P N ops rest qs (putS l o.dst (.slice (some ⟨w.heap.size, 0, none⟩) (i + k) c1)) w1) : XL P N ops (o :: rest) qs l w := by
  subst hk'
  obtain ⟨i0, hi0, hzz⟩ := Option.map_eq_some_iff.1 hinfo
  simp only [Prod.mk.injEq] at hzz
  obtain ⟨hz0, hz1, hz2⟩ := hzz
  subst hz1
  subst hz2
  have hm : (i + k) * 1 ≤ (i + k) * i0.bytes := Nat.mul_le_mul_left _ hb0
  have hkm : k * i0.bytes ≤ (i + k) * i0.bytes := Nat.mul_le_mul_right _ (by omega)
  have hold : (Builtin.firstCells i0.size i (.slice (some ⟨g, 0, none⟩) i c)).run P w.drew = .ok (cur.toList.take (i * i0.size)).toArray w.drew :=
    run_firstCells_some (w := w.drew) i0.size i ⟨g, 0, none⟩ i c (cur.toList.take (i * i0.size)) (by simp; omega) (fun j v hj => by
      rw [List.getElem?_take] at hj
      split at hj
      · have : (⟨g, 0, none⟩ : Addr).add j = ⟨g, j, none⟩ := by unfold Addr.add; split <;> simp_all
        rw [this]
        have hc := Blk.cell hb j v (by simpa using hj)
        exact hc
      · cases hj)
  have hr := Lib.run_append_grow_zeros (P := P) w t tn o.type e i0 z kq kn hu hun hi0 hz0 (some ⟨g, 0, none⟩) i c (cur.toList.take (i * i0.size)) hold k h0 hs0 hroom (by omega) (by omega) (growslice_fits hroom hl)
  refine XL_law hd hg fun b ha => ?_
  have he := evs_ok ha _ _ hv
  simp only [List.map_cons, List.map_nil, List.cons.injEq, and_true] at he
  refine wpList_plain rfl fun K hK => ?_
  unfold Oper.wp execOp
  simp only [ho, resolve, invoke, builtin, Sem.run_bind, Sem.run_pure, Result.andThen_ok, List.map_toArray, List.map_cons, List.map_nil, he.1, he.2, hr]
  have hge := grownCap_ge w (i + k) c e
  refine hK _ _ (hn _ _ _ ((below_drew w).alloc (Nat.le_refl w.heap.size) _) (Array.size_push ..) (heap_alloc_new w.drew _) hge (grownCap_le_maxLen w _ _ e (by unfold maxLen; omega)) ?_ ?_ _ (ha.putS hd _))
  · simp [Builtin.zeroCells, hz]
    rw [Nat.min_eq_left hcur, ← Nat.add_mul, ← Nat.add_mul]
    congr 1
    omega
  · simp only [Array.toList_append, List.append_assoc]
    rw [List.take_append_of_le_length (by simp; omega)]
    first | (show List.take _ (List.take _ _) = _; rw [List.take_take, Nat.min_self]) | trace_state
/-- slices.overlaps of slices in two blocks -/
theorem XL_overlaps {w : World} {x y : Operand} {t : TypeId} (f : FuncId) (ho : o.op = .call { callee := .value (.func f), args := #[x, y], argTypes := #[t, t] }) (hg : gd ops l o = some true) (hd : okD N o.dst = true)
    (hc : ∀ args w', (callFunc f args).run P w' = ((Extern.SlicesOverlaps.overlaps #[t, t] #[4] args).run P w').andThen fun v w'' => .ok (.value v) w'') {e sz : Nat} (hu : P.underlying t = some (.slice e)) (hs : sizeP P e = some sz)
    {g g' off off' n n' c c' : Nat} {ta tb : TypeId} {ca cb : Array Value} (hv : evs l [x, y] = some [.slice (some ⟨g, off, none⟩) n c, .slice (some ⟨g', off', none⟩) n' c']) (ha : Blk w g ta ca) (hb : Blk w g' tb cb) (hne : g ≠ g') (hb0 : 0 < cb.size)
    (hk : XL P N ops rest qs (putS l o.dst (.bool false)) w) : XL P N ops (o :: rest) qs l w := by
  refine XL_law hd hg fun b hf => ?_
  have he := evs_ok hf _ _ hv
  simp only [List.map_cons, List.map_nil, List.cons.injEq, and_true] at he
  refine wpList_plain rfl fun K hK => ?_
  obtain ⟨inf, hinf, hsz⟩ := Option.map_eq_some_iff.1 hs
  have hr := Lib.run_overlaps_apart (P := P) w t 4 e hu sz (fun w => by simp [sizeOf, typeInfo, hinf, hsz]) ⟨g, off, none⟩ ⟨g', off', none⟩ n c n' c' hne ta tb ca.size cb.size (by simp [World.shape?, ha]) (by simp [World.shape?, hb]) (by omega) (Blk.free ha _) (Blk.free ha _)
  have hr2 := hc #[.slice (some ⟨g, off, none⟩) n c, .slice (some ⟨g', off', none⟩) n' c'] w
  rw [hr] at hr2
  obtain ⟨aq, has⟩ : ∃ aq : Array Operand, aq = #[x, y] := ⟨_, rfl⟩
  have hargs : aq.map b.eval = #[.slice (some ⟨g, off, none⟩) n c, .slice (some ⟨g', off', none⟩) n' c'] := by rw [has]; simp [he.1, he.2]
  rw [← has] at ho
  unfold Oper.wp execOp
  simp only [ho, resolve, Act.eval, Deferred.ofValue, Sem.run_bind, Sem.run_pure, Result.andThen_ok, invoke, hargs]
  simp only [Array.empty_append, Array.append_empty, hr2, Result.andThen_ok]
  exact hK _ _ (hk _ (hf.putS hd _))
end
end Go.Proofs.YtkehomiogkoomaaDoor.RX
