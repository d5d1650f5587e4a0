import Derived.Test.YtgphmfnkeolbcaaDoorRX
import Derived.Test.YtgphmfnkeolbcaaDoorWWords
/- Slices as the text-following wants them: read, made, appended to, written, cut. No condition. -/
set_option linter.unusedVariables false
set_option linter.unusedSimpArgs false
namespace Go.Proofs.YtgphmfnkeolbcaaDoor.RX
open Go Go.RowKit Go.Proofs.YtgphmfnkeolbcaaDoorW.PrintWords

theorem max_eq (a b : Int) : (if b > a then b else a) = max a b := by omega
/-! ### reading -/
/-- an element's cells, whatever the kind -/
theorem Kd.atC {α : Type} {d : Kd α} {w : World} {A : Option Addr} {n : Nat} {xs : List α} (h : d.C w A n xs) (z : α) {i : Int} (h0 : 0 ≤ i) (h1 : i < n) : ∃ ad c, A = some ad ∧ d.K w (xs.getD i.toNat z) c ∧ CellsAt w (ad.add (i.toNat * d.sz)) c := by
  obtain ⟨ad, c, e, _, hK, hc⟩ := Kd.C_get h z i h0 h1
  exact ⟨ad, c, e, hK, fun j u hu => by rw [add_add]; exact hc j u hu⟩
theorem Kd.atI {k : IntKind} {w : World} {A : Option Addr} {n : Nat} {xs : List Int} (h : (Kd.int k).C w A n xs) {i : Int} (h0 : 0 ≤ i) (h1 : i < n) : ∃ ad, A = some ad ∧ CellsAt w (ad.add (i.toNat * 1)) [.int k (rd xs i)] := by
  obtain ⟨ad, c, e, hK, hc⟩ := Kd.atC h 0 h0 h1
  obtain rfl : c = [.int k (rd xs i)] := hK
  exact ⟨ad, e, hc⟩

/-- a slice's beginning, and its rest -/
theorem Kd.C_take {α : Type} {d : Kd α} {w : World} {A : Option Addr} {n m : Nat} {xs : List α} (h : d.C w A n xs) (hm : m ≤ n) : d.C w A m (xs.take m) := by
  obtain ⟨h1, h2, h3⟩ := h
  refine ⟨by simp [h1, hm], by omega, fun h0 => ?_⟩
  obtain ⟨ad, e, hc⟩ := h3 (by omega)
  refine ⟨ad, e, fun j p hj => hc j p ?_⟩
  rw [List.getElem?_take] at hj
  split at hj
  · exact hj
  · cases hj
theorem Kd.C_drop {α : Type} {d : Kd α} {w : World} {A : Option Addr} {n k cap : Nat} {xs : List α} (h : d.C w A n xs) (hk : k ≤ n) (hc : n ≤ cap) :
    d.C w (if cap = k then A else A.map (·.add (k * d.sz))) (n - k) (xs.drop k) := by
  obtain ⟨h1, h2, h3⟩ := h
  refine ⟨by simp [h1], by omega, fun h0 => ?_⟩
  obtain ⟨ad, rfl, hcell⟩ := h3 (by omega)
  rw [if_neg (by omega)]
  refine ⟨ad.add (k * d.sz), rfl, fun j p hj => ?_⟩
  rw [List.getElem?_drop] at hj
  obtain ⟨c, hc1, hc2, hc3⟩ := hcell (k + j) p hj
  refine ⟨c, hc1, hc2, fun i u hu => ?_⟩
  rw [add_add, ← hc3 i u hu, Nat.add_mul, Nat.add_assoc]

def OkFrom (B : Nat) : Nat → Prop := fun k => B ≤ k
theorem Kd.R_C {α : Type} {d : Kd α} {e : Nat} {w : World} {base : Nat} {ok : Nat → Prop} {A : Option Addr} {n c : Nat} {xs : List α} (h : d.R e w base ok (.slice A n c) xs) : d.C w A n xs := by
  obtain ⟨A', c', he, _, hC⟩ := Kd.R_reads h
  injection he with h1 h2 h3
  subst h1; subst h2
  exact hC
theorem Kd.R_len {α : Type} {d : Kd α} {e : Nat} {w : World} {base : Nat} {ok : Nat → Prop} {A : Option Addr} {n c : Nat} {xs : List α} (h : d.R e w base ok (.slice A n c) xs) : n = xs.length ∧ n ≤ c := by
  obtain ⟨A', c', he, hl, _⟩ := Kd.R_reads h
  injection he with h1 h2 h3
  exact ⟨h2, by omega⟩
/-- two rows whose blocks are of different types -/
theorem Kd.R_apart {α β : Type} {d : Kd α} {d' : Kd β} {e e' : Nat} {w w1 : World} {base base' : Nat} {ok ok' : Nat → Prop} {v : Value} {A : Option Addr} {n c : Nat} {xs : List α} {ys : List β} (h : d.R e w base ok v xs) (h' : d'.R e' w base' ok' (.slice A n c) ys)
    (hne : (e :: d.E).contains e' = false) (hg : w.grownBy w1 (A.map (·.block))) : d.R e w1 base ok v xs := by
  cases A with
  | none => exact Kd.R_grown h hg (fun k _ => by simp)
  | some ad =>
    obtain ⟨inner, ho⟩ := Kd.R_own h'
    obtain ⟨cells, hb⟩ := own_typed ho ad.block rfl
    have h2 := Kd.R_types h hb (fun q hq e => by subst e; rw [List.contains_iff_mem.2 hq] at hne; cases hne)
    exact Kd.R_mono (Kd.R_grown h2 hg (fun k hk e => by simp at e; exact hk.2 e)) (fun _ hk => hk.1)
theorem Kd.M_rowApart {α β : Type} {d : Kd α} {d' : Kd β} {e e' : Nat} {w : World} {base base' : Nat} {v : Value} {A : Option Addr} {n c : Nat} {xs : List α} {ys : List β} {ok' : Nat → Prop} (h : d.R e w base (OkFrom base) v xs) (hb : base' ≤ base)
    (h' : d'.R e' w base' ok' (.slice A n c) ys) (hne : (e :: d.E).contains e' = false) : ∃ okp, (Kd.slice e d).M w base' okp xs [v] ∧ ∀ k, okp k → OkFrom base' k ∧ some k ≠ A.map (·.block) := by
  cases A with
  | none => exact ⟨OkFrom base, Kd.M_row (Kd.R_lower h hb), fun k hk => ⟨Nat.le_trans hb hk, by simp⟩⟩
  | some ad =>
    obtain ⟨inner, ho⟩ := Kd.R_own h'
    obtain ⟨cells, hbl⟩ := own_typed ho ad.block rfl
    have h2 := Kd.R_types h hbl (fun q hq e => by subst e; rw [List.contains_iff_mem.2 hq] at hne; cases hne)
    exact ⟨_, Kd.M_row (Kd.R_lower h2 hb), fun k hk => ⟨Nat.le_trans hb hk.1, fun e => by simp at e; exact hk.2 e⟩⟩
theorem Kd.R_low {α : Type} {d : Kd α} {e : Nat} {w : World} {base base' : Nat} {v : Value} {xs : List α} (h : d.R e w base (OkFrom base) v xs) (hb : base' ≤ base) : d.R e w base' (OkFrom base') v xs := Kd.R_mono (Kd.R_lower h hb) (fun _ hk => Nat.le_trans hb hk)
theorem bgo {a b c : World} {r : Option Nat} {base : Nat} (h : Below a.heap.size a b) (k : b.grownBy c r) (hle : ∀ x, r = some x → base ≤ x) (hB : a.heap.size ≤ base) : Below a.heap.size a c := h.grown k h.size (fun x hx => Nat.le_trans hB (hle x hx))

/-! ### literals -/
theorem reps_flatMap {α : Type} {R : α → List Value → Prop} {size : Nat} (enc : α → List Value) (h1 : ∀ x, (enc x).length = size) (h2 : ∀ x, R x (enc x)) : ∀ xs : List α, Reps R size xs (xs.flatMap enc)
  | [] => Reps.none _ _
  | x :: xs => by
    have hs : Reps R size [x] (enc x) := by
      have := (Reps.none R size).snoc (h2 x) (h1 x)
      simpa using this
    have := Kd.reps_append hs (reps_flatMap enc h1 h2 xs)
    simpa using this
theorem Kd.R_litB {α : Type} (d : Kd α) {W w1 : World} {e : Nat} {cs : Array Value} (xs : List α) (hk : w1.heap[W.heap.size]? = some (.cells cs e (0, 0))) (hrep : Reps (d.M w1 W.heap.size (fun _ => False)) d.sz xs cs.toList) (hl : xs.length ≤ 9223372036854775807) :
    d.R e w1 W.heap.size (OkFrom W.heap.size) (.slice (some ⟨W.heap.size, 0, none⟩) xs.length xs.length) xs := by
  refine ⟨fun k hk => ?_, cs.toList, ⟨hrep.1, .inr ⟨W.heap.size, xs.length, cs, rfl, Nat.le_refl _, hk, Nat.le_refl _, by simpa [maxLen] using hl, by simpa using hrep.1, List.take_of_length_le (by rw [hrep.1]; exact Nat.le_refl _)⟩⟩, hrep.1, fun j p hj => d.M_mono (fun _ h => h.elim) (hrep.2 j p hj)⟩
  have : W.heap.size = k := by simpa [Value.ownBlock] using hk
  subst this
  exact Nat.le_refl _
/-! ### made -/
theorem ownB {A : Option Addr} {n c : Nat} : (Value.slice A n c).ownBlock = A.map (·.block) := by cases A <;> rfl

section
variable {P : Program} {N : Nat} {ops : Array Oper} {qs : QS} {rest : List Oper} {o : Oper} {l : Slots} {α : Type}

/-- append(s, x), s a slice of the call's own -/
theorem XL_append (d : Kd α) {W : World} {s x : Operand} {t : TypeId} (ho : o.op = .call { callee := .builtin .append, args := #[s, x], argTypes := #[t, t] }) (hg : gd ops l o = some true) (hd : okD N o.dst = true) (base e : Nat) (z : Value) (bytes : Nat)
    (ht : P.underlying t = some (.slice e)) (hinfo : (P.info? e).map (fun i => (i.zero, i.size, i.bytes)) = some (some z, d.sz, bytes)) (hz : z.cells.size = d.sz) (hs0 : 0 < d.sz) (hb0 : 0 < bytes)
    {A : Option Addr} {n c : Nat} (xs : List α) (p : α) (cs : List Value) (okp : Nat → Prop) (hv : evs l [s, x] = some [.slice A n c, .slice (some ⟨W.heap.size, 0, none⟩) 1 1]) (hp : d.M W base okp p cs) (hokp : ∀ k, okp k → OkFrom base k ∧ some k ≠ A.map (·.block))
    (HO : d.R e W base (OkFrom base) (.slice A n c) xs) (hbase : base ≤ W.heap.size) (hl : (xs.length + 1) * bytes ≤ 140737488355328)
    (hn : ∀ A1 c1 w1, d.R e w1 base (OkFrom base) (.slice A1 (xs ++ [p]).length c1) (xs ++ [p]) → (xs ++ [p]).length ≤ c1 → W.grownBy w1 (A.map (·.block)) → (∀ k, A.map (·.block) = some k → base ≤ k) → (A1.map (·.block) = A.map (·.block) ∨ ∃ b, A1.map (·.block) = some b ∧ W.heap.size ≤ b) →
      XL P N ops rest qs (putS l o.dst (.slice A1 (xs ++ [p]).length c1)) w1) : XL P N ops (o :: rest) qs l (W.alloc (.cells cs.toArray e)) := by
  refine XL_law hd hg fun a ha => ?_
  have he := evs_ok ha _ _ hv
  simp only [List.map_cons, List.map_nil, List.cons.injEq, and_true] at he
  refine Kd.R_append (o := { o with guard := none }) d (w0 := W) base rfl s x t e z bytes ho ht hinfo hz hs0 hb0 _ xs p cs (OkFrom base) okp he.1 he.2 hp (by rw [ownB]; exact hokp) (fun k hk => Nat.le_trans hbase hk) HO (Below.refl _ _) hbase hl ?_
  intro v1 w1 hR hB hgr hat
  obtain ⟨A1, c1, rfl, hc, _⟩ := Kd.R_reads hR
  rw [ownB] at hgr hat
  rw [ownB] at hat
  exact hn A1 c1 w1 hR hc hgr (fun k hk => HO.1 k (by rw [ownB]; exact hk)) hat _ (ha.putS hd _)

/-- append(s, ys...) -/
theorem XL_appendAll (d : Kd α) {W : World} {s x : Operand} {t : TypeId} (ho : o.op = .call { callee := .builtin .append, args := #[s, x], argTypes := #[t, t] }) (hg : gd ops l o = some true) (hd : okD N o.dst = true) (base e : Nat) (z : Value) (bytes : Nat)
    (ht : P.underlying t = some (.slice e)) (hinfo : (P.info? e).map (fun i => (i.zero, i.size, i.bytes)) = some (some z, d.sz, bytes)) (hz : z.cells.size = d.sz) (hs0 : 0 < d.sz) (hb0 : 0 < bytes)
    {A A' : Option Addr} {n c m c' : Nat} (xs ys : List α) (hv : evs l [s, x] = some [.slice A n c, .slice A' m c'])
    (HO : d.R e W base (OkFrom base) (.slice A n c) xs) (HC : d.C W A' m ys) (hKM : ∀ x cs, d.K W x cs → d.M W base (fun _ => False) x cs) (hbase : base ≤ W.heap.size) (hl : (xs.length + m) * bytes ≤ 140737488355328)
    (hn : ∀ A1 c1 w1, d.R e w1 base (OkFrom base) (.slice A1 (xs ++ ys).length c1) (xs ++ ys) → (xs ++ ys).length ≤ c1 → W.grownBy w1 (A.map (·.block)) → (∀ k, A.map (·.block) = some k → base ≤ k) → (A1.map (·.block) = A.map (·.block) ∨ ∃ b, A1.map (·.block) = some b ∧ W.heap.size ≤ b) →
      XL P N ops rest qs (putS l o.dst (.slice A1 (xs ++ ys).length c1)) w1) : XL P N ops (o :: rest) qs l W := by
  refine XL_law hd hg fun a ha => ?_
  have he := evs_ok ha _ _ hv
  simp only [List.map_cons, List.map_nil, List.cons.injEq, and_true] at he
  refine Kd.R_append_rows (o := { o with guard := none }) d (w0 := W) base rfl s x t e z bytes ho ht hinfo hz hs0 hb0 _ xs ys A' m c' (OkFrom base) (fun _ => False) he.1 he.2 HO HC hKM (fun _ h => h.elim) (fun k hk => Nat.le_trans hbase hk) (Below.refl _ _) hbase hl ?_
  intro v1 w1 hR hB hgr hat
  obtain ⟨A1, c1, rfl, hc, _⟩ := Kd.R_reads hR
  rw [ownB] at hgr hat
  rw [ownB] at hat
  exact hn A1 c1 w1 hR hc hgr (fun k hk => HO.1 k (by rw [ownB]; exact hk)) hat _ (ha.putS hd _)

end
end Go.Proofs.YtgphmfnkeolbcaaDoor.RX
/- Cells that function values have captured, and rows beside them. No condition. -/

set_option linter.unusedVariables false
set_option linter.unusedSimpArgs false
namespace Go.Proofs.YtgphmfnkeolbcaaDoor.RX
open Go Go.RowKit Go.Proofs.YtgphmfnkeolbcaaDoorW.PrintWords
theorem grown_at {w w1 : World} {r : Option Nat} (k : w.grownBy w1 r) {g : Nat} (hg : g < w.heap.size) (hne : ∀ x, r = some x → g ≠ x) : w1.heap[g]? = w.heap[g]? := by
  obtain ⟨_, _, _, _, h⟩ := k
  exact h g hg (fun e => hne g e.symm rfl)
theorem Blk.own {w w1 : World} {g : Nat} {t : TypeId} {cs : Array Value} {r : Option Nat} {base : Nat} (h : Blk w g t cs) (k : w.grownBy w1 r) (hle : ∀ x, r = some x → base ≤ x) (hg : g < base) : Blk w1 g t cs :=
  (grown_at k h.lt fun x hx e => by have := hle x hx; omega).trans h
theorem Blk.other {w w1 : World} {g g' : Nat} {t : TypeId} {cs : Array Value} (h : Blk w g t cs) (k : w.grownBy w1 (some g')) (hne : g ≠ g') : Blk w1 g t cs :=
  (grown_at k h.lt fun x hx e => by injection hx with hx; omega).trans h
theorem Kd.R_past {α : Type} {d : Kd α} {e : Nat} {w w1 : World} {base g : Nat} {v : Value} {xs : List α} (h : d.R e w base (OkFrom base) v xs) (k : w.grownBy w1 (some g)) (hg : g < base) : d.R e w1 base (OkFrom base) v xs :=
  Kd.R_step h fun j hj hlt => grown_at k hlt fun x hx e => by injection hx with hx; subst hx; subst e; have : base ≤ j := hj; omega
end Go.Proofs.YtgphmfnkeolbcaaDoor.RX
/- Rows and blocks that lie apart. No condition. -/

set_option linter.unusedVariables false
set_option linter.unusedSimpArgs false
namespace Go.Proofs.YtgphmfnkeolbcaaDoor.RX
open Go Go.RowKit Go.Proofs.YtgphmfnkeolbcaaDoorW.PrintWords
section
variable {α : Type} {d : Kd α} {e : Nat} {w w1 W : World} {base : Nat} {ok : Nat → Prop} {A A1 B : Option Addr} {n c m c' : Nat} {xs ys : List α} {g : Nat}
theorem Kd.R_lt (h : d.R e w base ok (.slice A n c) xs) : ∀ k, A.map (·.block) = some k → k < w.heap.size := by
  obtain ⟨inner, ho⟩ := Kd.R_own h
  intro k hk
  exact own_lt ho k (by rw [ownB]; exact hk)
theorem Kd.R_ge (h : d.R e w base ok (.slice A n c) xs) : ∀ k, A.map (·.block) = some k → base ≤ k := by
  obtain ⟨inner, ho⟩ := Kd.R_own h
  intro k hk
  exact own_base ho k (by rw [ownB]; exact hk)
theorem Blk.ne {t : TypeId} {cs : Array Value} (h : Blk w g t cs) {r : Option Nat} (k : w.grownBy w1 r) (hne : ∀ k, r = some k → k ≠ g) : Blk w1 g t cs :=
  (grown_at k h.lt fun x hx e => hne x hx e.symm).trans h
/-- a flat row stays, when another is written -/
theorem Kd.R_flat (hE : d.E = []) (h : d.R e w base ok (.slice B m c') ys) {r : Option Nat} (k : w.grownBy w1 r) (hne : ∀ k, r = some k → B.map (·.block) ≠ some k) : d.R e w1 base ok (.slice B m c') ys := by
  obtain ⟨h0, inner, ho, hr⟩ := h
  have h2 : d.R e w base (fun k => ok k ∧ r ≠ some k) (.slice B m c') ys := by
    refine ⟨fun k hk => ⟨h0 k hk, fun e => hne k e (by rw [ownB] at hk; exact hk)⟩, inner, ho, hr.imp_ (fun _ _ hp => d.M_mono (fun k hk => ?_) (d.M_bound hp))⟩
    obtain ⟨_, _, _, q, hq, _⟩ := hk
    rw [hE] at hq
    cases hq
  exact Kd.R_mono (Kd.R_grown h2 k (fun k hk e => hk.2 e.symm)) (fun k hk => hk.1)
theorem Kd.R_down {base' : Nat} {v : Value} (h : d.R e w base (OkFrom base) v xs) (hb : base' ≤ base) : d.R e w base' (OkFrom base') v xs :=
  Kd.R_mono (Kd.R_lower h hb) (fun k hk => Nat.le_trans hb hk)
end
end Go.Proofs.YtgphmfnkeolbcaaDoor.RX
/- Kinds of elements: renamed, boxed in an interface, of two sorts. No condition. -/

set_option linter.unusedVariables false
set_option linter.unusedSimpArgs false
namespace Go.Proofs.YtgphmfnkeolbcaaDoor.RX
open Go Go.RowKit Go.Proofs.YtgphmfnkeolbcaaDoorW.PrintWords

def Kd.comap {α β : Type} (f : β → α) (d : Kd α) : Kd β where
  sz := d.sz
  E := d.E
  K := fun w x cs => d.K w (f x) cs
  M := fun w b ok x cs => d.M w b ok (f x) cs
  K_len := fun h => d.K_len h
  K_one := fun h => d.K_one h
  K_below := fun hb h => d.K_below hb h
  K_of_M := fun h => d.K_of_M h
  M_mono := fun hk h => d.M_mono hk h
  M_bound := fun h => d.M_bound h
  M_move := fun hm h => d.M_move hm h
  M_lower := fun hb h => d.M_lower hb h
def Kd.boxed {α : Type} (T : Nat) (d : Kd α) : Kd α where
  sz := 1
  E := d.E
  K := fun w x cs => ∃ c, d.K w x c ∧ cs = [.iface T (.agg c.toArray)]
  M := fun w b ok x cs => ∃ c, d.M w b ok x c ∧ cs = [.iface T (.agg c.toArray)]
  K_len := fun h => by obtain ⟨c, _, rfl⟩ := h; rfl
  K_one := fun h u hu => by
    obtain ⟨c, _, rfl⟩ := h
    rw [List.mem_singleton.1 hu]
    rfl
  K_below := fun hb h => by obtain ⟨c, h, e⟩ := h; exact ⟨c, d.K_below hb h, e⟩
  K_of_M := fun h => by obtain ⟨c, h, e⟩ := h; exact ⟨c, d.K_of_M h, e⟩
  M_mono := fun hk h => by obtain ⟨c, h, e⟩ := h; exact ⟨c, d.M_mono hk h, e⟩
  M_bound := fun h => by obtain ⟨c, h, e⟩ := h; exact ⟨c, d.M_bound h, e⟩
  M_move := fun hm h => by obtain ⟨c, h, e⟩ := h; exact ⟨c, d.M_move hm h, e⟩
  M_lower := fun hb h => by obtain ⟨c, h, e⟩ := h; exact ⟨c, d.M_lower hb h, e⟩
def Kd.sum {α β : Type} (a : Kd α) (b : Kd β) (hs : b.sz = a.sz) : Kd (α ⊕ β) where
  sz := a.sz
  E := a.E ++ b.E
  K := fun w x cs => match x with
    | .inl x => a.K w x cs
    | .inr y => b.K w y cs
  M := fun w bs ok x cs => match x with
    | .inl x => a.M w bs ok x cs
    | .inr y => b.M w bs ok y cs
  K_len := fun {w x cs} h => by
    cases x with
    | inl x => exact a.K_len h
    | inr y => exact (b.K_len h).trans hs
  K_one := fun {w x cs} h => by
    cases x with
    | inl x => exact a.K_one h
    | inr y => exact b.K_one h
  K_below := fun {w w1 x cs} hb h => by
    cases x with
    | inl x => exact a.K_below hb h
    | inr y => exact b.K_below hb h
  K_of_M := fun {w bs ok x cs} h => by
    cases x with
    | inl x => exact a.K_of_M h
    | inr y => exact b.K_of_M h
  M_mono := fun {w bs ok ok' x cs} hk h => by
    cases x with
    | inl x => exact a.M_mono hk h
    | inr y => exact b.M_mono hk h
  M_bound := fun {w bs ok x cs} h => by
    cases x with
    | inl x => exact a.M_mono (fun k ⟨h1, h2, h3, q, hq, hc⟩ => ⟨h1, h2, h3, q, List.mem_append_left _ hq, hc⟩) (a.M_bound h)
    | inr y => exact b.M_mono (fun k ⟨h1, h2, h3, q, hq, hc⟩ => ⟨h1, h2, h3, q, List.mem_append_right _ hq, hc⟩) (b.M_bound h)
  M_move := fun {w w1 bs ok x cs} hm h => by
    cases x with
    | inl x => exact a.M_move hm h
    | inr y => exact b.M_move hm h
  M_lower := fun {w bs bs' ok x cs} hb h => by
    cases x with
    | inl x => exact a.M_lower hb h
    | inr y => exact b.M_lower hb h
end Go.Proofs.YtgphmfnkeolbcaaDoor.RX
/- Attributes as slices' elements: key, kind, number, text. No condition. -/

set_option linter.unusedVariables false
set_option linter.unusedSimpArgs false
namespace Go.Proofs.YtgphmfnkeolbcaaDoor.RX
open Go Go.RowKit Go.Proofs.YtgphmfnkeolbcaaDoorW.PrintWords

abbrev At := ByteArray × Int × Int × ByteArray
def at0 : At := (ByteArray.empty, 0, 0, ByteArray.empty)
def atV (x : At) : List Value := [.string x.1, .int .i64 x.2.1, .int .i64 x.2.2.1, .string x.2.2.2]
def kAttr : Kd At := Kd.pair Kd.string (Kd.pair (Kd.int .i64) (Kd.pair (Kd.int .i64) Kd.string))
theorem kAttr_K {w : World} {x : At} {c : List Value} (h : kAttr.K w x c) : c = atV x := by
  obtain ⟨_, _, rfl, rfl, _, _, rfl, rfl, _, _, rfl, rfl, rfl⟩ := h
  rfl
theorem kAttr_M (w : World) (base : Nat) (ok : Nat → Prop) (x : At) : kAttr.M w base ok x (atV x) := ⟨[.string x.1], _, rfl, rfl, [.int .i64 x.2.1], _, rfl, rfl, [.int .i64 x.2.2.1], [.string x.2.2.2], rfl, rfl, rfl⟩
theorem kAttr_KM {w : World} {base : Nat} {ok : Nat → Prop} (x : At) (cs : List Value) (h : kAttr.K w x cs) : kAttr.M w base ok x cs := by rw [kAttr_K h]; exact kAttr_M _ _ _ _
theorem Kd.atAttr {w : World} {A : Option Addr} {n : Nat} {xs : List At} (h : kAttr.C w A n xs) {i : Int} (h0 : 0 ≤ i) (h1 : i < n) : ∃ ad, A = some ad ∧ CellsAt w (ad.add (i.toNat * 4)) (atV (xs.getD i.toNat at0)) := by
  obtain ⟨ad, c, e, hK, hc⟩ := Kd.atC h at0 h0 h1
  obtain rfl := kAttr_K hK
  exact ⟨ad, e, hc⟩
theorem repsAttr {w : World} {base : Nat} {ok : Nat → Prop} (xs : List At) : Reps (kAttr.M w base ok) 4 xs (xs.flatMap atV) := reps_flatMap (R := kAttr.M w base ok) (size := 4) atV (fun _ => rfl) (fun x => kAttr_M _ _ _ x) xs
end Go.Proofs.YtgphmfnkeolbcaaDoor.RX
