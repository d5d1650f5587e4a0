import Derived.Test.YtgphmfnkeolbcaaDoorAt
/- Operations and pieces as elements and as arguments. No condition. -/
set_option linter.unusedVariables false
set_option linter.unusedSimpArgs false
set_option maxRecDepth 100000
namespace Go.Proofs.YtgphmfnkeolbcaaDoor.RX
open Go Go.RowKit Go.Proofs.YtgphmfnkeolbcaaDoorW.PrintWords

structure OpA where
  kind : Int
  text : ByteArray
  vk : Int
  vn : Int
  vt : ByteArray
  count : Int
  attrs : List At
def op0 : OpA := ⟨0, ByteArray.empty, 0, 0, ByteArray.empty, 0, []⟩
/-- an operation's cells -/
abbrev o7L (x : OpA) (v : Value) : List Value := [.int .i64 x.kind, .string x.text, .int .i64 x.vk, .int .i64 x.vn, .string x.vt, .int .i64 x.count, v]
abbrev o7A (x : OpA) (v : Value) : Array Value := #[.int .i64 x.kind, .string x.text, .int .i64 x.vk, .int .i64 x.vn, .string x.vt, .int .i64 x.count, v]
def OpA.tup (o : OpA) : Int × ByteArray × (Int × Int × ByteArray) × Int × List At := (o.kind, o.text, (o.vk, o.vn, o.vt), o.count, o.attrs)
def OpA.val (o : OpA) : Int × Int × ByteArray := (o.vk, o.vn, o.vt)
abbrev kAttrs : Kd (List At) := Kd.slice 93 kAttr
def kOp : Kd OpA := Kd.comap OpA.tup (Kd.pair (Kd.int .i64) (Kd.pair Kd.string (Kd.pair (Kd.pair (Kd.int .i64) (Kd.pair (Kd.int .i64) Kd.string)) (Kd.pair (Kd.int .i64) kAttrs))))
def opV (x : OpA) (A : Option Addr) (c : Nat) : List Value := [.int .i64 x.kind, .string x.text, .int .i64 x.vk, .int .i64 x.vn, .string x.vt, .int .i64 x.count, .slice A x.attrs.length c]
theorem kOp_K {w : World} {x : OpA} {cs : List Value} (h : kOp.K w x cs) : ∃ A c, cs = opV x A c ∧ x.attrs.length ≤ c ∧ kAttr.C w A x.attrs.length x.attrs := by
  obtain ⟨_, _, rfl, rfl, _, _, rfl, rfl, _, _, rfl, ⟨_, _, rfl, rfl, _, _, rfl, rfl, rfl⟩, _, _, rfl, rfl, A, c, rfl, hl, hC⟩ := h
  exact ⟨A, c, rfl, hl, hC⟩
theorem kOp_K_of {w : World} {x : OpA} {A : Option Addr} {c : Nat} (hl : x.attrs.length ≤ c) (hC : kAttr.C w A x.attrs.length x.attrs) : kOp.K w x (opV x A c) :=
  ⟨[.int .i64 x.kind], _, rfl, rfl, [.string x.text], _, rfl, rfl, [.int .i64 x.vk, .int .i64 x.vn, .string x.vt], _, rfl, ⟨[.int .i64 x.vk], _, rfl, rfl, [.int .i64 x.vn], _, rfl, rfl, rfl⟩, [.int .i64 x.count], _, rfl, rfl, A, c, rfl, hl, hC⟩
theorem Kd.atOp {w : World} {A : Option Addr} {n : Nat} {xs : List OpA} (h : kOp.C w A n xs) {i : Int} (h0 : 0 ≤ i) (h1 : i < n) : ∃ ad B c, A = some ad ∧ CellsAt w (ad.add (i.toNat * 7)) (opV (xs.getD i.toNat op0) B c) ∧ (xs.getD i.toNat op0).attrs.length ≤ c ∧ kAttr.C w B (xs.getD i.toNat op0).attrs.length (xs.getD i.toNat op0).attrs := by
  obtain ⟨ad, cs, e, hK, hc⟩ := Kd.atC h op0 h0 h1
  obtain ⟨B, c, rfl, hl, hC⟩ := kOp_K hK
  exact ⟨ad, B, c, e, hc, hl, hC⟩
theorem kOp_M {w : World} {base : Nat} {ok : Nat → Prop} {x : OpA} {B : Option Addr} {c : Nat} (h : kAttrs.M w base ok x.attrs [.slice B x.attrs.length c]) : kOp.M w base ok x (opV x B c) :=
  ⟨[.int .i64 x.kind], _, rfl, rfl, [.string x.text], _, rfl, rfl, [.int .i64 x.vk, .int .i64 x.vn, .string x.vt], _, rfl, ⟨[.int .i64 x.vk], _, rfl, rfl, [.int .i64 x.vn], _, rfl, rfl, rfl⟩, [.int .i64 x.count], _, rfl, rfl, h⟩
theorem kAttrs_nil {w : World} {base : Nat} {ok : Nat → Prop} : kAttrs.M w base ok [] [.slice none 0 0] := ⟨_, rfl, Kd.R_nil _ _ _ _ _⟩

/-! ### values of the interface -/
def valV (v : Int × Int × ByteArray) : Value :=
  if v.1 = 1 then .iface 158 (.bool (decide (v.2.1 = 1))) else if v.1 = 2 then .iface 159 (.int .i64 v.2.1) else if v.1 = 3 then .iface 160 (.string v.2.2) else .iface 162 (.agg #[])
def kVal : Kd (Int × Int × ByteArray) := Kd.scalar valV (fun v => by unfold valV; repeat (first | rfl | split))

/-! ### pieces -/
inductive PieceA where
  | ins (attrs : List At) (text : ByteArray) (len : Int)
  | emb (attrs : List At) (kind : ByteArray) (v : Int × Int × ByteArray)
  | ret (attrs : List At) (count : Int)
  | del (count : Int)
def piece0 : PieceA := .del 0
def PieceA.sum : PieceA → (List At × ByteArray × Int) ⊕ (List At × ByteArray × (Int × Int × ByteArray)) ⊕ (List At × Int) ⊕ Int
  | .ins a t n => .inl (a, t, n)
  | .emb a k v => .inr (.inl (a, k, v))
  | .ret a c => .inr (.inr (.inl (a, c)))
  | .del c => .inr (.inr (.inr c))
def kPiece : Kd PieceA := Kd.comap PieceA.sum (Kd.sum (Kd.boxed 139 (Kd.pair kAttrs (Kd.pair Kd.string (Kd.int .i64)))) (Kd.sum (Kd.boxed 143 (Kd.pair kAttrs (Kd.pair Kd.string kVal))) (Kd.sum (Kd.boxed 101 (Kd.pair kAttrs (Kd.int .i64))) (Kd.boxed 103 (Kd.int .i64)) rfl) rfl) rfl)
theorem kPiece_ins {w : World} {a : List At} {t : ByteArray} {n : Int} {cs : List Value} (h : kPiece.K w (.ins a t n) cs) : ∃ A c, cs = [.iface 139 (.agg #[.slice A a.length c, .string t, .int .i64 n])] ∧ a.length ≤ c ∧ kAttr.C w A a.length a := by
  obtain ⟨_, ⟨_, _, rfl, ⟨A, c, rfl, hl, hC⟩, _, _, rfl, rfl, rfl⟩, rfl⟩ := h
  exact ⟨A, c, rfl, hl, hC⟩
theorem kPiece_emb {w : World} {a : List At} {k : ByteArray} {v : Int × Int × ByteArray} {cs : List Value} (h : kPiece.K w (.emb a k v) cs) : ∃ A c, cs = [.iface 143 (.agg #[.slice A a.length c, .string k, valV v])] ∧ a.length ≤ c ∧ kAttr.C w A a.length a := by
  obtain ⟨_, ⟨_, _, rfl, ⟨A, c, rfl, hl, hC⟩, _, _, rfl, rfl, rfl⟩, rfl⟩ := h
  exact ⟨A, c, rfl, hl, hC⟩
theorem kPiece_ret {w : World} {a : List At} {n : Int} {cs : List Value} (h : kPiece.K w (.ret a n) cs) : ∃ A c, cs = [.iface 101 (.agg #[.slice A a.length c, .int .i64 n])] ∧ a.length ≤ c ∧ kAttr.C w A a.length a := by
  obtain ⟨_, ⟨_, _, rfl, ⟨A, c, rfl, hl, hC⟩, rfl⟩, rfl⟩ := h
  exact ⟨A, c, rfl, hl, hC⟩
theorem kPiece_del {w : World} {n : Int} {cs : List Value} (h : kPiece.K w (.del n) cs) : cs = [.iface 103 (.agg #[.int .i64 n])] := by
  obtain ⟨_, rfl, rfl⟩ := h
  rfl
theorem kPiece_Mins {w : World} {base : Nat} {ok : Nat → Prop} {a : List At} {t : ByteArray} {n : Int} {B : Option Addr} {c : Nat} (h : kAttrs.M w base ok a [.slice B a.length c]) : kPiece.M w base ok (.ins a t n) [.iface 139 (.agg #[.slice B a.length c, .string t, .int .i64 n])] :=
  ⟨_, ⟨_, _, rfl, h, [.string t], _, rfl, rfl, rfl⟩, rfl⟩
theorem kPiece_Memb {w : World} {base : Nat} {ok : Nat → Prop} {a : List At} {k : ByteArray} {v : Int × Int × ByteArray} {B : Option Addr} {c : Nat} (h : kAttrs.M w base ok a [.slice B a.length c]) : kPiece.M w base ok (.emb a k v) [.iface 143 (.agg #[.slice B a.length c, .string k, valV v])] :=
  ⟨_, ⟨_, _, rfl, h, [.string k], _, rfl, rfl, rfl⟩, rfl⟩
theorem kPiece_Mret {w : World} {base : Nat} {ok : Nat → Prop} {a : List At} {n : Int} {B : Option Addr} {c : Nat} (h : kAttrs.M w base ok a [.slice B a.length c]) : kPiece.M w base ok (.ret a n) [.iface 101 (.agg #[.slice B a.length c, .int .i64 n])] :=
  ⟨_, ⟨_, _, rfl, h, rfl⟩, rfl⟩
theorem kPiece_Mdel {w : World} {base : Nat} {ok : Nat → Prop} {n : Int} : kPiece.M w base ok (.del n) [.iface 103 (.agg #[.int .i64 n])] := ⟨_, rfl, rfl⟩
theorem Kd.atPiece {w : World} {A : Option Addr} {n : Nat} {xs : List PieceA} (h : kPiece.C w A n xs) {i : Int} (h0 : 0 ≤ i) (h1 : i < n) : ∃ ad v, A = some ad ∧ CellsAt w (ad.add (i.toNat * 1)) [v] ∧ kPiece.K w (xs.getD i.toNat piece0) [v] := by
  obtain ⟨ad, cs, e, hK, hc⟩ := Kd.atC h piece0 h0 h1
  have hl := kPiece.K_len hK
  match cs, hl with
  | [v], _ => exact ⟨ad, v, e, hc, hK⟩
end Go.Proofs.YtgphmfnkeolbcaaDoor.RX
/- Elements with memory of their own beside a row; rows of operations that share their attributes' memory. No condition. -/

set_option linter.unusedVariables false
set_option linter.unusedSimpArgs false
set_option maxRecDepth 100000
namespace Go.Proofs.YtgphmfnkeolbcaaDoor.RX
open Go Go.RowKit Go.Proofs.YtgphmfnkeolbcaaDoorW.PrintWords

theorem Kd.M_apart {α β : Type} {d : Kd α} {d' : Kd β} {e' : Nat} {w : World} {base base' : Nat} {x : α} {cs : List Value} {A : Option Addr} {n c : Nat} {ys : List β} {ok' : Nat → Prop} (h : d.M w base (OkFrom base) x cs) (hb : base' ≤ base)
    (h' : d'.R e' w base' ok' (.slice A n c) ys) (hne : d.E.contains e' = false) : ∃ okp, d.M w base' okp x cs ∧ ∀ k, okp k → OkFrom base' k ∧ some k ≠ A.map (·.block) := by
  cases A with
  | none => exact ⟨OkFrom base, d.M_lower hb h, fun k hk => ⟨Nat.le_trans hb hk, by simp⟩⟩
  | some ad =>
    obtain ⟨inner, ho⟩ := Kd.R_own h'
    obtain ⟨cells, hbl⟩ := own_typed ho ad.block rfl
    refine ⟨_, d.M_lower hb (d.M_bound h), fun k hk => ⟨Nat.le_trans hb hk.1, fun e => ?_⟩⟩
    obtain ⟨_, _, _, q, hq, cs', hc⟩ := hk
    obtain rfl : k = ad.block := by simpa using e
    rw [hbl] at hc
    injection hc with hc
    injection hc with _ hq' _
    subst hq'
    rw [List.contains_iff_mem.2 hq] at hne
    cases hne
theorem kOp_M0 {w : World} {base : Nat} {ok : Nat → Prop} (x : OpA) (h : x.attrs = []) : kOp.M w base ok x (opV x none 0) := by
  obtain ⟨k, t, a, b, s, c, at9⟩ := x
  obtain rfl : at9 = [] := h
  exact kOp_M kAttrs_nil
theorem repsOp0 {w : World} {base : Nat} {ok : Nat → Prop} : ∀ (xs : List OpA), (∀ x ∈ xs, x.attrs = []) → Reps (kOp.M w base ok) 7 xs (xs.flatMap fun x => opV x none 0)
  | [], _ => Reps.none _ _
  | x :: xs, h => by
    have hs : Reps (kOp.M w base ok) 7 [x] (opV x none 0) := by
      have := (Reps.none (kOp.M w base ok) 7).snoc (kOp_M0 x (h x List.mem_cons_self)) rfl
      simpa using this
    have := Kd.reps_append hs (repsOp0 xs fun y hy => h y (List.mem_cons_of_mem _ hy))
    simpa using this

/-- cells as they are -/
def kRaw (n : Nat) : Kd (List Value) where
  sz := n
  E := []
  K := fun _ x cs => cs = x ∧ x.length = n ∧ ∀ u ∈ x, u.oneCell' = true
  M := fun _ _ _ x cs => cs = x ∧ x.length = n ∧ ∀ u ∈ x, u.oneCell' = true
  K_len := fun h => by rw [h.1]; exact h.2.1
  K_one := fun h => by rw [h.1]; exact h.2.2
  K_below := fun _ h => h
  K_of_M := fun h => h
  M_mono := fun _ h => h
  M_bound := fun h => h
  M_move := fun _ h => h
  M_lower := fun _ h => h
theorem Kd.C_raw {α : Type} {d : Kd α} (z : α) {w : World} {A : Option Addr} {n : Nat} {xs : List α} (h : d.C w A n xs) : ∃ vs, (kRaw d.sz).C w A n vs ∧ ∀ i, i < n → d.K w (xs.getD i z) (vs.getD i []) := by
  obtain ⟨h1, h2, h3⟩ := h
  by_cases h0 : n = 0
  · subst h0
    exact ⟨[], ⟨rfl, h2, fun h => by omega⟩, fun i hi => by omega⟩
  · obtain ⟨ad, e, hc⟩ := h3 (by omega)
    have each : ∀ i : Fin n, ∃ c : List Value, c.length = d.sz ∧ d.K w (xs.getD i.1 z) c ∧ ∀ j u, c[j]? = some u → w.cell? (ad.add (i.1 * d.sz + j)) = some u := by
      intro i
      have hi : i.1 < xs.length := by have := i.2; omega
      obtain ⟨c, a, b, e⟩ := hc i.1 _ (List.getElem?_eq_getElem hi)
      exact ⟨c, a, by rw [List.getD_eq_getElem?_getD, List.getElem?_eq_getElem hi]; exact b, e⟩
    obtain ⟨f, hf⟩ := Classical.axiomOfChoice each
    refine ⟨List.ofFn f, ⟨by simp, h2, fun _ => ⟨ad, e, fun j p hj => ?_⟩⟩, fun i hi => ?_⟩
    · rw [List.getElem?_ofFn] at hj
      split at hj
      · rename_i hlt
        injection hj with hj
        subst hj
        obtain ⟨a, b, c⟩ := hf ⟨j, hlt⟩
        exact ⟨_, a, ⟨rfl, a, d.K_one b⟩, c⟩
      · cases hj
    · have e2 : (List.ofFn f).getD i [] = f ⟨i, hi⟩ := by
        rw [List.getD_eq_getElem?_getD, List.getElem?_ofFn, dif_pos hi]; rfl
      rw [e2]
      exact (hf ⟨i, hi⟩).2.1
theorem Kd.C_ofRaw {α : Type} {d : Kd α} (z : α) {w : World} {A : Option Addr} {n : Nat} {xs : List α} {vs : List (List Value)} (h : (kRaw d.sz).C w A n vs) (hl : xs.length = n) (hK : ∀ i, i < n → d.K w (xs.getD i z) (vs.getD i [])) : d.C w A n xs := by
  obtain ⟨h1, h2, h3⟩ := h
  refine ⟨hl, h2, fun h0 => ?_⟩
  obtain ⟨ad, e, hc⟩ := h3 h0
  refine ⟨ad, e, fun j p hj => ?_⟩
  have hj1 := (List.getElem?_eq_some_iff.1 hj).1
  have hj2 : j < vs.length := by omega
  obtain ⟨c, a, b, cc⟩ := hc j _ (List.getElem?_eq_getElem hj2)
  have hk := hK j (by omega)
  rw [List.getD_eq_getElem?_getD, hj, List.getD_eq_getElem?_getD, List.getElem?_eq_getElem hj2] at hk
  obtain ⟨rfl, _⟩ := b
  exact ⟨_, a, hk, cc⟩

/-- a row of the call's own, whose elements' memory is its own too, or lay there from W0 on -/
def Mix {α : Type} (d : Kd α) (z : α) (e : Nat) (W0 w : World) (A : Option Addr) (n c : Nat) (xs : List α) : Prop :=
  ∃ vs, (kRaw d.sz).R e w W0.heap.size (OkFrom W0.heap.size) (.slice A n c) vs ∧ vs.length = xs.length ∧
    ∀ i, i < xs.length → d.M w W0.heap.size (fun k => OkFrom W0.heap.size k ∧ some k ≠ A.map (·.block)) (xs.getD i z) (vs.getD i []) ∨ d.K W0 (xs.getD i z) (vs.getD i [])
section
variable {α : Type} {d : Kd α} {z : α} {e : Nat} {W0 W w w1 : World} {A A' : Option Addr} {n c m c' : Nat} {xs ys : List α}
theorem Mix.len (h : Mix d z e W0 w A n c xs) : n = xs.length ∧ n ≤ c := by
  obtain ⟨vs, hR, hl, _⟩ := h
  obtain ⟨h1, h2⟩ := Kd.R_len hR
  exact ⟨by omega, h2⟩
theorem Mix.C (hB : Below W0.heap.size W0 w) (h : Mix d z e W0 w A n c xs) : d.C w A n xs := by
  obtain ⟨h1, h2⟩ := h.len
  obtain ⟨vs, hR, hl, hK⟩ := h
  refine Kd.C_ofRaw z (Kd.R_C hR) h1.symm fun i hi => ?_
  rcases hK i (by omega) with h | h
  · exact d.K_of_M h
  · exact d.K_below hB h
theorem Mix.below (hb : Below w.heap.size w w1) (h : Mix d z e W0 w A n c xs) : Mix d z e W0 w1 A n c xs := by
  obtain ⟨vs, hR, hl, hK⟩ := h
  refine ⟨vs, Kd.R_below hR hb, hl, fun i hi => ?_⟩
  rcases hK i hi with h | h
  · exact .inl (Kd.M_below h hb)
  · exact .inr h
end
end Go.Proofs.YtgphmfnkeolbcaaDoor.RX
