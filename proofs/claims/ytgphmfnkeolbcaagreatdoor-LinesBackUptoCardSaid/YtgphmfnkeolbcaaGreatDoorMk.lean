import Derived.Test.YtgphmfnkeolbcaaGreatDoorSpare
import Derived.Laws.Strings
import Derived.Laws.Strings3
import Derived.Laws.DeepStrings4
import Derived.Laws.BytesArg
import Derived.Laws.Cover4
import Derived.Laws.IdiomStrings
import Derived.Lib.OthersKept
import Derived.Laws.RangeString
import Derived.Laws.Entries
import Derived.Laws.Concat
import Derived.Stop.Asserts
/- Rows of elements with memory of their own: read with their memory, written, joined, copied; what a step over two blocks leaves. No condition. -/

set_option linter.unusedVariables false
set_option linter.unusedSimpArgs false
namespace Go.Proofs.YtgphmfnkeolbcaaGreatDoor.RX
open Go Go.RowKit Go.Proofs.YtgphmfnkeolbcaaGreatDoorW.PrintWords

theorem Kd.R_raw2 {α : Type} {d : Kd α} (z : α) {e : Nat} {w : World} {base : Nat} {ok : Nat → Prop} {A : Option Addr} {n c : Nat} {xs : List α} (h : d.R e w base ok (.slice A n c) xs) : ∃ vs, (kRaw d.sz).R e w base ok (.slice A n c) vs ∧ vs.length = xs.length ∧ ∀ i, i < xs.length → d.M w base (fun k => ok k ∧ some k ≠ A.map (·.block)) (xs.getD i z) (vs.getD i []) := by
  obtain ⟨h0, inner, ho, hr⟩ := h
  have hd : ∀ i, i < xs.length → d.M w base (fun k => ok k ∧ some k ≠ A.map (·.block)) (xs.getD i z) ((inner.drop (i * d.sz)).take d.sz) := by
    intro i hi
    have := hr.2 i _ (List.getElem?_eq_getElem hi)
    rw [List.getD_eq_getElem?_getD, List.getElem?_eq_getElem hi]
    rw [ownB] at this
    exact this
  have hg : ∀ i, i < xs.length → ((List.range xs.length).map fun i => (inner.drop (i * d.sz)).take d.sz).getD i [] = (inner.drop (i * d.sz)).take d.sz := by
    intro i hi
    rw [List.getD_eq_getElem?_getD, List.getElem?_map, List.getElem?_range hi]; rfl
  refine ⟨(List.range xs.length).map fun i => (inner.drop (i * d.sz)).take d.sz, ⟨h0, inner, by rw [List.length_map, List.length_range]; exact ho, ?_, fun j p hj => ?_⟩, by simp, fun i hi => ?_⟩
  · rw [List.length_map, List.length_range]; exact hr.1
  · have hj1 := (List.getElem?_eq_some_iff.1 hj).1
    rw [List.length_map, List.length_range] at hj1
    rw [List.getElem?_map, List.getElem?_range hj1] at hj
    injection hj with hj
    subst hj
    have hM := hd j hj1
    exact ⟨rfl, d.K_len (d.K_of_M hM), d.K_one (d.K_of_M hM)⟩
  · rw [hg i hi]; exact hd i hi
theorem Kd.R_ofRaw {α : Type} {d : Kd α} (z : α) {e : Nat} {w : World} {base : Nat} {ok : Nat → Prop} {A : Option Addr} {n c : Nat} {xs : List α} {vs : List (List Value)} (h : (kRaw d.sz).R e w base ok (.slice A n c) vs) (hl : vs.length = xs.length) (hM : ∀ i, i < xs.length → d.M w base (fun k => ok k ∧ some k ≠ A.map (·.block)) (xs.getD i z) (vs.getD i [])) : d.R e w base ok (.slice A n c) xs := by
  obtain ⟨h0, inner, ho, hr⟩ := h
  refine ⟨h0, inner, by rw [← hl]; exact ho, by rw [← hl]; exact hr.1, fun i p hp => ?_⟩
  have hi := (List.getElem?_eq_some_iff.1 hp).1
  have hv := hr.2 i (vs.getD i []) (by rw [List.getD_eq_getElem?_getD, List.getElem?_eq_getElem (by omega)]; rfl)
  have := hM i hi
  rw [show xs.getD i z = p from by rw [List.getD_eq_getElem?_getD, hp]; rfl] at this
  rw [ownB]
  have e1 : (inner.drop (i * d.sz)).take d.sz = vs.getD i [] := hv.1
  rw [e1]
  exact this
theorem Kd.R_at {α : Type} {d : Kd α} (z : α) {e : Nat} {w : World} {base : Nat} {ok : Nat → Prop} {A : Option Addr} {n c : Nat} {xs : List α} (h : d.R e w base ok (.slice A n c) xs) {i : Int} (h0 : 0 ≤ i) (h1 : i < n) : ∃ ad cs, A = some ad ∧ d.M w base (fun k => ok k ∧ some k ≠ A.map (·.block)) (xs.getD i.toNat z) cs ∧ CellsAt w (ad.add (i.toNat * d.sz)) cs := by
  obtain ⟨vs, hR, hl, hM⟩ := Kd.R_raw2 z h
  obtain ⟨ad, cc, hA, hK, hc⟩ := Kd.atC (Kd.R_C hR) [] h0 h1
  have hn := (Kd.R_len hR).1
  refine ⟨ad, cc, hA, ?_, hc⟩
  rw [show cc = vs.getD i.toNat [] from hK.1]
  exact hM _ (by omega)
section
variable {P : Program} {N : Nat} {ops : Array Oper} {qs : QS} {rest : List Oper} {o : Oper} {l : Slots} {α : Type}
theorem XL_rowsetM (d : Kd α) {w : World} {t : TypeId} {p x : Operand} (ho : o.op = .store t p x) (hdn : o.dst = none) (hg : gd ops l o = some true) (base e : Nat) {A : Option Addr} {ad : Addr} {n c : Nat} {i : Int} {v : Value} (xs : List α) (x' : α)
    (hv : evs l [p, x] = some [.pointer (some (ad.add (i.toNat * d.sz))), v]) (hA : A = some ad) (HO : d.R e w base (OkFrom base) (.slice A n c) xs) (h0 : 0 ≤ i) (hi : i < n) (vs : List Value) (hvs : v.cells.toList = vs ∧ vs.length = d.sz)
    (ht : sizeP P t = some d.sz) (hM : d.M w base (fun k => OkFrom base k ∧ some k ≠ A.map (·.block)) x' vs)
    (hn : ∀ w1, d.R e w1 base (OkFrom base) (.slice A n c) (xs.set i.toNat x') → w.grownBy w1 (A.map (·.block)) → (∀ k, A.map (·.block) = some k → base ≤ k) → XL P N ops rest qs l w1) : XL P N ops (o :: rest) qs l w := by
  subst hA
  obtain ⟨hvs, hvl⟩ := hvs
  obtain ⟨h00, inner, hown, hr⟩ := HO
  have hlen : xs.length = n := by
    rcases hown.2 with ⟨h, _⟩ | ⟨g, cap, cur, h, _⟩
    · cases h
    · injection h with _ h2 _
      exact h2.symm
  obtain ⟨g, cap, he, _, _⟩ := hown.form (by omega)
  obtain rfl : ad = ⟨g, 0, none⟩ := by injection he with he; injection he
  have HO : d.R e w base (OkFrom base) (.slice (some ⟨g, 0, none⟩) n c) xs := ⟨h00, inner, hown, hr⟩
  have hC := (Kd.R_reads HO)
  obtain ⟨A', c', e', _, hC⟩ := hC
  obtain ⟨rfl, rfl, rfl⟩ : some (⟨g, 0, none⟩ : Addr) = A' ∧ n = xs.length ∧ c = c' := by injection e' with a b c; exact ⟨a, b, c⟩
  have hx : i.toNat < xs.length := by omega
  obtain ⟨ad2, cc, e2, hcl, _, hcc⟩ := Kd.C_get hC (xs[i.toNat]) i h0 hi
  obtain rfl : (⟨g, 0, none⟩ : Addr) = ad2 := by injection e2
  have hone : ∀ q ∈ vs, q.oneCell' = true := d.K_one (d.K_of_M hM)
  refine XL_law (by rw [hdn]; rfl) hg fun a ha => ?_
  have he := evs_ok ha _ _ hv
  simp only [List.map_cons, List.map_nil, List.cons.injEq, and_true] at he
  have hadd : (⟨g, 0, none⟩ : Addr).add (i.toNat * d.sz) = ⟨g, i.toNat * d.sz, none⟩ := by unfold Addr.add; split <;> simp_all
  refine Kd.R_store (o := { o with guard := none }) d (w0 := w) base hdn rfl t p x ho e (g := g) (n := xs.length) (cap := c) (o' := i.toNat * d.sz) i 0 xs x' v vs cc (OkFrom base) (fun k => OkFrom base k ∧ some k ≠ (some (⟨g, 0, none⟩ : Addr)).map (·.block)) (by rw [he.1, hadd]) (by simp) he.2 hvs (by rw [hvl]; exact ht) hone HO h0 hi hcl
    (fun j u hu => by
      have := hcc j u hu
      have ha2 : (⟨g, 0, none⟩ : Addr).add (i.toNat * d.sz + j) = ⟨g, i.toNat * d.sz + j, none⟩ := by unfold Addr.add; split <;> simp_all
      rwa [ha2] at this) (by omega) (by
      have : cc.drop (0 + vs.length) = [] := List.drop_of_length_le (by omega)
      rw [this]; simpa using hM) (fun k h => ⟨h.1, fun e1 => h.2 (by subst e1; rfl)⟩) (Below.mono (Below.refl w.heap.size w) (by
      have := HO.1 g rfl
      rcases hown.2 with ⟨h, _⟩ | ⟨g', cap', cur, h, hb, hh, _⟩
      · cases h
      · have : g' < w.heap.size := (Array.getElem?_eq_some_iff.1 hh).1
        omega)) ?_
  intro w1 hR hB hgr
  exact hn w1 hR hgr (fun k hk => by have := HO.1 k (by rw [ownB]; exact hk); exact this) a ha
theorem XL_rowpart (z : Nat) {w : World} {t : TypeId} {p x : Operand} (ho : o.op = .store t p x) (hdn : o.dst = none) (hg : gd ops l o = some true) (base e : Nat) {A : Option Addr} {ad : Addr} {n c : Nat} {i : Int} {v : Value} (j : Nat) (xs : List (List Value))
    (hv : evs l [p, x] = some [.pointer (some ((ad.add (i.toNat * z)).add j)), v]) (hA : A = some ad) (HO : (kRaw z).R e w base (OkFrom base) (.slice A n c) xs) (h0 : 0 ≤ i) (hi : i < n) (vs : List Value) (hvs : v.cells.toList = vs ∧ (vs.all fun u => u.oneCell') = true) (hj : j + vs.length ≤ z)
    (ht : sizeP P t = some vs.length)
    (hn : ∀ w1, (kRaw z).R e w1 base (OkFrom base) (.slice A n c) (xs.set i.toNat ((xs.getD i.toNat []).take j ++ vs ++ (xs.getD i.toNat []).drop (j + vs.length))) → w.grownBy w1 (A.map (·.block)) → (∀ k, A.map (·.block) = some k → base ≤ k) → XL P N ops rest qs l w1) : XL P N ops (o :: rest) qs l w := by
  subst hA
  obtain ⟨hvs, hone⟩ := hvs
  obtain ⟨h00, inner, hown, hr⟩ := HO
  have hlen : xs.length = n := by
    rcases hown.2 with ⟨h, _⟩ | ⟨g, cap, cur, h, _⟩
    · cases h
    · injection h with _ h2 _
      exact h2.symm
  obtain ⟨g, cap, he, _, _⟩ := hown.form (by omega)
  obtain rfl : ad = ⟨g, 0, none⟩ := by injection he with he; injection he
  have HO : (kRaw z).R e w base (OkFrom base) (.slice (some ⟨g, 0, none⟩) n c) xs := ⟨h00, inner, hown, hr⟩
  have hC := (Kd.R_reads HO)
  obtain ⟨A', c', e', _, hC⟩ := hC
  obtain ⟨rfl, rfl, rfl⟩ : some (⟨g, 0, none⟩ : Addr) = A' ∧ n = xs.length ∧ c = c' := by injection e' with a b c; exact ⟨a, b, c⟩
  have hx : i.toNat < xs.length := by omega
  obtain ⟨ad2, cc, e2, hcl, hK, hcc⟩ := Kd.C_get hC [] i h0 hi
  obtain rfl : (⟨g, 0, none⟩ : Addr) = ad2 := by injection e2
  have hcx : cc = xs.getD i.toNat [] := hK.1
  have hcl : cc.length = z := hcl
  have hcone : ∀ u ∈ cc, u.oneCell' = true := (kRaw z).K_one hK
  refine XL_law (by rw [hdn]; rfl) hg fun a ha => ?_
  have he := evs_ok ha _ _ hv
  simp only [List.map_cons, List.map_nil, List.cons.injEq, and_true] at he
  have hadd : ((⟨g, 0, none⟩ : Addr).add (i.toNat * z)).add j = ⟨g, i.toNat * z + j, none⟩ := by rw [add_add]; unfold Addr.add; split <;> simp_all
  refine Kd.R_store (o := { o with guard := none }) (kRaw z) (w0 := w) base hdn rfl t p x ho e (g := g) (n := xs.length) (cap := c) (o' := i.toNat * z + j) i j xs _ v vs cc (OkFrom base) (fun _ => False) (by rw [he.1, hadd]) rfl he.2 hvs ht (fun q hq => List.all_eq_true.1 hone q hq) HO h0 hi hcl
    (fun j u hu => by
      have := hcc j u hu
      have ha2 : (⟨g, 0, none⟩ : Addr).add (i.toNat * z + j) = ⟨g, i.toNat * z + j, none⟩ := by unfold Addr.add; split <;> simp_all
      rwa [show (kRaw z).sz = z from rfl, ha2] at this) hj ⟨rfl, by simp only [List.length_append, List.length_take, List.length_drop]; omega, fun u hu => by
        rcases List.mem_append.1 hu with hu | hu
        · rcases List.mem_append.1 hu with hu | hu
          · exact hcone u (List.mem_of_mem_take hu)
          · exact List.all_eq_true.1 hone u hu
        · exact hcone u (List.mem_of_mem_drop hu)⟩ (fun _ h => h.elim) (Below.mono (Below.refl w.heap.size w) (by
      have := HO.1 g rfl
      rcases hown.2 with ⟨h, _⟩ | ⟨g', cap', cur, h, hb, hh, _⟩
      · cases h
      · have : g' < w.heap.size := (Array.getElem?_eq_some_iff.1 hh).1
        omega)) ?_
  intro w1 hR hB hgr
  rw [hcx] at hR
  exact hn w1 hR hgr (fun k hk => by have := HO.1 k (by rw [ownB]; exact hk); exact this) a ha
theorem XL_appendRow (d : Kd α) (z0 : α) {W : World} {s x : Operand} {t : TypeId} (ho : o.op = .call { callee := .builtin .append, args := #[s, x], argTypes := #[t, t] }) (hg : gd ops l o = some true) (hd : okD N o.dst = true) (base e : Nat) (z : Value) (bytes : Nat)
    (ht : P.underlying t = some (.slice e)) (hinfo : (P.info? e).map (fun i => (i.zero, i.size, i.bytes)) = some (some z, d.sz, bytes)) (hz : z.cells.size = d.sz) (hs0 : 0 < d.sz) (hb0 : 0 < bytes) (hE : d.E.contains e = false)
    {A A' : Option Addr} {n c m c' : Nat} (xs ys : List α) (hv : evs l [s, x] = some [.slice A n c, .slice A' m c'])
    (HO : d.R e W base (OkFrom base) (.slice A n c) xs) (HY : d.R e W base (OkFrom base) (.slice A' m c') ys) (hbase : base ≤ W.heap.size) (hl : (xs.length + m) * bytes ≤ 140737488355328)
    (hn : ∀ A1 c1 w1, d.R e w1 base (OkFrom base) (.slice A1 (xs ++ ys).length c1) (xs ++ ys) → (xs ++ ys).length ≤ c1 → W.grownBy w1 (A.map (·.block)) → (∀ k, A.map (·.block) = some k → base ≤ k) → (A1.map (·.block) = A.map (·.block) ∨ ∃ b, A1.map (·.block) = some b ∧ W.heap.size ≤ b) → XL P N ops rest qs (putS l o.dst (.slice A1 (xs ++ ys).length c1)) w1) : XL P N ops (o :: rest) qs l W := by
  obtain ⟨vs, hR, hlv, hM⟩ := Kd.R_raw2 z0 HO
  obtain ⟨vs2, hR2, hlv2, hM2⟩ := Kd.R_raw2 z0 HY
  refine XL_appendAll (kRaw d.sz) ho hg hd base e z bytes ht hinfo hz hs0 hb0 vs vs2 hv hR (Kd.R_C hR2) (fun _ _ h => h) hbase (by rw [hlv]; exact hl) ?_
  intro A1 c1 w1 hr hc hgr hle hat
  have hlen : (vs ++ vs2).length = (xs ++ ys).length := by simp [hlv, hlv2]
  rw [hlen] at hr hc ⊢
  have key : ∀ (A2 : Option Addr) (x' : α) (cs : List Value), (∀ k, A2.map (·.block) = some k → ∃ cells, W.heap[k]? = some (.cells cells e (0, 0))) → d.M W base (fun k => OkFrom base k ∧ some k ≠ A2.map (·.block)) x' cs → d.M w1 base (fun k => OkFrom base k ∧ some k ≠ A1.map (·.block)) x' cs := by
    intro A2 x' cs _ h
    have hb := d.M_bound h
    have hA : ∀ k, A.map (·.block) = some k → ∃ cells, W.heap[k]? = some (.cells cells e (0, 0)) := fun k hk => by
      obtain ⟨_, inner, hown, _⟩ := hR
      exact own_typed hown k (by rw [ownB]; exact hk)
    have hne : ∀ k, (∃ q, q ∈ d.E ∧ ∃ cells, W.heap[k]? = some (.cells cells q (0, 0))) → A.map (·.block) ≠ some k := by
      rintro k ⟨q, hq, cells, hc1⟩ hk
      obtain ⟨cells2, hc2⟩ := hA k hk
      rw [hc2] at hc1
      injection hc1 with hc1
      injection hc1 with _ e2
      subst e2
      have : d.E.contains e = true := by simpa using hq
      rw [hE] at this
      cases this
    refine d.M_mono ?_ (Kd.M_grown hb hgr fun k hk e1 => hne k hk.2.2.2 e1.symm)
    intro k hk
    refine ⟨hk.1.1, fun e1 => ?_⟩
    rcases hat with e2 | ⟨b, e2, hb2⟩
    · exact hne k hk.2.2.2 (by rw [← e2, ← e1])
    · rw [e2] at e1
      injection e1 with e1
      have := hk.2.2.1
      omega
  have typed : ∀ {A2 : Option Addr} {n2 c2 : Nat} {us : List (List Value)}, (kRaw d.sz).R e W base (OkFrom base) (.slice A2 n2 c2) us → ∀ k, A2.map (·.block) = some k → ∃ cells, W.heap[k]? = some (.cells cells e (0, 0)) := fun h k hk => by
    obtain ⟨_, inner, hown, _⟩ := h
    exact own_typed hown k (by rw [ownB]; exact hk)
  refine hn A1 c1 w1 (Kd.R_ofRaw z0 hr hlen fun i hi => ?_) hc hgr hle hat
  rw [List.getD_eq_getElem?_getD, List.getD_eq_getElem?_getD]
  by_cases hx : i < xs.length
  · rw [List.getElem?_append_left hx, List.getElem?_append_left (by omega), ← List.getD_eq_getElem?_getD, ← List.getD_eq_getElem?_getD]
    exact key A _ _ (typed hR) (hM i hx)
  · rw [List.getElem?_append_right (by omega), List.getElem?_append_right (by omega), hlv, ← List.getD_eq_getElem?_getD, ← List.getD_eq_getElem?_getD]
    rw [List.length_append] at hi
    exact key A' _ _ (typed hR2) (hM2 _ (by omega))
end

structure Two (g : Nat) (r : Option Nat) (w w' : World) : Prop where
  os : w'.os = w.os
  tape : w'.tape = w.tape
  output : w'.output = w.output
  size : w.heap.size ≤ w'.heap.size
  block : ∀ k, k < w.heap.size → k ≠ g → r ≠ some k → w'.heap[k]? = w.heap[k]?
theorem Two.refl (g : Nat) (r : Option Nat) (w : World) : Two g r w w := ⟨rfl, rfl, rfl, Nat.le_refl _, fun _ _ _ _ => rfl⟩
theorem Two.below {g : Nat} {r : Option Nat} {a b c : World} (h : Two g r a b) (k : Below b.heap.size b c) : Two g r a c :=
  ⟨k.os.trans h.os, k.tape.trans h.tape, k.output.trans h.output, Nat.le_trans h.size k.size, fun x hx h1 h2 => (k.block x (Nat.lt_of_lt_of_le hx h.size)).trans (h.block x hx h1 h2)⟩
theorem Two.grown {g : Nat} {r s : Option Nat} {a b c : World} (h : Two g r a b) (k : b.grownBy c s) (hs : ∀ x, s = some x → x = g ∨ r = some x ∨ a.heap.size ≤ x) : Two g r a c :=
  ⟨k.os.trans h.os, k.tape.trans h.tape, k.output.trans h.output, Nat.le_trans h.size k.size, fun x hx h1 h2 => (k.block x (Nat.lt_of_lt_of_le hx h.size) (fun e => by
    rcases hs x e.symm with h3 | h3 | h3
    · exact h1 h3
    · exact h2 h3
    · omega)).trans (h.block x hx h1 h2)⟩
theorem Two.store {g : Nat} {r : Option Nat} {a b c : World} (h : Two g r a b) (k : b.grownBy c (some g)) : Two g r a c := h.grown k fun x e => .inl (by injection e with e; exact e.symm)
theorem Two.row {g : Nat} {r : Option Nat} {a b c : World} (h : Two g r a b) {A : Option Addr} (k : b.grownBy c (A.map (·.block))) (hA : A.map (·.block) = r ∨ ∃ b, A.map (·.block) = some b ∧ a.heap.size ≤ b) : Two g r a c := h.grown k fun x e => by
  rcases hA with h1 | ⟨b, h1, h2⟩
  · exact .inr (.inl (by rw [← h1, e]))
  · rw [h1] at e; injection e with e; subst e; exact .inr (.inr h2)
theorem Two.toGrown {g : Nat} {w w' : World} (h : Two g none w w') : w.grownBy w' (some g) := ⟨h.os, h.tape, h.output, h.size, fun k hk hne => h.block k hk (fun e => hne (by rw [e])) (fun e => by cases e)⟩
theorem Two.belowB {g B : Nat} {r : Option Nat} {a b : World} (h : Two g r a b) (hg : B ≤ g) (hr : ∀ x, r = some x → B ≤ x) (hB : B ≤ a.heap.size) : Below B a b :=
  ⟨h.os, h.tape, h.output, h.size, fun k hk => h.block k (by omega) (by omega) (fun e => by have := hr k e; omega)⟩
theorem Kd.R_blk_ne {α : Type} {d : Kd α} {e g t : Nat} {w : World} {base : Nat} {ok : Nat → Prop} {A : Option Addr} {n c : Nat} {xs : List α} {cs : Array Value} (h : d.R e w base ok (.slice A n c) xs) (hb : Blk w g t cs) (hne : Nat.beq t e = false) : ∀ k, A.map (·.block) = some k → k ≠ g := fun k hk e1 => by
  subst e1
  obtain ⟨_, inner, hown, _⟩ := h
  obtain ⟨cells, hc⟩ := own_typed hown k (by rw [ownB]; exact hk)
  rw [show w.heap[k]? = some (.cells cs t (0, 0)) from hb] at hc
  injection hc with hc
  injection hc with _ e2
  subst e2
  rw [Nat.beq_refl] at hne
  cases hne
theorem Blk.tne {w : World} {g g' t t' : Nat} {cs cs' : Array Value} (h : Blk w g t cs) (h' : Blk w g' t' cs') (hne : Nat.beq t t' = false) : g ≠ g' := fun e => by
  subst e
  have h' : w.heap[g]? = some (.cells cs' t' (0, 0)) := h'
  rw [show w.heap[g]? = some (.cells cs t (0, 0)) from h] at h'
  injection h' with h'
  injection h' with _ e2
  subst e2
  rw [Nat.beq_refl] at hne
  cases hne
theorem atc_new {A A1 A2 : Option Addr} {w w1 : World} (hw : w.heap.size ≤ w1.heap.size) (h : A1.map (·.block) = A.map (·.block) ∨ ∃ b, A1.map (·.block) = some b ∧ w.heap.size ≤ b) (h2 : A2.map (·.block) = A1.map (·.block) ∨ ∃ b, A2.map (·.block) = some b ∧ w1.heap.size ≤ b) : A2.map (·.block) = A.map (·.block) ∨ ∃ b, A2.map (·.block) = some b ∧ w.heap.size ≤ b := by
  rcases h2 with h2 | ⟨b, h2, h3⟩
  · rw [h2]; exact h
  · exact .inr ⟨b, h2, by omega⟩
theorem wr_i32 {x : Int} (h1 : -2147483648 ≤ x) (h2 : x ≤ 2147483647) : Value.int .i32 (IntKind.i32.wrap x) = .int .i32 x := by rw [IntWalk.i32_in x ⟨h1, h2⟩]
theorem wr_u8 {x : Int} (h1 : 0 ≤ x) (h2 : x ≤ 255) : Value.int .u8 (IntKind.u8.wrap x) = .int .u8 x := by rw [IntWalk.u8_in x ⟨h1, h2⟩]
theorem wr_u64 {x : Int} (h1 : 0 ≤ x) (h2 : x ≤ 18446744073709551615) : Value.int .u64 (IntKind.u64.wrap x) = .int .u64 x := by rw [IntWalk.u64_in x ⟨h1, h2⟩]

section
variable {P : Program} {l : Slots} {t ty : TypeId} {x lo hi y : Operand} {s : ByteArray} {k k' : IntKind} {w : World}
theorem runs_slice_slh {i j : Int} (ht : P.underlying t = some .string) (hx : ev l x = some (.string s)) (hl : ev l lo = some (.int k i)) (hh : ev l hi = some (.int k' j)) (h0 : 0 ≤ i) (h1 : i ≤ j) (h2 : j ≤ s.size) :
    RunsAs P l (.slice t x (some lo) (some hi) none) ty (.string (s.extract i.toNat j.toNat)) w := by
  intro o ho _
  have e1 : evD l x = .string s := by rw [evD, hx]; rfl
  have e2 : evD l hi = .int k' j := by rw [evD, hh]; rfl
  have e3 : evD l lo = .int k i := by rw [evD, hl]; rfl
  unfold execOp
  simp only [ho, e1, e2, e3, Option.map_none, Option.map_some, Sem.run_bind]
  rw [run_sliceAt_string _ _ _ _ _ _ ht, run_slice_string_if _ _ _ _ _ _ _ ht, if_pos ⟨by omega, h2⟩, if_pos ⟨h0, h1⟩]
  simp
theorem runs_index_s {i : Int} (ht : P.underlying t = some .string) (hx : ev l x = some (.string s)) (hy : ev l y = some (.int k i)) (h0 : 0 ≤ i) (h1 : i < s.size) :
    RunsAs P l (.index t x y) ty (.int .u8 ((s.data.toList.getD i.toNat 0).toNat : Int)) w := by
  refine runs_index hx hy ?_
  rw [run_index_string _ _ _ _ _ ht, dif_pos ⟨h0, h1⟩]
  have hlt : i.toNat < s.data.toList.length := by rw [Array.length_toList]; have : s.data.size = s.size := rfl; omega
  rw [List.getD_eq_getElem?_getD, List.getElem?_eq_getElem hlt]
  rfl
theorem runs_conv {src dst : TypeId} {v v' : Value} (hx : ev l x = some v) (h : (convert src dst v).run P w = .ok v' w) : RunsAs P l (.convert src dst x) ty v' w := by
  intro o ho _
  have e1 : evD l x = v := by rw [evD, hx]; rfl
  unfold execOp
  simp only [ho, e1, Sem.run_bind, Sem.run_pure, Result.andThen_ok, h]
end
theorem run_sadd {P : Program} {t : TypeId} {a b : ByteArray} {w : World} (h : a.size + b.size ≤ 9223372036854775807) : (binOp .add t (.string a) (.string b)).run P w = .ok (.string (a ++ b)) w := by rw [binOp_string_add]; exact run_string_add_sum w a b h
theorem add_plain (g j : Nat) : (⟨g, 0, none⟩ : Addr).add j = ⟨g, j, none⟩ := by unfold Addr.add; split <;> simp_all
theorem conv_bytesC {P : Program} {w : World} {src dst e n c : Nat} {A : Option Addr} {base : Nat} {ok : Nat → Prop} (xs : List Int) (hs : P.underlying src = some (.slice e)) (he : P.underlying e = some (.int .u8)) (hd : P.underlying dst = some .string)
    (h : (Kd.int .u8).R e w base ok (.slice A n c) xs) : (convert src dst (.slice A n c)).run P w = .ok (.string (strOfNums xs)) w := by
  obtain ⟨hn, _⟩ := Kd.R_len h
  have hC := Kd.R_C h
  cases A with
  | none =>
    obtain ⟨_, _, _⟩ := hC
    obtain ⟨inner, ho⟩ := Kd.R_own h
    rcases ho.2 with ⟨he', h0⟩ | ⟨g, cap, cur, he', _⟩
    · injection he' with _ h1 h2
      subst h1; subst h2
      have : xs = [] := List.length_eq_zero_iff.1 hn.symm
      subst this
      rw [run_convert_bytes_nil w src e hs he 0 0 dst hd]; rfl
    · cases he'
  | some ad =>
    obtain ⟨inner, ho⟩ := Kd.R_own h
    rcases ho.2 with ⟨he', h0⟩ | ⟨g, cap, cur, he', _, hh, _⟩
    · cases he'
    · injection he' with h1 h2 h3
      injection h1 with h1
      subst h1
      refine run_convert_bytes_arg w src e hs he g 0 n c xs hn.symm (fun i hi => ?_) dst hd
      obtain ⟨ad', e1, hc⟩ := Kd.atI hC (i := (i : Int)) (by omega) (by omega)
      injection e1 with e1
      subst e1
      have := hc 0 _ rfl
      simp only [Int.toNat_natCast, Nat.mul_one] at this
      rw [add_plain] at this
      rw [Nat.zero_add]
      have e2 : (⟨g, i, none⟩ : Addr).add 0 = ⟨g, i, none⟩ := rfl
      rw [e2] at this
      rw [this]
      simp [rd]
theorem conv_runesC {P : Program} {w : World} {src dst e n c : Nat} {A : Option Addr} (xs : List Int) (hs : P.underlying src = some (.slice e)) (he : P.underlying e = some (.int .i32)) (hd : P.underlying dst = some .string)
    (h : (Kd.int .i32).C w A n xs) : (convert src dst (.slice A n c)).run P w = .ok (.string (runesBytes xs)) w := by
  obtain ⟨hn, _, _⟩ := id h
  by_cases h0 : n = 0
  · subst h0
    have : xs = [] := List.length_eq_zero_iff.1 hn
    subst this
    rw [run_convert_runes_string w src dst e _ _ _ hs he hd]
    cases A with
    | none => rfl
    | some a => exact run_runesToString w a 0 c [] (by simp [run_loadCells w a 0 (fun _ => undef) (fun j hj => by omega)])
  · obtain ⟨ad, rfl, _⟩ := Kd.atI h (i := 0) (by omega) (by omega)
    have := run_convert_runes (P := P) w src dst e ad n c xs (by omega) hs he hd (fun j hj => by
      obtain ⟨ad', e1, hc⟩ := Kd.atI h (i := (j : Int)) (by omega) (by omega)
      injection e1 with e1
      subst e1
      have := hc 0 _ rfl
      simp only [Int.toNat_natCast, Nat.mul_one] at this
      rw [RX.add_add, Nat.add_zero] at this
      rw [this]; simp [rd])
    rwa [List.take_of_length_le (by omega)] at this

section
variable {P : Program} {N : Nat} {ops : Array Oper} {qs : QS} {rest : List Oper} {o : Oper} {l : Slots} {w : World}
theorem XL_val (hg : gd ops l o = some true) (hd : okD N o.dst = true) {v : Value} {w1 : World} (hr : ∀ a, Fr N l a → (execOp a.eval o).run P w = .ok (.value v) w1) (hn : XL P N ops rest qs (putS l o.dst v) w1) : XL P N ops (o :: rest) qs l w := by
  intro a ha
  refine wpList_step fun K hK => ?_
  rw [if_pos (gd_ok ha hg)]
  unfold Oper.wp
  rw [hr a ha]
  exact hK _ _ (hn _ (ha.putS hd v))
theorem XL_range {t : TypeId} {x : Operand} {s : ByteArray} (ho : o.op = .range t x) (hg : gd ops l o = some true) (hd : okD N o.dst = true) (ht : P.underlying t = some .string) (hv : evs l [x] = some [.string s])
    (hn : ∀ w1, Below w.heap.size w w1 → w1.heap[w.heap.size]? = some (.stringIter s 0) → XL P N ops rest qs (putS l o.dst (.pointer (some ⟨w.heap.size, 0, none⟩))) w1) : XL P N ops (o :: rest) qs l w := by
  refine XL_val hg hd (v := .pointer (some ⟨w.heap.size, 0, none⟩)) (w1 := w.iter s 0) (fun a ha => ?_) (hn _ ((Below.refl _ _).alloc (Nat.le_refl _) _) (World.iter_heap w s 0))
  have he := evs_ok ha _ _ hv
  simp only [List.map_cons, List.map_nil, List.cons.injEq, and_true] at he
  unfold execOp
  simp only [ho, he, Sem.run_bind, run_range_string w t s ht, Result.andThen_ok, Sem.run_pure]
theorem XL_next {x : Operand} {s : ByteArray} {g pos : Nat} (ho : o.op = .next x true) (hg : gd ops l o = some true) (hd : okD N o.dst = true) (hv : evs l [x] = some [.pointer (some ⟨g, 0, none⟩)]) (hk : w.heap[g]? = some (.stringIter s pos))
    (h1 : pos < s.size → ∀ w1, w.grownBy w1 (some g) → w1.heap[g]? = some (.stringIter s (pos + (Utf8.decode s pos).2)) → XL P N ops rest qs (putS l o.dst (.tuple #[.bool true, .int .i64 (pos : Int), .int .i32 ((Utf8.decode s pos).1 : Int)])) w1)
    (h2 : ¬ pos < s.size → XL P N ops rest qs (putS l o.dst (.tuple #[.bool false])) w) : XL P N ops (o :: rest) qs l w := by
  by_cases hp : pos < s.size
  · refine XL_val hg hd (w1 := w.iterAt g s (pos + (Utf8.decode s pos).2)) (fun a ha => ?_) (h1 hp _ ⟨rfl, rfl, rfl, by simp [World.iterAt], fun k hkl hne => ?_⟩ (Lib.iterAt_heap w g s pos _ hk))
    · have he := evs_ok ha _ _ hv
      simp only [List.map_cons, List.map_nil, List.cons.injEq, and_true] at he
      unfold execOp
      simp only [ho, he, Sem.run_bind, Lib.run_next_any_at w g s pos _ hk hp, Result.andThen_ok, Sem.run_pure]
    · simp only [World.iterAt]
      rw [Array.getElem?_setIfInBounds_ne]
      intro e; subst e; exact hne rfl
  · refine XL_val hg hd (w1 := w) (fun a ha => ?_) (h2 hp)
    have he := evs_ok ha _ _ hv
    simp only [List.map_cons, List.map_nil, List.cons.injEq, and_true] at he
    unfold execOp
    simp only [ho, he, Sem.run_bind, Lib.run_next_end_at w g s pos _ hk hp, Result.andThen_ok, Sem.run_pure]
end
end Go.Proofs.YtgphmfnkeolbcaaGreatDoor.RX
set_option linter.unusedVariables false
set_option linter.unusedSimpArgs false
namespace Go.Proofs.YtgphmfnkeolbcaaGreatDoor.RX
open Go Go.RowKit Go.Proofs.YtgphmfnkeolbcaaGreatDoorW.PrintWords
section
variable {P : Program} {N : Nat} {ops : Array Oper} {qs : QS} {rest : List Oper} {o : Oper} {l : Slots} {α : Type}
theorem XL_makeCap (d : Kd α) {w : World} {t : TypeId} {x y : Operand} (ho : o.op = .makeSlice t x y) (hg : gd ops l o = some true) (hd : okD N o.dst = true) (e : Nat) (z : Value) (bytes : Nat) (m : Int)
    (hv : evs l [x, y] = some [.int .i64 0, .int .i64 m]) (ht : P.underlying t = some (.slice e)) (hinfo : (P.info? e).map (fun i => (i.zero, i.size, i.bytes)) = some (some z, d.sz, bytes)) (hz : z.cells.size = d.sz) (hs0 : 0 < d.sz) (hb0 : 0 < bytes)
    (z0 : α) (hzero : d.M w w.heap.size (fun _ => False) z0 z.cells.toList) (h0 : 0 ≤ m) (hl : m.toNat * bytes ≤ 281474976710656)
    (hn : ∀ A c w1, d.R e w1 w.heap.size (OkFrom w.heap.size) (.slice A 0 c) [] → m.toNat ≤ c → Below w.heap.size w w1 → XL P N ops rest qs (putS l o.dst (.slice A 0 c)) w1) : XL P N ops (o :: rest) qs l w := by
  obtain ⟨m, rfl⟩ := Int.eq_ofNat_of_zero_le h0
  simp only [Int.toNat_natCast] at hl hn
  obtain ⟨i0, hi, hzz⟩ := Option.map_eq_some_iff.1 hinfo
  simp only [Prod.mk.injEq] at hzz
  obtain ⟨hz0, hz1, hz2⟩ := hzz
  have hm : m ≤ 281474976710656 := Nat.le_trans (Nat.le_mul_of_pos_right _ hb0) hl
  have hr := run_make (P := P) w t e i0 z ht hi hz0 .i64 .i64 0 (m : Int) (by omega) (by omega)
    (by
      have h3 : ((i0.bytes * m : Nat) : Int) ≤ 281474976710656 := by rw [hz2, Nat.mul_comm]; omega
      rwa [Int.natCast_mul] at h3) (by omega)
  simp only [Int.toNat_natCast, Int.toNat_zero] at hr
  rw [hz1] at hr
  obtain ⟨w1, hw, hb, hk, hs⟩ := new_world w (madeCells z.cells (m * d.sz)) e
  rw [hw] at hr
  have hR : d.R e w1 w.heap.size (OkFrom w.heap.size) (.slice (some ⟨w.heap.size, 0, none⟩) (List.replicate m z0).length (List.replicate m z0).length) (List.replicate m z0) :=
    Kd.R_litB d _ hk (Kd.reps_made hz hs0 (Kd.M_below hzero hb) m) (by rw [List.length_replicate]; omega)
  rw [List.length_replicate] at hR
  have hR0 := Kd.R_take hR (Nat.zero_le m)
  rw [List.take_zero] at hR0
  refine XL_val hg hd (fun a ha => ?_) (hn _ m w1 hR0 (Nat.le_refl _) hb)
  have he := evs_ok ha _ _ hv
  simp only [List.map_cons, List.map_nil, List.cons.injEq, and_true] at he
  simp [execOp, ho, he.1, he.2, hr]
end
end Go.Proofs.YtgphmfnkeolbcaaGreatDoor.RX
namespace Go.Proofs.YtgphmfnkeolbcaaGreatDoor
open Go Go.RowKit Go.Proofs.YtgphmfnkeolbcaaGreatDoorW.PrintWords RX
theorem kPiece_insM {w : World} {base : Nat} {ok : Nat → Prop} {a : List At} {t : ByteArray} {n : Int} {cs : List Value} (h : kPiece.M w base ok (.ins a t n) cs) : ∃ A c, cs = [.iface 249 (.agg #[.slice A a.length c, .string t, .int .i64 n])] ∧ a.length ≤ c ∧ kAttr.R 57 w base ok (.slice A a.length c) a := by
  obtain ⟨_, ⟨_, _, rfl, ⟨v, rfl, hR⟩, _, _, rfl, rfl, rfl⟩, rfl⟩ := h
  obtain ⟨A, c, rfl, hl, _⟩ := Kd.R_reads hR
  exact ⟨A, c, rfl, hl, hR⟩
theorem kPiece_embM {w : World} {base : Nat} {ok : Nat → Prop} {a : List At} {k : ByteArray} {v : Int × Int × ByteArray} {cs : List Value} (h : kPiece.M w base ok (.emb a k v) cs) : ∃ A c, cs = [.iface 253 (.agg #[.slice A a.length c, .string k, valV v])] ∧ a.length ≤ c ∧ kAttr.R 57 w base ok (.slice A a.length c) a := by
  obtain ⟨_, ⟨_, _, rfl, ⟨v, rfl, hR⟩, _, _, rfl, rfl, rfl⟩, rfl⟩ := h
  obtain ⟨A, c, rfl, hl, _⟩ := Kd.R_reads hR
  exact ⟨A, c, rfl, hl, hR⟩
theorem kPiece_retM {w : World} {base : Nat} {ok : Nat → Prop} {a : List At} {n : Int} {cs : List Value} (h : kPiece.M w base ok (.ret a n) cs) : ∃ A c, cs = [.iface 128 (.agg #[.slice A a.length c, .int .i64 n])] ∧ a.length ≤ c ∧ kAttr.R 57 w base ok (.slice A a.length c) a := by
  obtain ⟨_, ⟨_, _, rfl, ⟨v, rfl, hR⟩, rfl⟩, rfl⟩ := h
  obtain ⟨A, c, rfl, hl, _⟩ := Kd.R_reads hR
  exact ⟨A, c, rfl, hl, hR⟩
end Go.Proofs.YtgphmfnkeolbcaaGreatDoor
