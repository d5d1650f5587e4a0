import Derived.Test.YtgphmfnkeolbcaaDoorUtf3
import Derived.Test.YtgphmfnkeolbcaaDoorAt
import Derived.Test.YtgphmfnkeolbcaaDoorA2
import Derived.Sort.Walk0
import Derived.Test.YtgphmfnkeolbcaaDoorO2
import Derived.Test.YtgphmfnkeolbcaaDoorB1
import Derived.Test.YtgphmfnkeolbcaaDoorAn2
/- UTF-8, plainly: what the reference's ways answer, by a text's scalars. Plain, no program. No condition. -/

set_option linter.unusedVariables false
set_option linter.unusedSimpArgs false
set_option maxRecDepth 100000
namespace Go.Proofs.YtgphmfnkeolbcaaDoor.U
open Go Go.Lib

/-- how many bytes a first byte tells -/
def nOf (b : Nat) : Nat := if 240 ≤ b then 4 else if 224 ≤ b then 3 else if 192 ≤ b then 2 else 1
def r0Of (b : Nat) : Int := if 240 ≤ b then (b : Int) - 240 else if 224 ≤ b then (b : Int) - 224 else if 192 ≤ b then (b : Int) - 192 else (b : Int)
def acc (l : List UInt8) : Nat → Int
  | 0 => r0Of (g l 0)
  | k + 1 => acc l k * 64 + ((g l (k + 1) % 64 : Nat) : Int)
set_option maxHeartbeats 2000000 in
theorem acc_enc {r : Nat} (hv : vr r) (t : List UInt8) : nOf (g (enc r ++ t) 0) = (enc r).length ∧ acc (enc r ++ t) ((enc r).length - 1) = (r : Int) := by
  have hv' := hv
  unfold vr at hv'
  by_cases h1 : r < 128
  · rw [enc_1 h1]
    have e0 : g ([UInt8.ofNat r] ++ t) 0 = r := by simp only [g, List.cons_append, List.getD_cons_zero, UInt8.toNat_ofNat']; omega
    rw [e0]
    refine ⟨by unfold nOf; rw [if_neg (by omega), if_neg (by omega), if_neg (by omega)]; rfl, ?_⟩
    show r0Of (g ([UInt8.ofNat r] ++ t) 0) = _
    rw [e0]; unfold r0Of; rw [if_neg (by omega), if_neg (by omega), if_neg (by omega)]
  · by_cases h2 : r < 2048
    · rw [enc_2 (by omega) h2]
      generalize hl : [UInt8.ofNat (192 + r / 64), UInt8.ofNat (128 + r % 64)] ++ t = l
      have e0 : g l 0 = 192 + r / 64 := by rw [← hl]; simp only [g, List.cons_append, List.getD_cons_zero, UInt8.toNat_ofNat']; omega
      have e1 : g l 1 = 128 + r % 64 := by rw [← hl]; simp only [g, List.cons_append, List.getD_cons_zero, List.getD_cons_succ, UInt8.toNat_ofNat']; omega
      refine ⟨by rw [e0]; unfold nOf; rw [if_neg (by omega), if_neg (by omega), if_pos (by omega)]; rfl, ?_⟩
      show r0Of (g l 0) * 64 + ((g l 1 % 64 : Nat) : Int) = _
      rw [e0, e1]; unfold r0Of; rw [if_neg (by omega), if_neg (by omega), if_pos (by omega)]; omega
    · by_cases h3 : r < 65536
      · rw [enc_3 hv (by omega) h3]
        generalize hl : [UInt8.ofNat (224 + r / 4096), UInt8.ofNat (128 + r / 64 % 64), UInt8.ofNat (128 + r % 64)] ++ t = l
        have e0 : g l 0 = 224 + r / 4096 := by rw [← hl]; simp only [g, List.cons_append, List.getD_cons_zero, UInt8.toNat_ofNat']; omega
        have e1 : g l 1 = 128 + r / 64 % 64 := by rw [← hl]; simp only [g, List.cons_append, List.getD_cons_zero, List.getD_cons_succ, UInt8.toNat_ofNat']; omega
        have e2 : g l 2 = 128 + r % 64 := by rw [← hl]; simp only [g, List.cons_append, List.getD_cons_zero, List.getD_cons_succ, UInt8.toNat_ofNat']; omega
        refine ⟨by rw [e0]; unfold nOf; rw [if_neg (by omega), if_pos (by omega)]; rfl, ?_⟩
        show (r0Of (g l 0) * 64 + ((g l 1 % 64 : Nat) : Int)) * 64 + ((g l 2 % 64 : Nat) : Int) = _
        rw [e0, e1, e2]; unfold r0Of; rw [if_neg (by omega), if_pos (by omega)]; omega
      · rw [enc_4 hv (by omega)]
        generalize hl : [UInt8.ofNat (240 + r / 262144), UInt8.ofNat (128 + r / 4096 % 64), UInt8.ofNat (128 + r / 64 % 64), UInt8.ofNat (128 + r % 64)] ++ t = l
        have e0 : g l 0 = 240 + r / 262144 := by rw [← hl]; simp only [g, List.cons_append, List.getD_cons_zero, UInt8.toNat_ofNat']; omega
        have e1 : g l 1 = 128 + r / 4096 % 64 := by rw [← hl]; simp only [g, List.cons_append, List.getD_cons_zero, List.getD_cons_succ, UInt8.toNat_ofNat']; omega
        have e2 : g l 2 = 128 + r / 64 % 64 := by rw [← hl]; simp only [g, List.cons_append, List.getD_cons_zero, List.getD_cons_succ, UInt8.toNat_ofNat']; omega
        have e3 : g l 3 = 128 + r % 64 := by rw [← hl]; simp only [g, List.cons_append, List.getD_cons_zero, List.getD_cons_succ, UInt8.toNat_ofNat']; omega
        refine ⟨by rw [e0]; unfold nOf; rw [if_pos (by omega)]; rfl, ?_⟩
        show ((r0Of (g l 0) * 64 + ((g l 1 % 64 : Nat) : Int)) * 64 + ((g l 2 % 64 : Nat) : Int)) * 64 + ((g l 3 % 64 : Nat) : Int) = _
        rw [e0, e1, e2, e3]; unfold r0Of; rw [if_pos (by omega)]; omega

theorem first_none {l : List UInt8} {rs : List Nat} {t : List UInt8} (h : Brk l rs t) (n : Nat) (hn : n = nOf (g l 0)) (r : Int) (hr : r = acc l (n - 1)) (hno : ¬ (n ≤ l.length ∧ vz r ∧ enc r.toNat = l.take n)) : headP rs = (0, 0) := by
  match rs, h with
  | [], h => rfl
  | r' :: rs, h =>
    exfalso
    refine hno ?_
    have hv' := h.ok r' (by simp)
    have e := h.eq
    rw [flat_cons, List.append_assoc] at e
    obtain ⟨h1, h2⟩ := acc_enc hv' (flat rs ++ t)
    rw [← e] at h1 h2
    have hnn : n = (enc r').length := hn.trans h1
    rw [hnn, h2] at hr
    subst hr
    refine ⟨?_, ⟨by omega, by rw [Int.toNat_natCast]; exact hv'⟩, ?_⟩
    · rw [hnn, e, List.length_append]; omega
    · rw [Int.toNat_natCast, hnn, e, List.take_left]
noncomputable def scz (s : ByteArray) : List Int := (sc s).map fun (r : Nat) => (r : Int)
end Go.Proofs.YtgphmfnkeolbcaaDoor.U
/- Patches: rising lists of attributes, looked up by their keys. Plain lists, no program. No condition. -/
set_option linter.unusedVariables false
set_option linter.unusedSimpArgs false
namespace Go.Proofs.YtgphmfnkeolbcaaDoor
open Go RX

abbrev kl (a b : ByteArray) : Bool := Op.bytesLess a.toList b.toList
theorem kl_iff {a b : ByteArray} : kl a b = true ↔ a.toList < b.toList := by unfold kl; rw [bytesLess_eq]; simp
theorem kl_trans {a b c : ByteArray} (h1 : kl a b = true) (h2 : kl b c = true) : kl a c = true := kl_iff.2 (List.lt_trans (kl_iff.1 h1) (kl_iff.1 h2))
def Ris (xs : List At) : Prop := xs.Pairwise (fun x y => kl x.1 y.1 = true)
theorem Ris.tail {x : At} {xs : List At} (h : Ris (x :: xs)) : Ris xs := (List.pairwise_cons.1 h).2
theorem Ris.head {x : At} {xs : List At} (h : Ris (x :: xs)) : ∀ y ∈ xs, kl x.1 y.1 = true := (List.pairwise_cons.1 h).1
theorem Ris.below {x : At} {xs : List At} {k : ByteArray} (h : Ris (x :: xs)) (hk : kl k x.1 = true) : ∀ y ∈ x :: xs, kl k y.1 = true := by
  intro y hy
  rcases List.mem_cons.1 hy with rfl | hy
  · exact hk
  · exact kl_trans hk (h.head y hy)

end Go.Proofs.YtgphmfnkeolbcaaDoor
/- What the references of layers content and ops answer: what the program answers. Conditions: sizes, the tables of utf8. -/
set_option linter.unusedVariables false
set_option linter.unusedSimpArgs false
set_option maxRecDepth 100000
namespace Go.Proofs.YtgphmfnkeolbcaaDoor
open Go Go.RowKit Go.Proofs.YtgphmfnkeolbcaaDoorW.PrintWords RX
theorem opSz.b {o : OpA} (h : opSz o) : o.text.size ≤ 100000000 ∧ o.vt.size ≤ 100000000 := by have h1 := h.1; have h2 := h.2.1; omega
end Go.Proofs.YtgphmfnkeolbcaaDoor
/- Cells as elements and as arguments. No condition. -/

set_option linter.unusedVariables false
set_option linter.unusedSimpArgs false
set_option maxRecDepth 100000
namespace Go.Proofs.YtgphmfnkeolbcaaDoor.RX
open Go Go.RowKit Go.Proofs.YtgphmfnkeolbcaaDoorW.PrintWords

structure CellA where
  rune : Int
  kind : ByteArray
  vk : Int
  vn : Int
  vt : ByteArray
  attrs : List At
def cell0 : CellA := ⟨0, ByteArray.empty, 0, 0, ByteArray.empty, []⟩
/-- a cell's cells -/
abbrev c6L (x : CellA) (v : Value) : List Value := [.int .i32 x.rune, .string x.kind, .int .i64 x.vk, .int .i64 x.vn, .string x.vt, v]
abbrev c6A (x : CellA) (v : Value) : Array Value := #[.int .i32 x.rune, .string x.kind, .int .i64 x.vk, .int .i64 x.vn, .string x.vt, v]
def CellA.tup (o : CellA) : Int × ByteArray × (Int × Int × ByteArray) × List At := (o.rune, o.kind, (o.vk, o.vn, o.vt), o.attrs)
def kCell : Kd CellA := Kd.comap CellA.tup (Kd.pair (Kd.int .i32) (Kd.pair Kd.string (Kd.pair (Kd.pair (Kd.int .i64) (Kd.pair (Kd.int .i64) Kd.string)) kAttrs)))
def cellV (x : CellA) (A : Option Addr) (c : Nat) : List Value := [.int .i32 x.rune, .string x.kind, .int .i64 x.vk, .int .i64 x.vn, .string x.vt, .slice A x.attrs.length c]
theorem kCell_K {w : World} {x : CellA} {cs : List Value} (h : kCell.K w x cs) : ∃ A c, cs = cellV x A c ∧ x.attrs.length ≤ c ∧ kAttr.C w A x.attrs.length x.attrs := by
  obtain ⟨_, _, rfl, rfl, _, _, rfl, rfl, _, _, rfl, ⟨_, _, rfl, rfl, _, _, rfl, rfl, rfl⟩, A, c, rfl, hl, hC⟩ := h
  exact ⟨A, c, rfl, hl, hC⟩
theorem kCell_K_of {w : World} {x : CellA} {A : Option Addr} {c : Nat} (hl : x.attrs.length ≤ c) (hC : kAttr.C w A x.attrs.length x.attrs) : kCell.K w x (cellV x A c) :=
  ⟨[.int .i32 x.rune], _, rfl, rfl, [.string x.kind], _, rfl, rfl, [.int .i64 x.vk, .int .i64 x.vn, .string x.vt], _, rfl, ⟨[.int .i64 x.vk], _, rfl, rfl, [.int .i64 x.vn], _, rfl, rfl, rfl⟩, A, c, rfl, hl, hC⟩
theorem Kd.atCell {w : World} {A : Option Addr} {n : Nat} {xs : List CellA} (h : kCell.C w A n xs) {i : Int} (h0 : 0 ≤ i) (h1 : i < n) : ∃ ad B c, A = some ad ∧ CellsAt w (ad.add (i.toNat * 6)) (cellV (xs.getD i.toNat cell0) B c) ∧ (xs.getD i.toNat cell0).attrs.length ≤ c ∧ kAttr.C w B (xs.getD i.toNat cell0).attrs.length (xs.getD i.toNat cell0).attrs := by
  obtain ⟨ad, cs, e, hK, hc⟩ := Kd.atC h cell0 h0 h1
  obtain ⟨B, c, rfl, hl, hC⟩ := kCell_K hK
  exact ⟨ad, B, c, e, hc, hl, hC⟩
theorem kCell_M {w : World} {base : Nat} {ok : Nat → Prop} {x : CellA} {B : Option Addr} {c : Nat} (h : kAttrs.M w base ok x.attrs [.slice B x.attrs.length c]) : kCell.M w base ok x (cellV x B c) :=
  ⟨[.int .i32 x.rune], _, rfl, rfl, [.string x.kind], _, rfl, rfl, [.int .i64 x.vk, .int .i64 x.vn, .string x.vt], _, rfl, ⟨[.int .i64 x.vk], _, rfl, rfl, [.int .i64 x.vn], _, rfl, rfl, rfl⟩, h⟩
theorem kCell_M0 {w : World} {base : Nat} {ok : Nat → Prop} (x : CellA) (h : x.attrs = []) : kCell.M w base ok x (cellV x none 0) := by
  obtain ⟨a, b, c, d, e, at9⟩ := x
  obtain rfl : at9 = [] := h
  exact kCell_M kAttrs_nil
theorem repsCell0 {w : World} {base : Nat} {ok : Nat → Prop} : Reps (kCell.M w base ok) 6 [] [] := Reps.none _ _
/-- a walk over a string's scalars has moved: a row is no such walk -/
theorem Kd.R_iter {α : Type} {d : Kd α} {e : Nat} {w w1 : World} {base : Nat} {ok : Nat → Prop} {v : Value} {xs : List α} {g p : Nat} {s : ByteArray} (h : d.R e w base ok v xs) (hg : w.heap[g]? = some (.stringIter s p)) (k : w.grownBy w1 (some g)) : d.R e w1 base ok v xs := by
  have h2 := Kd.R_bound h
  refine Kd.R_mono (Kd.R_grown h2 k (fun j hj e1 => ?_)) (fun j hj => hj.1)
  obtain ⟨_, _, _, q, _, cells, hc⟩ := hj
  obtain rfl : j = g := by injection e1
  rw [hg] at hc
  cases hc
theorem Kd.iter_kept {α : Type} {d : Kd α} {e : Nat} {w w1 : World} {base : Nat} {ok : Nat → Prop} {A : Option Addr} {n c : Nat} {xs : List α} {g p : Nat} {s : ByteArray} (hg : w.heap[g]? = some (.stringIter s p)) (h : d.R e w base ok (.slice A n c) xs) (k : w.grownBy w1 (A.map (·.block))) : w1.heap[g]? = some (.stringIter s p) := by
  obtain ⟨_, _, _, _, hk⟩ := k
  refine (hk g (Array.getElem?_eq_some_iff.1 hg).1 fun e1 => ?_).trans hg
  obtain ⟨inner, ho⟩ := Kd.R_own h
  obtain ⟨cells, hc⟩ := own_typed ho g (by rw [ownB]; exact e1.symm)
  rw [hg] at hc
  cases hc
end Go.Proofs.YtgphmfnkeolbcaaDoor.RX
/- Regions that draw their order, look and act: what looks sees only what every world of a class has. No condition. -/

set_option linter.unusedVariables false
set_option linter.unusedSimpArgs false
namespace Go.Proofs.YtgphmfnkeolbcaaDoor.RX
open Go Go.RowKit Go.Proofs.YtgphmfnkeolbcaaDoorW.PrintLast

def XG (P : Program) (N : Nat) (ops : Array Oper) (S : World → Prop) (ds : List Nat) (fuel : Nat) (listed : Array Bool) (qs : QS) (l : Slots) (w : World) : Prop :=
  ∀ a, Fr N l a → wpAnyLast P .any ops (lift N qs) S ds fuel listed a w

theorem XG_gP {P : Program} {N : Nat} {ops : Array Oper} {S : World → Prop} {w0 : World} {ds : List Nat} {qs : QS} {ov : List (Nat × Ov)} {fuel : Nat} (hq : Deaf qs) (hS : S w0) : ∀ (ids : List Nat) (listed : Array Bool) (l : Slots) (vs : List Value) (listed' : Array Bool) (l' : Slots) (cs : World → List Prop),
    (∀ w, gA P N ops ov ds false w ids listed l = some (vs, listed', l', List.replicate ids.length w, cs w)) → (∀ w, S w → allP (cs w)) → XG P N ops S ds fuel listed' qs l' w0 → XG P N ops S ds (ids.length + fuel) listed qs l w0 := by
  intro ids
  induction ids with
  | nil =>
    intro listed l vs listed' l' cs h _ hn
    have h := h w0
    simp only [gA, Option.some.injEq, Prod.mk.injEq] at h
    obtain ⟨_, rfl, rfl, _⟩ := h
    simpa using hn
  | cons i r ih =>
    intro listed l vs listed' l' cs h hc hn a ha
    have h0 := h w0
    simp only [gA] at h0
    split at h0
    · cases h0
    · rename_i o ho
      cases hb : (o.dst.isSome && okD N o.dst && Region.noSelect ops && Region.free .any ops listed i && (Region.ready .any ops listed).contains i && Region.closedB .any ops listed && (false || Region.lastB .any ops listed ds i)) with
      | false => rw [hb] at h0; cases h0
      | true =>
        rw [hb] at h0
        simp only [cond_true] at h0
        have hb' := hb
        simp only [Bool.and_eq_true, Bool.false_or] at hb'
        obtain ⟨⟨⟨⟨⟨⟨hsome, hd⟩, hs⟩, hf⟩, hr⟩, hcl⟩, hla⟩ := hb'
        rw [show (i :: r).length + fuel = (r.length + fuel) + 1 from by simp; omega]
        split at h0
        · rename_i hg
          split at h0
          · rename_i v w1 cs1 h1
            split at h0
            · rename_i vs2 ls l2 ws cs2 h2
              simp only [Option.some.injEq, Prod.mk.injEq, List.length_cons, List.replicate_succ, List.cons.injEq] at h0
              obtain ⟨rfl, rfl, rfl, _, _⟩ := h0
              have hall : ∀ w, ∃ c1 c2, gx1 P l w o (ovOf ov o.dst) = some (v, w, c1) ∧ gA P N ops ov ds false w r (listed.setIfInBounds i true) (putS l o.dst v) = some (vs2, ls, l2, List.replicate r.length w, c2) ∧ cs w = c1 ++ c2 := by
                intro w
                have hw := h w
                simp only [gA, ho, hb, cond_true, hg] at hw
                split at hw
                · rename_i v' w' c1 e1
                  split at hw
                  · rename_i vs' ls' l2' ws' c2 e2
                    simp only [Option.some.injEq, Prod.mk.injEq, List.length_cons, List.replicate_succ, List.cons.injEq] at hw
                    obtain ⟨⟨rfl, rfl⟩, rfl, rfl, ⟨rfl, rfl⟩, hcw⟩ := hw
                    exact ⟨c1, c2, e1, e2, hcw.symm⟩
                  · cases hw
                · cases hw
              refine wpAnyLast_take (v := v) ho hs hf hr hcl hla (deaf_lift hq _ _) (.inl ⟨gd_ok ha hg, fun w hw => ?_⟩) hS ?_
              · obtain ⟨c1, c2, e1, _, ec⟩ := hall w
                have hcw := hc w hw
                rw [ec] at hcw
                rcases gx1_ok e1 (allP_append hcw).1 ha with hrun | ⟨_, _, hn⟩
                · exact hrun
                · rw [hn] at hsome; cases hsome
              · exact ih _ _ _ _ _ (fun w => ((gA P N ops ov ds false w r (listed.setIfInBounds i true) (putS l o.dst v)).map (·.2.2.2.2)).getD []) (fun w => by
                  obtain ⟨c1, c2, _, e2, _⟩ := hall w
                  rw [e2]; rfl) (fun w hw => by
                  obtain ⟨c1, c2, _, e2, ec⟩ := hall w
                  rw [e2]
                  have hcw := hc w hw
                  rw [ec] at hcw
                  exact (allP_append hcw).2) hn _ (ha.putS hd v)
            · cases h0
          · cases h0
        · rename_i hg
          split at h0
          · rename_i vs2 ls l2 ws cs2 h2
            simp only [Option.some.injEq, Prod.mk.injEq, List.length_cons, List.replicate_succ, List.cons.injEq] at h0
            obtain ⟨rfl, rfl, rfl, _, _⟩ := h0
            have hall : ∀ w, gA P N ops ov ds false w r (listed.setIfInBounds i true) (putS l o.dst undef) = some (vs2, ls, l2, List.replicate r.length w, cs w) := by
              intro w
              have hw := h w
              simp only [gA, ho, hb, cond_true, hg] at hw
              split at hw
              · rename_i vs' ls' l2' ws' c2 e2
                simp only [Option.some.injEq, Prod.mk.injEq, List.length_cons, List.replicate_succ, List.cons.injEq] at hw
                obtain ⟨⟨_, rfl⟩, rfl, rfl, ⟨_, rfl⟩, rfl⟩ := hw
                exact e2
              · cases hw
            exact wpAnyLast_take (v := undef) ho hs hf hr hcl hla (deaf_lift hq _ _) (.inr ⟨gd_ok ha hg, rfl⟩) hS (ih _ _ _ _ _ cs hall hc hn _ (ha.putS hd undef))
          · cases h0
        · cases h0

section
variable {P : Program} {N : Nat} {ops : Array Oper} {S : World → Prop} {w : World} {ds : List Nat} {qs : QS} {l : Slots}
theorem XG_run {fuel fuel' : Nat} {listed : Array Bool} (hS : S w) (ids : List Nat) (ov : List (Nat × Ov)) (vs : List Value) (listed' : Array Bool) (l' : Slots) (cs : World → List Prop) (hq : Deaf qs)
    (h : ∀ w, (gA P N ops ov ds false w ids listed l).map (fun r => (r.1, r.2.1, keep r.2.2.1 (l'.map (·.1)), r.2.2.2)) = some (vs, listed', l', List.replicate ids.length w, cs w)) (hf : fuel = ids.length + fuel') (hc : ∀ w, S w → allP (cs w)) (hn : XG P N ops S ds fuel' listed' qs l' w) : XG P N ops S ds fuel listed qs l w := by
  subst hf
  have h2 : ∀ w, gA P N ops ov ds false w ids listed l = some (vs, listed', putIds ops ids vs l, List.replicate ids.length w, cs w) ∧ keep (putIds ops ids vs l) (l'.map (·.1)) = l' := by
    intro w
    obtain ⟨r, hr, he⟩ := Option.map_eq_some_iff.1 (h w)
    obtain ⟨vs1, ls1, l1, ws1, cs1⟩ := r
    simp only [Prod.mk.injEq] at he
    obtain ⟨rfl, rfl, he, rfl, rfl⟩ := he
    have := gA_slots _ _ _ _ _ _ _ _ hr
    subst this
    exact ⟨hr, he⟩
  refine XG_gP hq hS ids listed l _ _ _ _ (fun w => (h2 w).1) hc ?_
  intro a ha
  exact hn a (by rw [← (h2 w).2]; exact ha.keep _)
/-- what makes new memory comes up alone, and others are yet to come that look -/
theorem XG_mid {fuel fuel' : Nat} {listed : Array Bool} (i : Nat) (listed' : Array Bool) (o : Oper) (h0 : ops[i]? = some o) (hr : Region.ready .any ops listed = [i]) (hl : listed.setIfInBounds i true = listed') (hf : fuel = fuel' + 1)
    (h : XL P N ops [o] (thenS (fun l' w' => S w' ∧ XG P N ops S ds fuel' listed' qs l' w') qs) l w) : XG P N ops S ds fuel listed qs l w := by
  subst hf
  subst hl
  intro a ha
  refine wpAnyLast_all hr (by simp) fun j hj => ?_
  obtain rfl : j = i := by simpa using hj
  have h1 := h a ha
  unfold wpOp
  simp only [h0]
  have hm : ∀ a' w', lift N (thenS (fun l' w' => S w' ∧ XG P N ops S ds fuel' (listed.setIfInBounds j true) qs l' w') qs) .normal a' w' →
      (j ∉ ds → S w → S w') ∧ wpAnyLast P .any ops (lift N qs) S ds fuel' (listed.setIfInBounds j true) a' w' := by
    rintro a' w' ⟨l', hl', hb, hx⟩
    exact ⟨fun _ _ => hb, hx a' hl'⟩
  unfold wpList at h1
  split at h1
  · rename_i hw
    rw [if_pos hw]
    refine h1.imp (fun h1 => upon_Q (Q := lift N (thenS (fun l' w' => S w' ∧ XG P N ops S ds fuel' (listed.setIfInBounds j true) qs l' w') qs)) (fun _ _ _ hx => hx) (fun hx => hx) (Oper.wp_mono (fun a' w' hx => hm a' w' hx) h1)) (fun h => h)
  · rename_i hw
    rw [if_neg hw]
    exact hm _ _ h1
theorem XG_done {fuel : Nat} {listed : Array Bool} (hr : Region.ready .any ops listed = []) (h : qs .normal l w) : XG P N ops S ds fuel listed qs l w := fun a ha => wpAnyLast_done hr ⟨l, ha, h⟩ fuel
theorem X_gen {id : Nat} (ds : List Nat) (fuel : Nat) (listed : Array Bool) (hm : P.follows .mixedOrders = true) (hs : ops.size = fuel) (hl : Array.replicate fuel false = listed)
    (h : ∀ wd, Below w.heap.size w wd → wd.heap = w.heap → XG P N ops S ds fuel listed qs l wd) : X P N (.region id ops true) qs l w := by
  subst hs
  subst hl
  intro a ha
  exact wp_region_last hm (S := S) (ds := ds) (h _ (below_drew w) rfl a ha)
end
end Go.Proofs.YtgphmfnkeolbcaaDoor.RX
