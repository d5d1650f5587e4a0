import Derived.Test.YtkehomiogkoomaaDoorT45
import Derived.Test.YtkehomiogkoomaaDoorA3
import Derived.Test.YtkehomiogkoomaaDoorT16
import Derived.Test.YtkehomiogkoomaaDoorRef3
import Derived.Test.YtkehomiogkoomaaDoorT14
import Derived.Test.YtkehomiogkoomaaDoorErr
import Derived.Test.YtkehomiogkoomaaDoorKd
/- Values of the interface compared; law03.same. Conditions: the errors' variables. -/
set_option linter.unusedVariables false
set_option linter.unusedSimpArgs false
set_option maxRecDepth 100000
namespace Go.Proofs.YtkehomiogkoomaaDoor
open Go Go.RowKit Go.Proofs.YtkehomiogkoomaaDoorW.PrintWords RX
section
variable {P : Program} {w : World} {ti tx ty : TypeId} {ms : Array (String × TypeId)} {i : TypeInfo} {vx vy : Value} {r : Bool}
end
/-- are the values of the interface the same? -/
def veq (a b : Pl) : Bool :=
 if a.1 = 1 then (if b.1 = 1 then decide (a.2.1 = 1) == decide (b.2.1 = 1) else false)
 else if a.1 = 2 then (if b.1 = 2 then a.2.1 == b.2.1 else false)
 else if a.1 = 3 then (if b.1 = 3 then a.2.2.toList == b.2.2.toList else false)
 else (if b.1 = 1 then false else if b.1 = 2 then false else if b.1 = 3 then false else true)
theorem veq_refl (a : Pl) : veq a a = true := by
 unfold veq
 by_cases h1 : a.1 = 1
 ·rw [if_pos h1, if_pos h1]; exact beq_self_eq_true _
 rw [if_neg h1]
 by_cases h2 : a.1 = 2
 ·rw [if_pos h2, if_pos h2]; exact beq_self_eq_true _
 rw [if_neg h2]
 by_cases h3 : a.1 = 3
 ·rw [if_pos h3, if_pos h3]; exact beq_self_eq_true _
 rw [if_neg h3, if_neg h1, if_neg h2, if_neg h3]
/-- what came so far is what lies in L -/
def okP (L pre : List At) : Prop := pre.length ≤ L.length ∧ ∀ t, t < pre.length → (pre.getD t at0).1 = (L.getD t at0).1 ∧ veq (pre.getD t at0).2 (L.getD t at0).2 = true
theorem okP_take {L pre : List At} (h : pre = L.take pre.length ∧ pre.length ≤ L.length) : okP L pre := by
 refine ⟨h.2, fun t ht => ?_⟩
 have e : pre.getD t at0 = L.getD t at0 := by
  have h1 : pre.getD t at0 = (L.take pre.length).getD t at0 := congrArg (fun l : List At => l.getD t at0) h.1
  rw [h1, List.getD_eq_getElem?_getD, List.getElem?_take, if_pos ht, List.getD_eq_getElem?_getD]
 rw [e]
 exact ⟨rfl, veq_refl _⟩
end Go.Proofs.YtkehomiogkoomaaDoor
/- Lists whose memory lies apart, one of them written over. No condition. -/
set_option linter.unusedVariables false
set_option linter.unusedSimpArgs false
set_option maxRecDepth 100000
namespace Go.Proofs.YtkehomiogkoomaaDoor
open Go Go.RowKit Go.Proofs.YtkehomiogkoomaaDoorW.PrintWords RX
/-- what one that is written over may touch -/
def OkI (lo hi top : Nat) : Nat → Prop := fun g => (lo ≤ g ∧ g < hi) ∨ top ≤ g
theorem spo_below {es ok : Nat → Prop} {w w1 : World} {n : Nat} (h : SpoilO es ok w w1) (hn : n ≤ w.heap.size) (hok : ∀ g, ok g → n ≤ g) : Below n w w1 :=
  ⟨h.os, h.tape, h.output, h.size, fun g hg => (h.k g (Nat.lt_of_lt_of_le hg hn)).resolve_right fun ⟨a, _⟩ => by have := hok g a; omega⟩
theorem spo_C {es : Nat → Prop} {lo hi : Nat} {w w1 : World} {A : Option Addr} {n : Nat} {xs : List At} (hS : SpoilO es (OkI lo hi w.heap.size) w w1) (h : kAttr.C w A n xs) (hne : ∀ k, A.map (·.block) = some k → k < w.heap.size ∧ (k < lo ∨ hi ≤ k)) : kAttr.C w1 A n xs := by
  obtain ⟨h1, h2, h3⟩ := h
  refine ⟨h1, h2, fun h0 => ?_⟩
  obtain ⟨ad, rfl, hc⟩ := h3 h0
  obtain ⟨hl, hd⟩ := hne ad.block rfl
  have hb : w1.heap[ad.block]? = w.heap[ad.block]? := (hS.k ad.block hl).resolve_right fun ⟨a, _⟩ => by rcases a with a | a <;> omega
  refine ⟨ad, rfl, fun j p hj => ?_⟩
  obtain ⟨c, hs, hr, hcell⟩ := hc j p hj
  refine ⟨c, hs, by rw [kAttr_K hr]; exact kAttr.K_of_M (kAttr_M w1 0 (fun _ => False) p), fun i u hu => ?_⟩
  have hk : (ad.add (j * kAttr.sz + i)).block = ad.block := by unfold Addr.add; split <;> rfl
  exact (World.cell?_of_block (by rw [hk]; exact hb)).trans (hcell i u hu)
theorem spo_S {es : Nat → Prop} {lo hi : Nat} {w w1 : World} {A : Option Addr} {c : Nat} {xs : List At} (hS : SpoilO es (OkI lo hi w.heap.size) w w1) (h : xs = [] ∨ xs.length + 2 ≤ c ∧ kAttr.C w A (xs.length + 2) (xs ++ spL)) (hne : ∀ k, A.map (·.block) = some k → k < w.heap.size ∧ (k < lo ∨ hi ≤ k)) : xs = [] ∨ xs.length + 2 ≤ c ∧ kAttr.C w1 A (xs.length + 2) (xs ++ spL) :=
  h.imp id fun h => ⟨h.1, spo_C hS h.2 hne⟩
theorem hand_lies {w : World} {base : Nat} {xs : List At} {A : Option Addr} {c : Nat} (h : kAttrsH.M w base (OkFrom base) xs [.slice A xs.length c]) : (∀ k, A.map (·.block) = some k → base ≤ k ∧ k < w.heap.size) ∧ LiesO 71 4 (fun g => base ≤ g ∧ g < w.heap.size) w A xs.length c := by
  obtain ⟨A', c', e, h⟩ := h
  have e := (List.cons.inj e).1
  injection e with e1 _ e2
  subst e1; subst e2
  rcases h with ⟨rfl, rfl, rfl⟩ | ⟨v, hv, hR⟩
  · exact ⟨fun k hk => (by cases hk), (⟨Nat.le_refl _, by decide, .inl ⟨rfl, rfl⟩⟩ : LiesO _ 4 _ w none 0 0)⟩
  · obtain rfl := (List.cons.inj hv).1
    exact ⟨fun k hk => ⟨Kd.R_ge hR k hk, Kd.R_lt hR k hk⟩, (LiesO.of_R (d := kAttr) hR fun k h1 _ h3 => ⟨h1, h3⟩).less (Nat.le_add_right _ 2)⟩
theorem row_lies {w : World} {base : Nat} {xs : List At} {A : Option Addr} {n c : Nat} (hR : kAttr.R 71 w base (OkFrom base) (.slice A n c) xs) : (∀ k, A.map (·.block) = some k → base ≤ k ∧ k < w.heap.size) ∧ LiesO 71 4 (fun g => base ≤ g ∧ g < w.heap.size) w A n c :=
  ⟨fun k hk => ⟨Kd.R_ge hR k hk, Kd.R_lt hR k hk⟩, LiesO.of_R (d := kAttr) hR fun k h1 _ h3 => ⟨h1, h3⟩⟩
theorem lies_ok {lo hi top : Nat} {w : World} {A : Option Addr} {n c : Nat} (h : LiesO 71 4 (fun g => lo ≤ g ∧ g < hi) w A n c) : LiesO 71 4 (OkI lo hi top) w A n c := h.imp fun g hg => .inl hg
/-- the keys that came so far -/
def okQ (L pre : List At) : Prop := pre.length ≤ L.length ∧ ∀ t, t < pre.length → (pre.getD t at0).1 = (L.getD t at0).1
theorem okQ_nil (L : List At) : okQ L [] := ⟨Nat.zero_le _, fun t ht => by simp at ht⟩
theorem okQ_take {L pre : List At} (h : pre = L.take pre.length ∧ pre.length ≤ L.length) : okQ L pre := ⟨(okP_take h).1, fun t ht => ((okP_take h).2 t ht).1⟩
theorem okQ_snoc {L pre : List At} {x : At} (h : okQ L pre) (hl : pre.length < L.length) (hk : x.1 = (L.getD pre.length at0).1) : okQ L (pre ++ [x]) := by
  refine ⟨by rw [List.length_append, List.length_singleton]; exact hl, fun t ht => ?_⟩
  rw [List.length_append, List.length_singleton] at ht
  rcases Nat.lt_or_ge t pre.length with h1 | h1
  · have e : (pre ++ [x]).getD t at0 = pre.getD t at0 := by rw [List.getD_eq_getElem?_getD, List.getElem?_append_left h1, List.getD_eq_getElem?_getD]
    rw [e]; exact h.2 t h1
  · obtain rfl : t = pre.length := by omega
    have e : (pre ++ [x]).getD pre.length at0 = x := by simp [List.getD_eq_getElem?_getD]
    rw [e]; exact hk
theorem okQ_wrong {L pre : List At} {x : At} (h : okQ L (pre ++ [x])) : pre.length < L.length ∧ x.1 = (L.getD pre.length at0).1 := by
  have h1 := h.1
  rw [List.length_append, List.length_singleton] at h1
  have h2 := h.2 pre.length (by simp)
  have e : (pre ++ [x]).getD pre.length at0 = x := by simp [List.getD_eq_getElem?_getD]
  rw [e] at h2
  exact ⟨h1, h2⟩
end Go.Proofs.YtkehomiogkoomaaDoor
