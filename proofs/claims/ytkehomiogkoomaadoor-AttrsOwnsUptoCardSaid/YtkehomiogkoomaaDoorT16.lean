import Derived.Test.YtkehomiogkoomaaDoorStr
import Derived.Test.YtkehomiogkoomaaDoorCap2
import Derived.Test.YtkehomiogkoomaaDoorHand
import Derived.Test.YtkehomiogkoomaaDoorUtf4
import Derived.Test.YtkehomiogkoomaaDoorT13
import Derived.Test.YtkehomiogkoomaaDoorOver2
/- Rows of the call's own whose elements' memory lies elsewhere, unchanged since a world W0. No condition. -/
set_option linter.unusedVariables false
set_option maxRecDepth 100000
namespace Go.Proofs.YtkehomiogkoomaaDoor.RX
open Go Go.RowKit Go.Proofs.YtkehomiogkoomaaDoor Go.Proofs.YtkehomiogkoomaaDoorW.PrintWords
def MixK {α : Type} (d : Kd α) (z : α) (e B : Nat) (W0 w : World) (A : Option Addr) (n c : Nat) (xs : List α) : Prop :=
  ∃ vs, (kRaw d.sz).R e w B (OkFrom B) (.slice A n c) vs ∧ vs.length = xs.length ∧ ∀ i, i < xs.length → d.K W0 (xs.getD i z) (vs.getD i [])
section
variable {α : Type} {d : Kd α} {z : α} {e B : Nat} {W0 W w w1 : World} {A A' : Option Addr} {n c m c' : Nat} {xs ys : List α}
theorem MixK.nil {b2 : Nat} (h : d.R e w b2 (OkFrom b2) (.slice A n c) []) (hb : B ≤ b2) : MixK d z e B W0 w A n c [] := by
  obtain ⟨vs, h1, h2, _⟩ := Kd.R_raw2 z h
  exact ⟨vs, Kd.R_low h1 hb, h2, fun i hi => absurd hi (Nat.not_lt_zero _)⟩
theorem MixK.len (h : MixK d z e B W0 w A n c xs) : n = xs.length ∧ n ≤ c := by
  obtain ⟨vs, hR, hl, _⟩ := h
  obtain ⟨h1, h2⟩ := Kd.R_len hR
  exact ⟨by omega, h2⟩
theorem MixK.below (h : MixK d z e B W0 w A n c xs) (hb : Below w.heap.size w w1) : MixK d z e B W0 w1 A n c xs := by
  obtain ⟨vs, hR, hl, hK⟩ := h
  exact ⟨vs, Kd.R_below hR hb, hl, hK⟩
theorem MixK.C (h : MixK d z e B W0 w A n c xs) (hB : Below W0.heap.size W0 w) : d.C w A n xs := by
  obtain ⟨h1, h2⟩ := h.len
  obtain ⟨vs, hR, hl, hK⟩ := h
  exact Kd.C_ofRaw z (Kd.R_C hR) h1.symm fun i hi => d.K_below hB (hK i (by omega))
theorem MixK.at (h : MixK d z e B W0 w A n c xs) {i : Int} (h0 : 0 ≤ i) (h1 : i < n) : ∃ ad cs, A = some ad ∧ CellsAt w (ad.add (i.toNat * d.sz)) cs ∧ d.K W0 (xs.getD i.toNat z) cs := by
  obtain ⟨hl1, _⟩ := h.len
  obtain ⟨vs, hR, hl, hK⟩ := h
  obtain ⟨ad, cs, e1, hM, hc⟩ := Kd.R_at [] hR h0 h1
  obtain ⟨rfl, _⟩ := (kRaw d.sz).K_of_M hM
  exact ⟨ad, _, e1, hc, hK _ (by omega)⟩
/-- a beginning of it, as raw cells -/
theorem MixK.take (h : MixK d z e B W0 w A n c xs) (hm : m ≤ n) : ∃ vs2, (kRaw d.sz).C w A m vs2 ∧ ∀ i, i < m → d.K W0 ((xs.take m).getD i z) (vs2.getD i []) := by
  obtain ⟨hl1, _⟩ := h.len
  obtain ⟨vs, hR, hl, hK⟩ := h
  refine ⟨vs.take m, Kd.C_take (Kd.R_C hR) hm, fun i hi => ?_⟩
  rw [List.getD_eq_getElem?_getD, List.getElem?_take, if_pos hi, List.getD_eq_getElem?_getD, List.getElem?_take, if_pos hi, ← List.getD_eq_getElem?_getD, ← List.getD_eq_getElem?_getD]
  exact hK i (by omega)
end
theorem MixK.low {α : Type} {d : Kd α} {z : α} {e B B2 : Nat} {W0 w : World} {A : Option Addr} {n c : Nat} {xs : List α} (h : MixK d z e B2 W0 w A n c xs) (hb : B ≤ B2) : MixK d z e B W0 w A n c xs := by
  obtain ⟨vs, hR, h2, h3⟩ := h
  exact ⟨vs, Kd.R_low hR hb, h2, h3⟩
theorem MixK.lt {α : Type} {d : Kd α} {z : α} {e B : Nat} {W0 w : World} {A : Option Addr} {n c : Nat} {xs : List α} (h : MixK d z e B W0 w A n c xs) : ∀ k, A.map (·.block) = some k → k < w.heap.size := by
  obtain ⟨vs, hR, _⟩ := h
  exact Kd.R_lt hR
theorem Blk.off {w w1 : World} {g : Nat} {t : TypeId} {cs : Array Value} {r : Option Nat} (h : Blk w g t cs) (k : w.grownBy w1 r) (hn : ∀ x, r = some x → x ≠ g) : Blk w1 g t cs := (k.block g h.lt (fun e => hn g e.symm rfl)).trans h
/-- an operation of such a row -/
theorem MixK.op {e B : Nat} {W0 w : World} {A : Option Addr} {n c : Nat} {xs : List OpA} (h : MixK kOp op0 e B W0 w A n c xs) {i : Int} (h0 : 0 ≤ i) (h1 : i < n) : ∃ ad B c, A = some ad ∧ CellsAt w (ad.add (i.toNat * 7)) (opV (xs.getD i.toNat op0) B c) ∧ (xs.getD i.toNat op0).attrs.length ≤ c ∧ kAttr.C W0 B (xs.getD i.toNat op0).attrs.length (xs.getD i.toNat op0).attrs := by
  obtain ⟨ad, cs, e1, hc, hK⟩ := h.at h0 h1
  obtain ⟨B, c, rfl, hl, hC⟩ := kOp_K hK
  exact ⟨ad, B, c, e1, hc, hl, hC⟩
end Go.Proofs.YtkehomiogkoomaaDoor.RX
/- Builders: operations that are cut in pieces, and inserts that change places with the deletes behind them. No condition. -/
set_option linter.unusedVariables false
set_option linter.unusedSimpArgs false
set_option maxRecDepth 100000
namespace Go.Proofs.YtkehomiogkoomaaDoor
open Go Go.RowKit Go.Proofs.YtkehomiogkoomaaDoorW.PrintWords RX
namespace B
/-- l is o itself or two pieces of it -/
structure Two (o a b : OpA) : Prop where
  pa : pErr a = 0
  pb : pErr b = 0
  m : meets a b
  e : jo a b = o
  sb : opB a + opB b = opB o
  sr : opR a + opR b = opR o
  ft : fine o → fine a ∧ fine b
def kN (cs : List Int) (i : Nat) : Nat := (Int.tmod (IntKind.u64.wrap (cs.getD (i % cs.length) 0)) 1000).toNat
noncomputable def cutAt (o : OpA) (K : Nat) : Nat := if o.kind = 1 then K % (U.scz o.text).length else if o.kind ≠ 2 then K % o.count.toNat else 0
noncomputable def pA (o : OpA) (k : Nat) : OpA := if o.kind = 1 then ⟨o.kind, runesBytes ((U.scz o.text).take k), o.vk, o.vn, o.vt, o.count, o.attrs⟩ else if o.kind ≠ 2 then ⟨o.kind, o.text, o.vk, o.vn, o.vt, (k : Int), o.attrs⟩ else o
noncomputable def pB (o : OpA) (k : Nat) : OpA := if o.kind = 1 then ⟨o.kind, runesBytes ((U.scz o.text).drop k), o.vk, o.vn, o.vt, o.count, o.attrs⟩ else if o.kind ≠ 2 then ⟨o.kind, o.text, o.vk, o.vn, o.vt, o.count - (k : Int), o.attrs⟩ else o
noncomputable def pcs (o : OpA) (K : Nat) : List OpA := (if 0 < cutAt o K then [pA o (cutAt o K)] else []) ++ [pB o (cutAt o K)]
/-- the pieces of the first i operations -/
noncomputable def parts (ys : List OpA) (cs : List Int) : Nat → List OpA
  | 0 => []
  | i + 1 => parts ys cs i ++ pcs (ys.getD i op0) (kN cs i)
end B
end Go.Proofs.YtkehomiogkoomaaDoor
/- vellumref06.Canonical by its loop: gaps of inserts, deletes counted. No condition. -/
set_option linter.unusedVariables false
set_option linter.unusedSimpArgs false
set_option maxRecDepth 100000
namespace Go.Proofs.YtkehomiogkoomaaDoor
open Go Go.RowKit Go.Proofs.YtkehomiogkoomaaDoorW.PrintWords RX
namespace B
section
variable {xs out gap : List OpA} {g : Int} {i : Nat}
end
end B
namespace RX
theorem MixK.off {α : Type} {d : Kd α} {z : α} {e B : Nat} {W0 w w1 : World} {A : Option Addr} {n c : Nat} {xs : List α} {r : Option Nat} (h : MixK d z e B W0 w A n c xs) (k : w.grownBy w1 r) (hne : ∀ x, r = some x → A.map (·.block) ≠ some x) : MixK d z e B W0 w1 A n c xs := by
  obtain ⟨vs, hR, hl, hK⟩ := h
  exact ⟨vs, Kd.R_flat rfl hR k hne, hl, hK⟩
/-- two rows' blocks, apart -/
def Apt (A A' : Option Addr) : Prop := ∀ x, A.map (·.block) = some x → A'.map (·.block) ≠ some x
theorem Apt.none (A' : Option Addr) : Apt .none A' := fun x h => by cases h
theorem Apt.symm {A A' : Option Addr} (h : Apt A A') : Apt A' A := fun x h1 h2 => h x h2 h1
end RX
end Go.Proofs.YtkehomiogkoomaaDoor
/- vellumref06.Canonical: B.can. Conditions: sizes, good operations. -/
set_option linter.unusedVariables false
set_option linter.unusedSimpArgs false
set_option maxRecDepth 100000
namespace Go.Proofs.YtkehomiogkoomaaDoor
open Go Go.RowKit Go.Proofs.YtkehomiogkoomaaDoorW.PrintWords RX
namespace B
end B
/-- a list of operations that lies at w, their attributes as they lay at W0 -/
def RX.OpK (W0 w : World) (A : Option Addr) (n : Nat) (xs : List OpA) : Prop := n ≤ 9223372036854775807 ∧ ∀ i : Int, 0 ≤ i → i < n → ∃ ad B c, A = some ad ∧ CellsAt w (ad.add (i.toNat * 7)) (opV (xs.getD i.toNat op0) B c) ∧ (xs.getD i.toNat op0).attrs.length ≤ c ∧ kAttr.C W0 B (xs.getD i.toNat op0).attrs.length (xs.getD i.toNat op0).attrs
theorem RX.OpK.op {W0 w : World} {A : Option Addr} {n : Nat} {xs : List OpA} (h : RX.OpK W0 w A n xs) {i : Int} (h0 : 0 ≤ i) (h1 : i < n) : ∃ ad B c, A = some ad ∧ CellsAt w (ad.add (i.toNat * 7)) (opV (xs.getD i.toNat op0) B c) ∧ (xs.getD i.toNat op0).attrs.length ≤ c ∧ kAttr.C W0 B (xs.getD i.toNat op0).attrs.length (xs.getD i.toNat op0).attrs := h.2 i h0 h1
theorem RX.OpK.below {W0 w w1 : World} {A : Option Addr} {n : Nat} {xs : List OpA} (h : RX.OpK W0 w A n xs) (hb : Below w.heap.size w w1) : RX.OpK W0 w1 A n xs := ⟨h.1, fun i h0 h1 => by
 obtain ⟨ad, B, c, a, b, d⟩ := h.2 i h0 h1
 exact ⟨ad, B, c, a, cells_below b hb, d⟩⟩
end Go.Proofs.YtkehomiogkoomaaDoor
