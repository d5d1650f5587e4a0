import Derived.Test.YtkehomiogkoomaaDoorUtf3
import Derived.Test.YtkehomiogkoomaaDoorAt
import Derived.Test.YtkehomiogkoomaaDoorA2
import Derived.Sort.Walk0
import Derived.Test.YtkehomiogkoomaaDoorO2
import Derived.Test.YtkehomiogkoomaaDoorB1
import Derived.Test.YtkehomiogkoomaaDoorAn2
import Derived.Test.YtkehomiogkoomaaDoorStr
/- UTF-8, plainly: what the reference's ways answer, by a text's scalars. Plain, no program. No condition. -/

set_option linter.unusedVariables false
set_option linter.unusedSimpArgs false
set_option maxRecDepth 100000
namespace Go.Proofs.YtkehomiogkoomaaDoor.U
open Go Go.Lib

/-- how many bytes a first byte tells -/
def nOf (b : Nat) : Nat := if 240 ≤ b then 4 else if 224 ≤ b then 3 else if 192 ≤ b then 2 else 1
def r0Of (b : Nat) : Int := if 240 ≤ b then (b : Int) - 240 else if 224 ≤ b then (b : Int) - 224 else if 192 ≤ b then (b : Int) - 192 else (b : Int)
def acc (l : List UInt8) : Nat → Int
  | 0 => r0Of (g l 0)
  | k + 1 => acc l k * 64 + ((g l (k + 1) % 64 : Nat) : Int)
set_option maxHeartbeats 2000000 in
theorem acc_enc {r : Nat} (hv : vr r) (t : List UInt8) : nOf (g (enc r ++ t) 0) = (enc r).length ∧ acc (enc r ++ t) ((enc r).length - 1) = (r : Int) := by
  have hv' := hv
  unfold vr at hv'
  by_cases h1 : r < 128
  · rw [enc_1 h1]
    have e0 : g ([UInt8.ofNat r] ++ t) 0 = r := by simp only [g, List.cons_append, List.getD_cons_zero, UInt8.toNat_ofNat']; omega
    rw [e0]
    refine ⟨by unfold nOf; rw [if_neg (by omega), if_neg (by omega), if_neg (by omega)]; rfl, ?_⟩
    show r0Of (g ([UInt8.ofNat r] ++ t) 0) = _
    rw [e0]; unfold r0Of; rw [if_neg (by omega), if_neg (by omega), if_neg (by omega)]
  · by_cases h2 : r < 2048
    · rw [enc_2 (by omega) h2]
      generalize hl : [UInt8.ofNat (192 + r / 64), UInt8.ofNat (128 + r % 64)] ++ t = l
      have e0 : g l 0 = 192 + r / 64 := by rw [← hl]; simp only [g, List.cons_append, List.getD_cons_zero, UInt8.toNat_ofNat']; omega
      have e1 : g l 1 = 128 + r % 64 := by rw [← hl]; simp only [g, List.cons_append, List.getD_cons_zero, List.getD_cons_succ, UInt8.toNat_ofNat']; omega
      refine ⟨by rw [e0]; unfold nOf; rw [if_neg (by omega), if_neg (by omega), if_pos (by omega)]; rfl, ?_⟩
      show r0Of (g l 0) * 64 + ((g l 1 % 64 : Nat) : Int) = _
      rw [e0, e1]; unfold r0Of; rw [if_neg (by omega), if_neg (by omega), if_pos (by omega)]; omega
    · by_cases h3 : r < 65536
      · rw [enc_3 hv (by omega) h3]
        generalize hl : [UInt8.ofNat (224 + r / 4096), UInt8.ofNat (128 + r / 64 % 64), UInt8.ofNat (128 + r % 64)] ++ t = l
        have e0 : g l 0 = 224 + r / 4096 := by rw [← hl]; simp only [g, List.cons_append, List.getD_cons_zero, UInt8.toNat_ofNat']; omega
        have e1 : g l 1 = 128 + r / 64 % 64 := by rw [← hl]; simp only [g, List.cons_append, List.getD_cons_zero, List.getD_cons_succ, UInt8.toNat_ofNat']; omega
        have e2 : g l 2 = 128 + r % 64 := by rw [← hl]; simp only [g, List.cons_append, List.getD_cons_zero, List.getD_cons_succ, UInt8.toNat_ofNat']; omega
        refine ⟨by rw [e0]; unfold nOf; rw [if_neg (by omega), if_pos (by omega)]; rfl, ?_⟩
        show (r0Of (g l 0) * 64 + ((g l 1 % 64 : Nat) : Int)) * 64 + ((g l 2 % 64 : Nat) : Int) = _
        rw [e0, e1, e2]; unfold r0Of; rw [if_neg (by omega), if_pos (by omega)]; omega
      · rw [enc_4 hv (by omega)]
        generalize hl : [UInt8.ofNat (240 + r / 262144), UInt8.ofNat (128 + r / 4096 % 64), UInt8.ofNat (128 + r / 64 % 64), UInt8.ofNat (128 + r % 64)] ++ t = l
        have e0 : g l 0 = 240 + r / 262144 := by rw [← hl]; simp only [g, List.cons_append, List.getD_cons_zero, UInt8.toNat_ofNat']; omega
        have e1 : g l 1 = 128 + r / 4096 % 64 := by rw [← hl]; simp only [g, List.cons_append, List.getD_cons_zero, List.getD_cons_succ, UInt8.toNat_ofNat']; omega
        have e2 : g l 2 = 128 + r / 64 % 64 := by rw [← hl]; simp only [g, List.cons_append, List.getD_cons_zero, List.getD_cons_succ, UInt8.toNat_ofNat']; omega
        have e3 : g l 3 = 128 + r % 64 := by rw [← hl]; simp only [g, List.cons_append, List.getD_cons_zero, List.getD_cons_succ, UInt8.toNat_ofNat']; omega
        refine ⟨by rw [e0]; unfold nOf; rw [if_pos (by omega)]; rfl, ?_⟩
        show ((r0Of (g l 0) * 64 + ((g l 1 % 64 : Nat) : Int)) * 64 + ((g l 2 % 64 : Nat) : Int)) * 64 + ((g l 3 % 64 : Nat) : Int) = _
        rw [e0, e1, e2, e3]; unfold r0Of; rw [if_pos (by omega)]; omega

theorem first_none {l : List UInt8} {rs : List Nat} {t : List UInt8} (h : Brk l rs t) (n : Nat) (hn : n = nOf (g l 0)) (r : Int) (hr : r = acc l (n - 1)) (hno : ¬ (n ≤ l.length ∧ vz r ∧ enc r.toNat = l.take n)) : headP rs = (0, 0) := by
  match rs, h with
  | [], h => rfl
  | r' :: rs, h =>
    exfalso
    refine hno ?_
    have hv' := h.ok r' (by simp)
    have e := h.eq
    rw [flat_cons, List.append_assoc] at e
    obtain ⟨h1, h2⟩ := acc_enc hv' (flat rs ++ t)
    rw [← e] at h1 h2
    have hnn : n = (enc r').length := hn.trans h1
    rw [hnn, h2] at hr
    subst hr
    refine ⟨?_, ⟨by omega, by rw [Int.toNat_natCast]; exact hv'⟩, ?_⟩
    · rw [hnn, e, List.length_append]; omega
    · rw [Int.toNat_natCast, hnn, e, List.take_left]
noncomputable def scz (s : ByteArray) : List Int := (sc s).map fun (r : Nat) => (r : Int)
end Go.Proofs.YtkehomiogkoomaaDoor.U
/- Patches: rising lists of attributes, looked up by their keys. Plain lists, no program. No condition. -/
set_option linter.unusedVariables false
set_option linter.unusedSimpArgs false
namespace Go.Proofs.YtkehomiogkoomaaDoor
open Go RX

abbrev kl (a b : ByteArray) : Bool := Op.bytesLess a.toList b.toList
theorem kl_iff {a b : ByteArray} : kl a b = true ↔ a.toList < b.toList := by unfold kl; rw [bytesLess_eq]; simp
theorem kl_trans {a b c : ByteArray} (h1 : kl a b = true) (h2 : kl b c = true) : kl a c = true := kl_iff.2 (List.lt_trans (kl_iff.1 h1) (kl_iff.1 h2))
def Ris (xs : List At) : Prop := xs.Pairwise (fun x y => kl x.1 y.1 = true)
theorem Ris.tail {x : At} {xs : List At} (h : Ris (x :: xs)) : Ris xs := (List.pairwise_cons.1 h).2
theorem Ris.head {x : At} {xs : List At} (h : Ris (x :: xs)) : ∀ y ∈ xs, kl x.1 y.1 = true := (List.pairwise_cons.1 h).1
theorem Ris.below {x : At} {xs : List At} {k : ByteArray} (h : Ris (x :: xs)) (hk : kl k x.1 = true) : ∀ y ∈ x :: xs, kl k y.1 = true := by
  intro y hy
  rcases List.mem_cons.1 hy with rfl | hy
  · exact hk
  · exact kl_trans hk (h.head y hy)

end Go.Proofs.YtkehomiogkoomaaDoor
/- What the references of layers content and ops answer: what the program answers. Conditions: sizes, the tables of utf8. -/
set_option linter.unusedVariables false
set_option linter.unusedSimpArgs false
set_option maxRecDepth 100000
namespace Go.Proofs.YtkehomiogkoomaaDoor
open Go Go.RowKit Go.Proofs.YtkehomiogkoomaaDoorW.PrintWords RX
theorem opSz.b {o : OpA} (h : opSz o) : o.text.size ≤ 100000000 ∧ o.vt.size ≤ 100000000 := by have h1 := h.1; have h2 := h.2.1; omega
end Go.Proofs.YtkehomiogkoomaaDoor
