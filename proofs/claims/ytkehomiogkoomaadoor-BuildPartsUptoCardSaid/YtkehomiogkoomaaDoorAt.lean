/- Attributes as slices' elements: key, kind, number, text. No condition. -/
import Derived.Test.YtkehomiogkoomaaDoorKd
set_option linter.unusedVariables false
set_option linter.unusedSimpArgs false
namespace Go.Proofs.YtkehomiogkoomaaDoor.RX
open Go Go.RowKit Go.Proofs.YtkehomiogkoomaaDoorW.PrintWords

abbrev At := ByteArray × Int × Int × ByteArray
def at0 : At := (ByteArray.empty, 0, 0, ByteArray.empty)
def atV (x : At) : List Value := [.string x.1, .int .i64 x.2.1, .int .i64 x.2.2.1, .string x.2.2.2]
def kAttr : Kd At := Kd.pair Kd.string (Kd.pair (Kd.int .i64) (Kd.pair (Kd.int .i64) Kd.string))
theorem kAttr_K {w : World} {x : At} {c : List Value} (h : kAttr.K w x c) : c = atV x := by
  obtain ⟨_, _, rfl, rfl, _, _, rfl, rfl, _, _, rfl, rfl, rfl⟩ := h
  rfl
theorem kAttr_M (w : World) (base : Nat) (ok : Nat → Prop) (x : At) : kAttr.M w base ok x (atV x) := ⟨[.string x.1], _, rfl, rfl, [.int .i64 x.2.1], _, rfl, rfl, [.int .i64 x.2.2.1], [.string x.2.2.2], rfl, rfl, rfl⟩
theorem kAttr_KM {w : World} {base : Nat} {ok : Nat → Prop} (x : At) (cs : List Value) (h : kAttr.K w x cs) : kAttr.M w base ok x cs := by rw [kAttr_K h]; exact kAttr_M _ _ _ _
theorem Kd.atAttr {w : World} {A : Option Addr} {n : Nat} {xs : List At} (h : kAttr.C w A n xs) {i : Int} (h0 : 0 ≤ i) (h1 : i < n) : ∃ ad, A = some ad ∧ CellsAt w (ad.add (i.toNat * 4)) (atV (xs.getD i.toNat at0)) := by
  obtain ⟨ad, c, e, hK, hc⟩ := Kd.atC h at0 h0 h1
  obtain rfl := kAttr_K hK
  exact ⟨ad, e, hc⟩
theorem repsAttr {w : World} {base : Nat} {ok : Nat → Prop} (xs : List At) : Reps (kAttr.M w base ok) 4 xs (xs.flatMap atV) := reps_flatMap (R := kAttr.M w base ok) (size := 4) atV (fun _ => rfl) (fun x => kAttr_M _ _ _ x) xs
end Go.Proofs.YtkehomiogkoomaaDoor.RX
