import Derived.Test.YtkehomiogkoomaaDoorCap2
import Derived.Test.YtkehomiogkoomaaDoorKd
/- Kinds of elements: renamed, boxed in an interface, of two sorts. No condition. -/

set_option linter.unusedVariables false
set_option linter.unusedSimpArgs false
namespace Go.Proofs.YtkehomiogkoomaaDoor.RX
open Go Go.RowKit Go.Proofs.YtkehomiogkoomaaDoorW.PrintWords

def Kd.comap {α β : Type} (f : β → α) (d : Kd α) : Kd β where
  sz := d.sz
  E := d.E
  K := fun w x cs => d.K w (f x) cs
  M := fun w b ok x cs => d.M w b ok (f x) cs
  K_len := fun h => d.K_len h
  K_one := fun h => d.K_one h
  K_below := fun hb h => d.K_below hb h
  K_of_M := fun h => d.K_of_M h
  M_mono := fun hk h => d.M_mono hk h
  M_bound := fun h => d.M_bound h
  M_move := fun hm h => d.M_move hm h
  M_lower := fun hb h => d.M_lower hb h
def Kd.boxed {α : Type} (T : Nat) (d : Kd α) : Kd α where
  sz := 1
  E := d.E
  K := fun w x cs => ∃ c, d.K w x c ∧ cs = [.iface T (.agg c.toArray)]
  M := fun w b ok x cs => ∃ c, d.M w b ok x c ∧ cs = [.iface T (.agg c.toArray)]
  K_len := fun h => by obtain ⟨c, _, rfl⟩ := h; rfl
  K_one := fun h u hu => by
    obtain ⟨c, _, rfl⟩ := h
    rw [List.mem_singleton.1 hu]
    rfl
  K_below := fun hb h => by obtain ⟨c, h, e⟩ := h; exact ⟨c, d.K_below hb h, e⟩
  K_of_M := fun h => by obtain ⟨c, h, e⟩ := h; exact ⟨c, d.K_of_M h, e⟩
  M_mono := fun hk h => by obtain ⟨c, h, e⟩ := h; exact ⟨c, d.M_mono hk h, e⟩
  M_bound := fun h => by obtain ⟨c, h, e⟩ := h; exact ⟨c, d.M_bound h, e⟩
  M_move := fun hm h => by obtain ⟨c, h, e⟩ := h; exact ⟨c, d.M_move hm h, e⟩
  M_lower := fun hb h => by obtain ⟨c, h, e⟩ := h; exact ⟨c, d.M_lower hb h, e⟩
def Kd.sum {α β : Type} (a : Kd α) (b : Kd β) (hs : b.sz = a.sz) : Kd (α ⊕ β) where
  sz := a.sz
  E := a.E ++ b.E
  K := fun w x cs => match x with
    | .inl x => a.K w x cs
    | .inr y => b.K w y cs
  M := fun w bs ok x cs => match x with
    | .inl x => a.M w bs ok x cs
    | .inr y => b.M w bs ok y cs
  K_len := fun {w x cs} h => by
    cases x with
    | inl x => exact a.K_len h
    | inr y => exact (b.K_len h).trans hs
  K_one := fun {w x cs} h => by
    cases x with
    | inl x => exact a.K_one h
    | inr y => exact b.K_one h
  K_below := fun {w w1 x cs} hb h => by
    cases x with
    | inl x => exact a.K_below hb h
    | inr y => exact b.K_below hb h
  K_of_M := fun {w bs ok x cs} h => by
    cases x with
    | inl x => exact a.K_of_M h
    | inr y => exact b.K_of_M h
  M_mono := fun {w bs ok ok' x cs} hk h => by
    cases x with
    | inl x => exact a.M_mono hk h
    | inr y => exact b.M_mono hk h
  M_bound := fun {w bs ok x cs} h => by
    cases x with
    | inl x => exact a.M_mono (fun k ⟨h1, h2, h3, q, hq, hc⟩ => ⟨h1, h2, h3, q, List.mem_append_left _ hq, hc⟩) (a.M_bound h)
    | inr y => exact b.M_mono (fun k ⟨h1, h2, h3, q, hq, hc⟩ => ⟨h1, h2, h3, q, List.mem_append_right _ hq, hc⟩) (b.M_bound h)
  M_move := fun {w w1 bs ok x cs} hm h => by
    cases x with
    | inl x => exact a.M_move hm h
    | inr y => exact b.M_move hm h
  M_lower := fun {w bs bs' ok x cs} hb h => by
    cases x with
    | inl x => exact a.M_lower hb h
    | inr y => exact b.M_lower hb h
end Go.Proofs.YtkehomiogkoomaaDoor.RX
/- Attributes as slices' elements: key, kind, number, text. No condition. -/

set_option linter.unusedVariables false
set_option linter.unusedSimpArgs false
namespace Go.Proofs.YtkehomiogkoomaaDoor.RX
open Go Go.RowKit Go.Proofs.YtkehomiogkoomaaDoorW.PrintWords

abbrev At := ByteArray × Int × Int × ByteArray
def at0 : At := (ByteArray.empty, 0, 0, ByteArray.empty)
def atV (x : At) : List Value := [.string x.1, .int .i64 x.2.1, .int .i64 x.2.2.1, .string x.2.2.2]
def kAttr : Kd At := Kd.pair Kd.string (Kd.pair (Kd.int .i64) (Kd.pair (Kd.int .i64) Kd.string))
theorem kAttr_K {w : World} {x : At} {c : List Value} (h : kAttr.K w x c) : c = atV x := by
  obtain ⟨_, _, rfl, rfl, _, _, rfl, rfl, _, _, rfl, rfl, rfl⟩ := h
  rfl
theorem kAttr_M (w : World) (base : Nat) (ok : Nat → Prop) (x : At) : kAttr.M w base ok x (atV x) := ⟨[.string x.1], _, rfl, rfl, [.int .i64 x.2.1], _, rfl, rfl, [.int .i64 x.2.2.1], [.string x.2.2.2], rfl, rfl, rfl⟩
theorem kAttr_KM {w : World} {base : Nat} {ok : Nat → Prop} (x : At) (cs : List Value) (h : kAttr.K w x cs) : kAttr.M w base ok x cs := by rw [kAttr_K h]; exact kAttr_M _ _ _ _
theorem Kd.atAttr {w : World} {A : Option Addr} {n : Nat} {xs : List At} (h : kAttr.C w A n xs) {i : Int} (h0 : 0 ≤ i) (h1 : i < n) : ∃ ad, A = some ad ∧ CellsAt w (ad.add (i.toNat * 4)) (atV (xs.getD i.toNat at0)) := by
  obtain ⟨ad, c, e, hK, hc⟩ := Kd.atC h at0 h0 h1
  obtain rfl := kAttr_K hK
  exact ⟨ad, e, hc⟩
theorem repsAttr {w : World} {base : Nat} {ok : Nat → Prop} (xs : List At) : Reps (kAttr.M w base ok) 4 xs (xs.flatMap atV) := reps_flatMap (R := kAttr.M w base ok) (size := 4) atV (fun _ => rfl) (fun x => kAttr_M _ _ _ x) xs
end Go.Proofs.YtkehomiogkoomaaDoor.RX
/- Operations and pieces as elements and as arguments. No condition. -/
set_option linter.unusedVariables false
set_option linter.unusedSimpArgs false
set_option maxRecDepth 100000
namespace Go.Proofs.YtkehomiogkoomaaDoor.RX
open Go Go.RowKit Go.Proofs.YtkehomiogkoomaaDoorW.PrintWords

structure OpA where
  kind : Int
  text : ByteArray
  vk : Int
  vn : Int
  vt : ByteArray
  count : Int
  attrs : List At
def op0 : OpA := ⟨0, ByteArray.empty, 0, 0, ByteArray.empty, 0, []⟩
def OpA.tup (o : OpA) : Int × ByteArray × (Int × Int × ByteArray) × Int × List At := (o.kind, o.text, (o.vk, o.vn, o.vt), o.count, o.attrs)
def OpA.val (o : OpA) : Int × Int × ByteArray := (o.vk, o.vn, o.vt)
abbrev kAttrs : Kd (List At) := Kd.slice 71 kAttr
def kOp : Kd OpA := Kd.comap OpA.tup (Kd.pair (Kd.int .i64) (Kd.pair Kd.string (Kd.pair (Kd.pair (Kd.int .i64) (Kd.pair (Kd.int .i64) Kd.string)) (Kd.pair (Kd.int .i64) kAttrs))))
def opV (x : OpA) (A : Option Addr) (c : Nat) : List Value := [.int .i64 x.kind, .string x.text, .int .i64 x.vk, .int .i64 x.vn, .string x.vt, .int .i64 x.count, .slice A x.attrs.length c]
theorem kOp_K {w : World} {x : OpA} {cs : List Value} (h : kOp.K w x cs) : ∃ A c, cs = opV x A c ∧ x.attrs.length ≤ c ∧ kAttr.C w A x.attrs.length x.attrs := by
  obtain ⟨_, _, rfl, rfl, _, _, rfl, rfl, _, _, rfl, ⟨_, _, rfl, rfl, _, _, rfl, rfl, rfl⟩, _, _, rfl, rfl, A, c, rfl, hl, hC⟩ := h
  exact ⟨A, c, rfl, hl, hC⟩
/-! ### values of the interface -/
def valV (v : Int × Int × ByteArray) : Value :=
  if v.1 = 1 then .iface 171 (.bool (decide (v.2.1 = 1))) else if v.1 = 2 then .iface 172 (.int .i64 v.2.1) else if v.1 = 3 then .iface 173 (.string v.2.2) else .iface 175 (.agg #[])
def kVal : Kd (Int × Int × ByteArray) := Kd.scalar valV (fun v => by unfold valV; repeat (first | rfl | split))

/-! ### pieces -/
inductive PieceA where
  | ins (attrs : List At) (text : ByteArray) (len : Int)
  | emb (attrs : List At) (kind : ByteArray) (v : Int × Int × ByteArray)
  | ret (attrs : List At) (count : Int)
  | del (count : Int)
def PieceA.sum : PieceA → (List At × ByteArray × Int) ⊕ (List At × ByteArray × (Int × Int × ByteArray)) ⊕ (List At × Int) ⊕ Int
  | .ins a t n => .inl (a, t, n)
  | .emb a k v => .inr (.inl (a, k, v))
  | .ret a c => .inr (.inr (.inl (a, c)))
  | .del c => .inr (.inr (.inr c))
def kPiece : Kd PieceA := Kd.comap PieceA.sum (Kd.sum (Kd.boxed 95 (Kd.pair kAttrs (Kd.pair Kd.string (Kd.int .i64)))) (Kd.sum (Kd.boxed 97 (Kd.pair kAttrs (Kd.pair Kd.string kVal))) (Kd.sum (Kd.boxed 100 (Kd.pair kAttrs (Kd.int .i64))) (Kd.boxed 102 (Kd.int .i64)) rfl) rfl) rfl)
end Go.Proofs.YtkehomiogkoomaaDoor.RX
