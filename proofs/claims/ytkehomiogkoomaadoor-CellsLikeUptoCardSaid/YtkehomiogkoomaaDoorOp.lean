import Derived.Test.YtkehomiogkoomaaDoorAt
/- Operations and pieces as elements and as arguments. No condition. -/
set_option linter.unusedVariables false
set_option linter.unusedSimpArgs false
set_option maxRecDepth 100000
namespace Go.Proofs.YtkehomiogkoomaaDoor.RX
open Go Go.RowKit Go.Proofs.YtkehomiogkoomaaDoorW.PrintWords

structure OpA where
  kind : Int
  text : ByteArray
  vk : Int
  vn : Int
  vt : ByteArray
  count : Int
  attrs : List At
def op0 : OpA := ⟨0, ByteArray.empty, 0, 0, ByteArray.empty, 0, []⟩
/-- an operation's cells -/
abbrev o7L (x : OpA) (v : Value) : List Value := [.int .i64 x.kind, .string x.text, .int .i64 x.vk, .int .i64 x.vn, .string x.vt, .int .i64 x.count, v]
abbrev o7A (x : OpA) (v : Value) : Array Value := #[.int .i64 x.kind, .string x.text, .int .i64 x.vk, .int .i64 x.vn, .string x.vt, .int .i64 x.count, v]
def OpA.tup (o : OpA) : Int × ByteArray × (Int × Int × ByteArray) × Int × List At := (o.kind, o.text, (o.vk, o.vn, o.vt), o.count, o.attrs)
def OpA.val (o : OpA) : Int × Int × ByteArray := (o.vk, o.vn, o.vt)
abbrev kAttrs : Kd (List At) := Kd.slice 71 kAttr
def kOp : Kd OpA := Kd.comap OpA.tup (Kd.pair (Kd.int .i64) (Kd.pair Kd.string (Kd.pair (Kd.pair (Kd.int .i64) (Kd.pair (Kd.int .i64) Kd.string)) (Kd.pair (Kd.int .i64) kAttrs))))
def opV (x : OpA) (A : Option Addr) (c : Nat) : List Value := [.int .i64 x.kind, .string x.text, .int .i64 x.vk, .int .i64 x.vn, .string x.vt, .int .i64 x.count, .slice A x.attrs.length c]
theorem kOp_K {w : World} {x : OpA} {cs : List Value} (h : kOp.K w x cs) : ∃ A c, cs = opV x A c ∧ x.attrs.length ≤ c ∧ kAttr.C w A x.attrs.length x.attrs := by
  obtain ⟨_, _, rfl, rfl, _, _, rfl, rfl, _, _, rfl, ⟨_, _, rfl, rfl, _, _, rfl, rfl, rfl⟩, _, _, rfl, rfl, A, c, rfl, hl, hC⟩ := h
  exact ⟨A, c, rfl, hl, hC⟩
theorem kOp_K_of {w : World} {x : OpA} {A : Option Addr} {c : Nat} (hl : x.attrs.length ≤ c) (hC : kAttr.C w A x.attrs.length x.attrs) : kOp.K w x (opV x A c) :=
  ⟨[.int .i64 x.kind], _, rfl, rfl, [.string x.text], _, rfl, rfl, [.int .i64 x.vk, .int .i64 x.vn, .string x.vt], _, rfl, ⟨[.int .i64 x.vk], _, rfl, rfl, [.int .i64 x.vn], _, rfl, rfl, rfl⟩, [.int .i64 x.count], _, rfl, rfl, A, c, rfl, hl, hC⟩
theorem Kd.atOp {w : World} {A : Option Addr} {n : Nat} {xs : List OpA} (h : kOp.C w A n xs) {i : Int} (h0 : 0 ≤ i) (h1 : i < n) : ∃ ad B c, A = some ad ∧ CellsAt w (ad.add (i.toNat * 7)) (opV (xs.getD i.toNat op0) B c) ∧ (xs.getD i.toNat op0).attrs.length ≤ c ∧ kAttr.C w B (xs.getD i.toNat op0).attrs.length (xs.getD i.toNat op0).attrs := by
  obtain ⟨ad, cs, e, hK, hc⟩ := Kd.atC h op0 h0 h1
  obtain ⟨B, c, rfl, hl, hC⟩ := kOp_K hK
  exact ⟨ad, B, c, e, hc, hl, hC⟩
theorem kOp_M {w : World} {base : Nat} {ok : Nat → Prop} {x : OpA} {B : Option Addr} {c : Nat} (h : kAttrs.M w base ok x.attrs [.slice B x.attrs.length c]) : kOp.M w base ok x (opV x B c) :=
  ⟨[.int .i64 x.kind], _, rfl, rfl, [.string x.text], _, rfl, rfl, [.int .i64 x.vk, .int .i64 x.vn, .string x.vt], _, rfl, ⟨[.int .i64 x.vk], _, rfl, rfl, [.int .i64 x.vn], _, rfl, rfl, rfl⟩, [.int .i64 x.count], _, rfl, rfl, h⟩
theorem kAttrs_nil {w : World} {base : Nat} {ok : Nat → Prop} : kAttrs.M w base ok [] [.slice none 0 0] := ⟨_, rfl, Kd.R_nil _ _ _ _ _⟩

/-! ### values of the interface -/
def valV (v : Int × Int × ByteArray) : Value :=
  if v.1 = 1 then .iface 171 (.bool (decide (v.2.1 = 1))) else if v.1 = 2 then .iface 172 (.int .i64 v.2.1) else if v.1 = 3 then .iface 173 (.string v.2.2) else .iface 175 (.agg #[])
def kVal : Kd (Int × Int × ByteArray) := Kd.scalar valV (fun v => by unfold valV; repeat (first | rfl | split))

/-! ### pieces -/
inductive PieceA where
  | ins (attrs : List At) (text : ByteArray) (len : Int)
  | emb (attrs : List At) (kind : ByteArray) (v : Int × Int × ByteArray)
  | ret (attrs : List At) (count : Int)
  | del (count : Int)
def piece0 : PieceA := .del 0
def PieceA.sum : PieceA → (List At × ByteArray × Int) ⊕ (List At × ByteArray × (Int × Int × ByteArray)) ⊕ (List At × Int) ⊕ Int
  | .ins a t n => .inl (a, t, n)
  | .emb a k v => .inr (.inl (a, k, v))
  | .ret a c => .inr (.inr (.inl (a, c)))
  | .del c => .inr (.inr (.inr c))
def kPiece : Kd PieceA := Kd.comap PieceA.sum (Kd.sum (Kd.boxed 95 (Kd.pair kAttrs (Kd.pair Kd.string (Kd.int .i64)))) (Kd.sum (Kd.boxed 97 (Kd.pair kAttrs (Kd.pair Kd.string kVal))) (Kd.sum (Kd.boxed 100 (Kd.pair kAttrs (Kd.int .i64))) (Kd.boxed 102 (Kd.int .i64)) rfl) rfl) rfl)
theorem kPiece_ins {w : World} {a : List At} {t : ByteArray} {n : Int} {cs : List Value} (h : kPiece.K w (.ins a t n) cs) : ∃ A c, cs = [.iface 95 (.agg #[.slice A a.length c, .string t, .int .i64 n])] ∧ a.length ≤ c ∧ kAttr.C w A a.length a := by
  obtain ⟨_, ⟨_, _, rfl, ⟨A, c, rfl, hl, hC⟩, _, _, rfl, rfl, rfl⟩, rfl⟩ := h
  exact ⟨A, c, rfl, hl, hC⟩
theorem kPiece_emb {w : World} {a : List At} {k : ByteArray} {v : Int × Int × ByteArray} {cs : List Value} (h : kPiece.K w (.emb a k v) cs) : ∃ A c, cs = [.iface 97 (.agg #[.slice A a.length c, .string k, valV v])] ∧ a.length ≤ c ∧ kAttr.C w A a.length a := by
  obtain ⟨_, ⟨_, _, rfl, ⟨A, c, rfl, hl, hC⟩, _, _, rfl, rfl, rfl⟩, rfl⟩ := h
  exact ⟨A, c, rfl, hl, hC⟩
theorem kPiece_ret {w : World} {a : List At} {n : Int} {cs : List Value} (h : kPiece.K w (.ret a n) cs) : ∃ A c, cs = [.iface 100 (.agg #[.slice A a.length c, .int .i64 n])] ∧ a.length ≤ c ∧ kAttr.C w A a.length a := by
  obtain ⟨_, ⟨_, _, rfl, ⟨A, c, rfl, hl, hC⟩, rfl⟩, rfl⟩ := h
  exact ⟨A, c, rfl, hl, hC⟩
theorem kPiece_del {w : World} {n : Int} {cs : List Value} (h : kPiece.K w (.del n) cs) : cs = [.iface 102 (.agg #[.int .i64 n])] := by
  obtain ⟨_, rfl, rfl⟩ := h
  rfl
theorem kPiece_Mins {w : World} {base : Nat} {ok : Nat → Prop} {a : List At} {t : ByteArray} {n : Int} {B : Option Addr} {c : Nat} (h : kAttrs.M w base ok a [.slice B a.length c]) : kPiece.M w base ok (.ins a t n) [.iface 95 (.agg #[.slice B a.length c, .string t, .int .i64 n])] :=
  ⟨_, ⟨_, _, rfl, h, [.string t], _, rfl, rfl, rfl⟩, rfl⟩
theorem kPiece_Memb {w : World} {base : Nat} {ok : Nat → Prop} {a : List At} {k : ByteArray} {v : Int × Int × ByteArray} {B : Option Addr} {c : Nat} (h : kAttrs.M w base ok a [.slice B a.length c]) : kPiece.M w base ok (.emb a k v) [.iface 97 (.agg #[.slice B a.length c, .string k, valV v])] :=
  ⟨_, ⟨_, _, rfl, h, [.string k], _, rfl, rfl, rfl⟩, rfl⟩
theorem kPiece_Mret {w : World} {base : Nat} {ok : Nat → Prop} {a : List At} {n : Int} {B : Option Addr} {c : Nat} (h : kAttrs.M w base ok a [.slice B a.length c]) : kPiece.M w base ok (.ret a n) [.iface 100 (.agg #[.slice B a.length c, .int .i64 n])] :=
  ⟨_, ⟨_, _, rfl, h, rfl⟩, rfl⟩
theorem kPiece_Mdel {w : World} {base : Nat} {ok : Nat → Prop} {n : Int} : kPiece.M w base ok (.del n) [.iface 102 (.agg #[.int .i64 n])] := ⟨_, rfl, rfl⟩
theorem Kd.atPiece {w : World} {A : Option Addr} {n : Nat} {xs : List PieceA} (h : kPiece.C w A n xs) {i : Int} (h0 : 0 ≤ i) (h1 : i < n) : ∃ ad v, A = some ad ∧ CellsAt w (ad.add (i.toNat * 1)) [v] ∧ kPiece.K w (xs.getD i.toNat piece0) [v] := by
  obtain ⟨ad, cs, e, hK, hc⟩ := Kd.atC h piece0 h0 h1
  have hl := kPiece.K_len hK
  match cs, hl with
  | [v], _ => exact ⟨ad, v, e, hc, hK⟩
end Go.Proofs.YtkehomiogkoomaaDoor.RX
