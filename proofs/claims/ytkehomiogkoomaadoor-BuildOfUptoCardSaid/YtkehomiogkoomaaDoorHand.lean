/- Rows with room for two more behind them (package vellumhand). No condition. -/
import Derived.Test.YtkehomiogkoomaaDoorSpare
set_option linter.unusedVariables false
set_option linter.unusedSimpArgs false
set_option maxRecDepth 100000
namespace Go.Proofs.YtkehomiogkoomaaDoor.RX
open Go Go.RowKit Go.Proofs.YtkehomiogkoomaaDoorW.PrintWords
def spL : List At := [(⟨#[115, 112, 97, 114, 101]⟩, 0, 0, ByteArray.empty), (⟨#[114, 111, 111, 109]⟩, 0, 0, ByteArray.empty)]
def spO : List OpA := [⟨77, ByteArray.empty, 0, 0, ByteArray.empty, 0, []⟩, ⟨78, ByteArray.empty, 0, 0, ByteArray.empty, 0, []⟩]
/-- attributes with two more behind them, or none -/
def kAttrsH : Kd (List At) where
  sz := 1
  E := kAttrs.E
  K := fun w xs cs => ∃ A c, cs = [.slice A xs.length c] ∧ ((xs = [] ∧ A = none ∧ c = 0) ∨ kAttrs.K w (xs ++ spL) [.slice A (xs.length + 2) c])
  M := fun w base ok xs cs => ∃ A c, cs = [.slice A xs.length c] ∧ ((xs = [] ∧ A = none ∧ c = 0) ∨ kAttrs.M w base ok (xs ++ spL) [.slice A (xs.length + 2) c])
  K_len := by
    rintro w x cs ⟨A, c, rfl, _⟩
    rfl
  K_one := by
    rintro w x cs ⟨A, c, rfl, _⟩ u hu
    rw [List.mem_singleton.1 hu]
    rfl
  K_below := by
    rintro w w1 x cs hb ⟨A, c, rfl, h | h⟩
    · exact ⟨A, c, rfl, .inl h⟩
    · exact ⟨A, c, rfl, .inr (kAttrs.K_below hb h)⟩
  K_of_M := by
    rintro w base ok x cs ⟨A, c, rfl, h | h⟩
    · exact ⟨A, c, rfl, .inl h⟩
    · exact ⟨A, c, rfl, .inr (kAttrs.K_of_M h)⟩
  M_mono := by
    rintro w base ok ok' x cs hok ⟨A, c, rfl, h | h⟩
    · exact ⟨A, c, rfl, .inl h⟩
    · exact ⟨A, c, rfl, .inr (kAttrs.M_mono hok h)⟩
  M_bound := by
    rintro w base ok x cs ⟨A, c, rfl, h | h⟩
    · exact ⟨A, c, rfl, .inl h⟩
    · exact ⟨A, c, rfl, .inr (kAttrs.M_bound h)⟩
  M_move := by
    rintro w w1 base ok x cs hm ⟨A, c, rfl, h | h⟩
    · exact ⟨A, c, rfl, .inl h⟩
    · exact ⟨A, c, rfl, .inr (kAttrs.M_move hm h)⟩
  M_lower := by
    rintro w base base' ok x cs hb ⟨A, c, rfl, h | h⟩
    · exact ⟨A, c, rfl, .inl h⟩
    · exact ⟨A, c, rfl, .inr (kAttrs.M_lower hb h)⟩
theorem kAttrsH_K {w : World} {xs : List At} {A : Option Addr} {c : Nat} (h : kAttrsH.K w xs [.slice A xs.length c]) : xs.length ≤ c ∧ kAttr.C w A xs.length xs ∧ (xs = [] ∨ xs.length + 2 ≤ c ∧ kAttr.C w A (xs.length + 2) (xs ++ spL)) := by
  obtain ⟨A', c', e, h⟩ := h
  have e := (List.cons.inj e).1
  injection e with e1 _ e2
  subst e1; subst e2
  rcases h with ⟨rfl, rfl, rfl⟩ | ⟨A', c', e, hl, hC⟩
  · exact ⟨Nat.le_refl _, ⟨rfl, by decide, fun h => absurd h (by decide)⟩, .inl rfl⟩
  · have e := (List.cons.inj e).1
    injection e with e1 _ e2
    subst e1; subst e2
    rw [List.length_append, show spL.length = 2 from rfl] at hl hC
    refine ⟨by omega, ?_, .inr ⟨hl, hC⟩⟩
    have := Kd.C_take hC (m := xs.length) (by omega)
    rwa [List.take_left] at this
def kOpH : Kd OpA := Kd.comap OpA.tup (Kd.pair (Kd.int .i64) (Kd.pair Kd.string (Kd.pair (Kd.pair (Kd.int .i64) (Kd.pair (Kd.int .i64) Kd.string)) (Kd.pair (Kd.int .i64) kAttrsH))))
theorem kOpH_K {w : World} {x : OpA} {cs : List Value} (h : kOpH.K w x cs) : ∃ A c, cs = opV x A c ∧ kAttrsH.K w x.attrs [.slice A x.attrs.length c] := by
  obtain ⟨_, _, rfl, rfl, _, _, rfl, rfl, _, _, rfl, ⟨_, _, rfl, rfl, _, _, rfl, rfl, rfl⟩, _, _, rfl, rfl, A, c, rfl, h⟩ := h
  exact ⟨A, c, rfl, A, c, rfl, h⟩
theorem kOpH_M {w : World} {base : Nat} {ok : Nat → Prop} {x : OpA} {B : Option Addr} {c : Nat} (h : kAttrsH.M w base ok x.attrs [.slice B x.attrs.length c]) : kOpH.M w base ok x (opV x B c) :=
  ⟨[.int .i64 x.kind], _, rfl, rfl, [.string x.text], _, rfl, rfl, [.int .i64 x.vk, .int .i64 x.vn, .string x.vt], _, rfl, ⟨[.int .i64 x.vk], _, rfl, rfl, [.int .i64 x.vn], _, rfl, rfl, rfl⟩, [.int .i64 x.count], _, rfl, rfl, h⟩
theorem kOpH_M_slice {w : World} {base : Nat} {ok : Nat → Prop} {x : OpA} {cs : List Value} (h : kOpH.M w base ok x cs) : ∃ B c, cs = opV x B c ∧ kAttrsH.M w base ok x.attrs [.slice B x.attrs.length c] := by
  obtain ⟨_, _, rfl, rfl, _, _, rfl, rfl, _, _, rfl, ⟨_, _, rfl, rfl, _, _, rfl, rfl, rfl⟩, _, _, rfl, rfl, A, c, rfl, h⟩ := h
  exact ⟨A, c, rfl, A, c, rfl, h⟩
theorem kOpH_M0 {w : World} {base : Nat} {ok : Nat → Prop} (x : OpA) (h : x.attrs = []) : kOpH.M w base ok x (opV x none 0) := by
  obtain ⟨k, t, a, b, s, c, as⟩ := x
  obtain rfl : as = [] := h
  exact kOpH_M ⟨none, 0, rfl, .inl ⟨rfl, rfl, rfl⟩⟩
theorem repsOpH0 {w : World} {base : Nat} {ok : Nat → Prop} : ∀ (xs : List OpA), (∀ x ∈ xs, x.attrs = []) → Reps (kOpH.M w base ok) 7 xs (xs.flatMap fun x => opV x none 0)
  | [], _ => Reps.none _ _
  | x :: xs, h => by
    have hs : Reps (kOpH.M w base ok) 7 [x] (opV x none 0) := by
      have := (Reps.none (kOpH.M w base ok) 7).snoc (kOpH_M0 x (h x List.mem_cons_self)) rfl
      simpa using this
    have := Kd.reps_append hs (repsOpH0 xs fun y hy => h y (List.mem_cons_of_mem _ hy))
    simpa using this
theorem kOpH_C {w : World} {A : Option Addr} {n : Nat} {xs : List OpA} (h : kOpH.C w A n xs) : kOp.C w A n xs :=
  Kd.C_imp h rfl fun x cs hk => by
    obtain ⟨B, c, rfl, h⟩ := kOpH_K hk
    obtain ⟨h1, h2, _⟩ := kAttrsH_K h
    exact kOp_K_of h1 h2
theorem kOpH_init {w : World} {A : Option Addr} {xs : List OpA} (h : kOpH.C w A (xs.length + 2) (xs ++ spO)) : kOpH.C w A xs.length xs := by
  have := Kd.C_take h (m := xs.length) (by omega)
  rwa [List.take_left] at this
theorem Kd.atOpH {w : World} {A : Option Addr} {n : Nat} {xs : List OpA} (h : kOpH.C w A n xs) {i : Int} (h0 : 0 ≤ i) (h1 : i < n) : ∃ ad B c, A = some ad ∧ CellsAt w (ad.add (i.toNat * 7)) (opV (xs.getD i.toNat op0) B c) ∧ (xs.getD i.toNat op0).attrs.length ≤ c ∧ kAttr.C w B (xs.getD i.toNat op0).attrs.length (xs.getD i.toNat op0).attrs ∧ ((xs.getD i.toNat op0).attrs = [] ∨ (xs.getD i.toNat op0).attrs.length + 2 ≤ c ∧ kAttr.C w B ((xs.getD i.toNat op0).attrs.length + 2) ((xs.getD i.toNat op0).attrs ++ spL)) := by
  obtain ⟨ad, cs, e, hK, hc⟩ := Kd.atC h op0 h0 h1
  obtain ⟨B, c, rfl, h⟩ := kOpH_K hK
  obtain ⟨a, b, d⟩ := kAttrsH_K h
  exact ⟨ad, B, c, e, hc, a, b, d⟩

end Go.Proofs.YtkehomiogkoomaaDoor.RX
