import Derived.Test.YtkehomiogkoomaaDoorO1
import Derived.Test.YtkehomiogkoomaaDoorA3
import Derived.Test.YtkehomiogkoomaaDoorRX
import Derived.Test.YtkehomiogkoomaaDoorR1
import Derived.Test.YtkehomiogkoomaaDoorB1
import Derived.Test.YtkehomiogkoomaaDoorStr
import Derived.Stop.Asserts
import Derived.Test.YtkehomiogkoomaaDoorAn
import Derived.Test.YtkehomiogkoomaaDoorAn2
import Derived.Test.YtkehomiogkoomaaDoorPatch
import Derived.Test.YtkehomiogkoomaaDoorSpare
/- What the references of layers content and ops answer: what the program answers. Conditions: sizes, the tables of utf8. -/
set_option linter.unusedVariables false
set_option linter.unusedSimpArgs false
set_option maxRecDepth 100000
namespace Go.Proofs.YtkehomiogkoomaaDoor
open Go Go.RowKit Go.Proofs.YtkehomiogkoomaaDoorW.PrintWords RX
theorem opSz.b {o : OpA} (h : opSz o) : o.text.size ≤ 100000000 ∧ o.vt.size ≤ 100000000 := by have h1 := h.1; have h2 := h.2.1; omega
end Go.Proofs.YtkehomiogkoomaaDoor
/- Builders: what is gathered, by definition; canonical lists. No condition. -/

set_option linter.unusedVariables false
set_option linter.unusedSimpArgs false
set_option maxRecDepth 100000
namespace Go.Proofs.YtkehomiogkoomaaDoor
open Go Go.RowKit Go.Proofs.YtkehomiogkoomaaDoorW.PrintWords RX
namespace B
abbrev L : Int := 1099511627776
def lst (xs : List OpA) : OpA := xs.getD (xs.length - 1) op0
def jo (a b : OpA) : OpA := ⟨a.kind, a.text ++ b.text, a.vk, a.vn, a.vt, a.count + b.count, a.attrs⟩
def meets (a o : OpA) : Prop := a.kind = o.kind ∧ o.kind ≠ 2 ∧ a.attrs = o.attrs
instance (a o : OpA) : Decidable (meets a o) := by unfold meets; exact inferInstance
instance (o : OpA) : Decidable (plainR o) := by unfold plainR; exact inferInstance
/-- put behind, joined with the last one where that may be -/
def push (xs : List OpA) (o : OpA) : List OpA := if xs.length ≠ 0 ∧ meets (lst xs) o then xs.set (xs.length - 1) (jo (lst xs) o) else xs ++ [o]
def gone (n : Int) : OpA := ⟨4, ByteArray.empty, 0, 0, ByteArray.empty, n, []⟩
def dels (xs : List OpA) (g : Int) : List OpA := if g = 0 then xs else xs ++ [gone g]
abbrev St := List OpA × Int
def step (s : St) (o : OpA) : St := if o.kind = 4 then (s.1, s.2 + o.count) else if o.kind = 3 then (push (dels s.1 s.2) o, 0) else (push s.1 o, s.2)
def run (xs : List OpA) : St := xs.foldl step ([], 0)
/-- what holds of what is gathered -/
structure Inv (xs : List OpA) (s : St) : Prop where
  good : badE s.1 = 0
  chain : Chain s.1
  last : s.1.length = 0 ∨ (lst s.1).kind ≠ 4
  g0 : 0 ≤ s.2
  sb : sB s.1 + s.2 = sB xs
  sr : sR s.1 = sR xs
end B
end Go.Proofs.YtkehomiogkoomaaDoor
/- What builders gather. Conditions: sizes, the tables of utf8, the errors' variables. -/
set_option linter.unusedVariables false
set_option linter.unusedSimpArgs false
set_option maxRecDepth 100000
namespace Go.Proofs.YtkehomiogkoomaaDoor
open Go Go.RowKit Go.Proofs.YtkehomiogkoomaaDoorW.PrintWords RX
noncomputable def pushE (b r : Int) (o : OpA) : Nat := if pErr o ≠ 0 then pErr o else if 1099511627776 < b + opB o ∨ 1099511627776 < r + opR o then 11 else 0
def PushR (es : List Addr) (wB : World) (g : Nat) (b r : Int) (s : B.St) (A : Option Addr) (c : Nat) (w : World) (o : OpA) (e : Ending) (w' : World) : Prop :=
 Two g (A.map (·.block)) w w' ∧ ((pushE b r o = 0 ∧ e = .returned .nilIface ∧ ∃ A' c', RX.Blk w' g 188 #[.int .i64 (b + opB o), .int .i64 (r + opR o), .slice A' (List.map pOf ((B.step s o).1)).length c', .int .i64 ((B.step s o).2)] ∧ kPiece.R 84 w' wB.heap.size (OkFrom wB.heap.size) (.slice A' (List.map pOf ((B.step s o).1)).length c') (List.map pOf ((B.step s o).1)) ∧ (A'.map (·.block) = A.map (·.block) ∨ ∃ b, A'.map (·.block) = some b ∧ w.heap.size ≤ b)) ∨ (pushE b r o ≠ 0 ∧ e = .returned (errV es (pushE b r o)) ∧ RX.Blk w' g 188 #[.int .i64 b, .int .i64 r, .slice A (List.map pOf s.1).length c, .int .i64 s.2] ∧ kPiece.R 84 w' wB.heap.size (OkFrom wB.heap.size) (.slice A (List.map pOf s.1).length c) (List.map pOf s.1)))
theorem PushR.pre {es : List Addr} {wB : World} {g : Nat} {b r : Int} {s : B.St} {A : Option Addr} {c : Nat} {w w1 : World} {o : OpA} {e : Ending} {w' : World} (hb : Below w.heap.size w w1) (h : PushR es wB g b r s A c w1 o e w') : PushR es wB g b r s A c w o e w' := by
 obtain ⟨ht, h⟩ := h
 refine ⟨((Two.refl g _ w).below hb).trans ht (.inl rfl), h.imp ?_ id⟩
 rintro ⟨h1, h2, A', c', h3, h4, h5⟩
 exact ⟨h1, h2, A', c', h3, h4, h5.imp id fun ⟨b_, h6, h7⟩ => ⟨b_, h6, Nat.le_trans hb.size h7⟩⟩
theorem PushR.val {es : List Addr} {wB : World} {g : Nat} {b r : Int} {s : B.St} {A : Option Addr} {c : Nat} {w : World} {o : OpA} {e : Ending} {w' : World} (h : PushR es wB g b r s A c w o e w') : ∃ v, e = .returned v := by
 obtain ⟨_, ⟨_, h, _⟩ | ⟨_, h, _⟩⟩ := h
 ·exact ⟨_, h⟩
 exact ⟨_, h⟩
end Go.Proofs.YtkehomiogkoomaaDoor
/- Builders: lengths and sizes of what is gathered; the first operation that is refused. No condition. -/

set_option linter.unusedVariables false
set_option linter.unusedSimpArgs false
set_option maxRecDepth 100000
namespace Go.Proofs.YtkehomiogkoomaaDoor
open Go Go.RowKit Go.Proofs.YtkehomiogkoomaaDoorW.PrintWords RX
namespace B
/-- sizes that no joining changes -/
def fine (o : OpA) : Prop := o.vt.size ≤ 50000000 ∧ o.attrs.length ≤ 1048576 ∧ ∀ i, i < o.attrs.length → (o.attrs.getD i at0).1.size ≤ 100000000 ∧ (o.attrs.getD i at0).2.2.2.size ≤ 100000000
/-! ### the first number that is wrong -/
def firstE (f : Nat → Nat) : Nat → Nat × Nat
  | 0 => (0, 0)
  | n + 1 => if (firstE f n).2 ≠ 0 then firstE f n else if f n ≠ 0 then (n, f n) else (0, 0)
theorem first_none {f : Nat → Nat} : ∀ {n : Nat}, (∀ j, j < n → f j = 0) → firstE f n = (0, 0)
  | 0, _ => rfl
  | n + 1, h => by
    have h1 := first_none (n := n) fun j hj => h j (by omega)
    unfold firstE
    rw [h1, if_neg (by simp), if_neg (by rw [h n (by omega)]; simp)]
end B
end Go.Proofs.YtkehomiogkoomaaDoor
/- What build.Of answers, and deltas. Conditions: sizes, the tables of utf8, the errors' variables. -/
set_option linter.unusedVariables false
set_option linter.unusedSimpArgs false
set_option maxRecDepth 100000
namespace Go.Proofs.YtkehomiogkoomaaDoor
open Go Go.RowKit Go.Proofs.YtkehomiogkoomaaDoorW.PrintWords RX
/-- a delta: these operations, in memory from B on -/
def DeltaR (w : World) (Bs d : Nat) (A : Option Addr) (c : Nat) (xs : List OpA) : Prop := Bs ≤ d ∧ RX.Blk w d 160 #[.slice A (List.map pOf xs).length c] ∧ kPiece.R 84 w Bs (OkFrom Bs) (.slice A (List.map pOf xs).length c) (List.map pOf xs)
/-- a delta that is read -/
def DeltaC (w : World) (d : Nat) (xs : List OpA) : Prop := ∃ A c, RX.Blk w d 160 #[.slice A (List.map pOf xs).length c] ∧ (List.map pOf xs).length ≤ c ∧ kPiece.C w A (List.map pOf xs).length (List.map pOf xs)
theorem DeltaR.c {w : World} {Bs d : Nat} {A : Option Addr} {c : Nat} {xs : List OpA} (h : DeltaR w Bs d A c xs) : DeltaC w d xs := ⟨A, c, h.2.1, (RX.Kd.R_len h.2.2).2, Kd.R_C h.2.2⟩
theorem DeltaC.below {w w1 : World} {d : Nat} {xs : List OpA} (h : DeltaC w d xs) (hb : Below w.heap.size w w1) : DeltaC w1 d xs := by
 obtain ⟨A, c, h1, h2, h3⟩ := h
 exact ⟨A, c, Blk.below h1 hb, h2, Kd.C_below h3 hb⟩
theorem DeltaR.below {w w1 : World} {Bs d : Nat} {A : Option Addr} {c : Nat} {xs : List OpA} (h : DeltaR w Bs d A c xs) (hb : Below w.heap.size w w1) : DeltaR w1 Bs d A c xs := ⟨h.1, Blk.below h.2.1 hb, Kd.R_below h.2.2 hb⟩
end Go.Proofs.YtkehomiogkoomaaDoor
/- The laws of patches: composing is associative, a difference leads there, both ways round. Plain lists. No condition. -/

set_option linter.unusedVariables false
set_option linter.unusedSimpArgs false
namespace Go.Proofs.YtkehomiogkoomaaDoor
open Go RX

theorem good_trn (f : Bool) {na nb : Bool} {a b : List At} (ha : Good na a) (hb : Good nb b) : Good true (comp (trnF f) a b) := by
  refine ⟨comp_mem _ a b ?_ ?_ ?_, comp_ris (trnF_keyed f) ha.2 hb.2⟩
  · intro x hx z hz
    simp only [trnF] at hz
    split at hz <;> cases hz
  · intro y hy z hz
    simp only [trnF, Option.some.injEq] at hz
    subst hz
    exact ⟨(hb.1 _ hy).1, .inl rfl⟩
  · intro x hx y hy z hz
    simp only [trnF] at hz
    split at hz
    · cases hz
    · injection hz with hz
      subst hz
      exact ⟨(hb.1 _ hy).1, .inl rfl⟩
theorem get_of_mem : ∀ {xs : List At}, Ris xs → ∀ {x : At}, x ∈ xs → get xs x.1 = some x
  | y :: xs, h, x, hx => by
    rw [get_cons]
    rcases List.mem_cons.1 hx with rfl | hx
    · rw [if_pos rfl]
    · rw [if_neg (fun e => kl_ne (h.head x hx) e)]
      exact get_of_mem h.tail hx
end Go.Proofs.YtkehomiogkoomaaDoor
/- Rows with room for two more behind them (package vellumhand). No condition. -/

set_option linter.unusedVariables false
set_option linter.unusedSimpArgs false
set_option maxRecDepth 100000
namespace Go.Proofs.YtkehomiogkoomaaDoor.RX
open Go Go.RowKit Go.Proofs.YtkehomiogkoomaaDoorW.PrintWords
def spL : List At := [(⟨#[115, 112, 97, 114, 101]⟩, 0, 0, ByteArray.empty), (⟨#[114, 111, 111, 109]⟩, 0, 0, ByteArray.empty)]
/-- attributes with two more behind them, or none -/
def kAttrsH : Kd (List At) where
  sz := 1
  E := kAttrs.E
  K := fun w xs cs => ∃ A c, cs = [.slice A xs.length c] ∧ ((xs = [] ∧ A = none ∧ c = 0) ∨ kAttrs.K w (xs ++ spL) [.slice A (xs.length + 2) c])
  M := fun w base ok xs cs => ∃ A c, cs = [.slice A xs.length c] ∧ ((xs = [] ∧ A = none ∧ c = 0) ∨ kAttrs.M w base ok (xs ++ spL) [.slice A (xs.length + 2) c])
  K_len := by
    rintro w x cs ⟨A, c, rfl, _⟩
    rfl
  K_one := by
    rintro w x cs ⟨A, c, rfl, _⟩ u hu
    rw [List.mem_singleton.1 hu]
    rfl
  K_below := by
    rintro w w1 x cs hb ⟨A, c, rfl, h | h⟩
    · exact ⟨A, c, rfl, .inl h⟩
    · exact ⟨A, c, rfl, .inr (kAttrs.K_below hb h)⟩
  K_of_M := by
    rintro w base ok x cs ⟨A, c, rfl, h | h⟩
    · exact ⟨A, c, rfl, .inl h⟩
    · exact ⟨A, c, rfl, .inr (kAttrs.K_of_M h)⟩
  M_mono := by
    rintro w base ok ok' x cs hok ⟨A, c, rfl, h | h⟩
    · exact ⟨A, c, rfl, .inl h⟩
    · exact ⟨A, c, rfl, .inr (kAttrs.M_mono hok h)⟩
  M_bound := by
    rintro w base ok x cs ⟨A, c, rfl, h | h⟩
    · exact ⟨A, c, rfl, .inl h⟩
    · exact ⟨A, c, rfl, .inr (kAttrs.M_bound h)⟩
  M_move := by
    rintro w w1 base ok x cs hm ⟨A, c, rfl, h | h⟩
    · exact ⟨A, c, rfl, .inl h⟩
    · exact ⟨A, c, rfl, .inr (kAttrs.M_move hm h)⟩
  M_lower := by
    rintro w base base' ok x cs hb ⟨A, c, rfl, h | h⟩
    · exact ⟨A, c, rfl, .inl h⟩
    · exact ⟨A, c, rfl, .inr (kAttrs.M_lower hb h)⟩
theorem kAttrsH_K {w : World} {xs : List At} {A : Option Addr} {c : Nat} (h : kAttrsH.K w xs [.slice A xs.length c]) : xs.length ≤ c ∧ kAttr.C w A xs.length xs ∧ (xs = [] ∨ xs.length + 2 ≤ c ∧ kAttr.C w A (xs.length + 2) (xs ++ spL)) := by
  obtain ⟨A', c', e, h⟩ := h
  have e := (List.cons.inj e).1
  injection e with e1 _ e2
  subst e1; subst e2
  rcases h with ⟨rfl, rfl, rfl⟩ | ⟨A', c', e, hl, hC⟩
  · exact ⟨Nat.le_refl _, ⟨rfl, by decide, fun h => absurd h (by decide)⟩, .inl rfl⟩
  · have e := (List.cons.inj e).1
    injection e with e1 _ e2
    subst e1; subst e2
    rw [List.length_append, show spL.length = 2 from rfl] at hl hC
    refine ⟨by omega, ?_, .inr ⟨hl, hC⟩⟩
    have := Kd.C_take hC (m := xs.length) (by omega)
    rwa [List.take_left] at this
end Go.Proofs.YtkehomiogkoomaaDoor.RX
