import Derived.Test.YtkehomiogkoomaaDoorOp
/- Two rising lists of attributes gone through key by key. Plain lists. (under way) -/

set_option linter.unusedVariables false
set_option linter.unusedSimpArgs false
namespace Go.Proofs.YtkehomiogkoomaaDoor
open Go RX

/-- the steps: what each list has of a key -/
def merge : List At → List At → List (Option At × Option At)
  | [], [] => []
  | x :: a, [] => (some x, none) :: merge a []
  | [], y :: b => (none, some y) :: merge [] b
  | x :: a, y :: b => if Op.bytesLess x.1.toList y.1.toList then (some x, none) :: merge a (y :: b) else if Op.bytesLess y.1.toList x.1.toList then (none, some y) :: merge (x :: a) b else (some x, some y) :: merge a b
  termination_by a b => a.length + b.length
def stepKey : Option At × Option At → ByteArray
  | (some x, _) => x.1
  | (none, some y) => y.1
  | _ => ⟨#[]⟩
theorem merge_x (a b : List At) (h : 0 < a.length) (hb : b.length = 0 ∨ Op.bytesLess (a.getD 0 at0).1.toList (b.getD 0 at0).1.toList = true) : merge a b = (some (a.getD 0 at0), none) :: merge (a.drop 1) b := by
  match a, h with
  | x :: a, _ =>
    match b, hb with
    | [], _ => simp [merge]
    | y :: b, hb =>
      rcases hb with hb | hb
      · simp at hb
      · rw [merge]
        rw [if_pos (by simpa using hb)]
        simp
theorem merge_y (a b : List At) (h : 0 < b.length) (ha : a.length = 0 ∨ (Op.bytesLess (a.getD 0 at0).1.toList (b.getD 0 at0).1.toList = false ∧ Op.bytesLess (b.getD 0 at0).1.toList (a.getD 0 at0).1.toList = true)) : merge a b = (none, some (b.getD 0 at0)) :: merge a (b.drop 1) := by
  match b, h with
  | y :: b, _ =>
    match a, ha with
    | [], _ => simp [merge]
    | x :: a, ha =>
      rcases ha with ha | ⟨h1, h2⟩
      · simp at ha
      · rw [merge]
        rw [if_neg (by simpa using h1), if_pos (by simpa using h2)]
        simp
theorem merge_xy (a b : List At) (h : 0 < a.length) (h' : 0 < b.length) (h1 : Op.bytesLess (a.getD 0 at0).1.toList (b.getD 0 at0).1.toList = false) (h2 : Op.bytesLess (b.getD 0 at0).1.toList (a.getD 0 at0).1.toList = false) :
    merge a b = (some (a.getD 0 at0), some (b.getD 0 at0)) :: merge (a.drop 1) (b.drop 1) := by
  match a, b, h, h' with
  | x :: a, y :: b, _, _ =>
    rw [merge]
    rw [if_neg (by simpa using h1), if_neg (by simpa using h2)]
    simp
/-- a pointer to an attribute, or nil -/
def PtrTo (w : World) (v : Value) : Option At → Prop
  | none => v = .pointer none
  | some x => ∃ ad, v = .pointer (some ad) ∧ CellsAt w ad (atV x)
end Go.Proofs.YtkehomiogkoomaaDoor
