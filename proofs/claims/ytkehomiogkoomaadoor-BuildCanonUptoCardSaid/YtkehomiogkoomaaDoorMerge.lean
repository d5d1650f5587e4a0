/- Two rising lists of attributes gone through key by key. Plain lists. (under way) -/
import Derived.Test.YtkehomiogkoomaaDoorAt
set_option linter.unusedVariables false
set_option linter.unusedSimpArgs false
namespace Go.Proofs.YtkehomiogkoomaaDoor
open Go RX

/-- the steps: what each list has of a key -/
def merge : List At → List At → List (Option At × Option At)
  | [], [] => []
  | x :: a, [] => (some x, none) :: merge a []
  | [], y :: b => (none, some y) :: merge [] b
  | x :: a, y :: b => if Op.bytesLess x.1.toList y.1.toList then (some x, none) :: merge a (y :: b) else if Op.bytesLess y.1.toList x.1.toList then (none, some y) :: merge (x :: a) b else (some x, some y) :: merge a b
  termination_by a b => a.length + b.length
def stepKey : Option At × Option At → ByteArray
  | (some x, _) => x.1
  | (none, some y) => y.1
  | _ => ⟨#[]⟩
end Go.Proofs.YtkehomiogkoomaaDoor
