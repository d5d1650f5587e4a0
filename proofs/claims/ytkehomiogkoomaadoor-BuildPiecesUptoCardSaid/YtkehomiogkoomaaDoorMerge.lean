/- Two rising lists of attributes gone through key by key. Plain lists. (under way) -/
import Derived.Test.YtkehomiogkoomaaDoorAt
set_option linter.unusedVariables false
set_option linter.unusedSimpArgs false
namespace Go.Proofs.YtkehomiogkoomaaDoor
open Go RX

end Go.Proofs.YtkehomiogkoomaaDoor
