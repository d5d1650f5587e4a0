/- What the references' checks answer: the numbers of the program's own. Conditions: sizes, the tables of utf8. -/
import Derived.Test.YtkehomiogkoomaaDoorB7b
import Derived.Test.YtkehomiogkoomaaDoorPatch
import Derived.Test.YtkehomiogkoomaaDoorA2
set_option linter.unusedVariables false
set_option linter.unusedSimpArgs false
set_option maxRecDepth 100000
namespace Go.Proofs.YtkehomiogkoomaaDoor
open Go Go.RowKit Go.Proofs.YtkehomiogkoomaaDoorW.PrintWords RX
end Go.Proofs.YtkehomiogkoomaaDoor
