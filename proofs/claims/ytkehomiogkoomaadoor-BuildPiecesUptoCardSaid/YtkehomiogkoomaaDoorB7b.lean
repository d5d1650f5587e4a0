/- What vellumref01.decode, Breaks, List and Check answer. Conditions: sizes. -/
import Derived.Test.YtkehomiogkoomaaDoorB7
set_option linter.unusedVariables false
set_option linter.unusedSimpArgs false
set_option maxRecDepth 100000
namespace Go.Proofs.YtkehomiogkoomaaDoor
open Go Go.RowKit Go.Proofs.YtkehomiogkoomaaDoorW.PrintWords RX
end Go.Proofs.YtkehomiogkoomaaDoor
