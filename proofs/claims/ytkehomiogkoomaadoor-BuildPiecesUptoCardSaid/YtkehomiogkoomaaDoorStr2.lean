/- append(bs, s...): a text's bytes put behind a row of bytes. No condition. -/
import Derived.Test.YtkehomiogkoomaaDoorStr
set_option linter.unusedVariables false
set_option linter.unusedSimpArgs false
namespace Go.Proofs.YtkehomiogkoomaaDoor.RX
open Go Go.RowKit Go.Proofs.YtkehomiogkoomaaDoorW.PrintWords
section
variable {P : Program} {N : Nat} {ops : Array Oper} {qs : QS} {rest : List Oper} {o : Oper} {l : Slots} {w : World}
end
end Go.Proofs.YtkehomiogkoomaaDoor.RX
