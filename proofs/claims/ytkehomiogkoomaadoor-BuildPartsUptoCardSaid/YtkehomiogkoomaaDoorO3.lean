/- What the references of layers content and ops answer: what the program answers. Conditions: sizes, the tables of utf8. -/
import Derived.Test.YtkehomiogkoomaaDoorO2
import Derived.Test.YtkehomiogkoomaaDoorB1
import Derived.Test.YtkehomiogkoomaaDoorUtf4
import Derived.Test.YtkehomiogkoomaaDoorAn2
import Derived.Test.YtkehomiogkoomaaDoorStr
import Derived.Test.YtkehomiogkoomaaDoorPatch
import Derived.Test.YtkehomiogkoomaaDoorA2
set_option linter.unusedVariables false
set_option linter.unusedSimpArgs false
set_option maxRecDepth 100000
namespace Go.Proofs.YtkehomiogkoomaaDoor
open Go Go.RowKit Go.Proofs.YtkehomiogkoomaaDoorW.PrintWords RX
theorem opSz.b {o : OpA} (h : opSz o) : o.text.size ≤ 100000000 ∧ o.vt.size ≤ 100000000 := by have h1 := h.1; have h2 := h.2.1; omega
end Go.Proofs.YtkehomiogkoomaaDoor
