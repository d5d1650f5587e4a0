/- Cells as elements and as arguments. No condition. -/
import Derived.Test.YtkehomiogkoomaaDoorOp2
set_option linter.unusedVariables false
set_option linter.unusedSimpArgs false
set_option maxRecDepth 100000
namespace Go.Proofs.YtkehomiogkoomaaDoor.RX
open Go Go.RowKit Go.Proofs.YtkehomiogkoomaaDoorW.PrintWords

structure CellA where
  rune : Int
  kind : ByteArray
  vk : Int
  vn : Int
  vt : ByteArray
  attrs : List At
def CellA.tup (o : CellA) : Int × ByteArray × (Int × Int × ByteArray) × List At := (o.rune, o.kind, (o.vk, o.vn, o.vt), o.attrs)
end Go.Proofs.YtkehomiogkoomaaDoor.RX
