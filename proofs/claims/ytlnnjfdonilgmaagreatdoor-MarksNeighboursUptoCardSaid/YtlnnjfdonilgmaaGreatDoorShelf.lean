/-
  DERIVED: THE SHELF's CONTRACTS AT THIS DUMP, IN PLAIN WORDS (tools/lay-plain.mjs out of 'TryzShelf.lean', which tools/lay-shelf.mjs wrote): THE SAME DECLARATIONS UNDER THE SAME NAMES: 'import', 'namespace', 'open', 'def', 'theorem' AND NOTHING ELSE: no command of the shelf's: FOR A HAND-IN. Each laying: the table of numbers ('.._ren') and one theorem, a field a fact of the dump's own or the kernel's comparison; each contract: ONE APPLICATION.
-/
import Derived.Shelf.Small.Bits
import Derived.Shelf.Utf8.RuneCount
import Derived.Shelf.Strconv.Itoa0
import Derived.Shelf.Unicode.Decode
import Derived.Shelf.Strings.RuneCount
import Derived.Shelf.Unicode.DecodeSlow
import Derived.Shelf.Unicode.DecodeAny
import Derived.Ground.SlgmProg
import Derived.Shelf.SortM.Plain
import Derived.Shelf.SortM.SortNone
import Derived.Shelf.Unicode.ValidAny
import Derived.Test.YtlnnjfdonilgmaaGreatDoorProg
namespace Go.Proofs
open Go.Shelf
def Tryz.lays195_ren :Go.Shelf.Ren:=⟨fun|195=>121|n=>n,fun|9=>9|3=>3|0=>0|4=>4|n=>n,fun|n=>n⟩
theorem Tryz.lays195 :Go.Proofs.Lays.n195 Tryz.prog Tryz.lays195_ren:={
  mixed:=by kernel_rfl
  f195:=Tryz.func121.trans (congrArg some (by kernel_rfl))
  t0:=Tryz.underlying0
  a0:=Tryz.isAgg0
  z0:=Tryz.sizeOf0
  v0:=Tryz.zeroValue0
  t3:=Tryz.underlying3
  a3:=Tryz.isAgg3
  z3:=Tryz.sizeOf3
  v3:=Tryz.zeroValue3
  t4:=Tryz.underlying4
  a4:=Tryz.isAgg4
  z4:=Tryz.sizeOf4
  v4:=Tryz.zeroValue4
  t9:=Tryz.underlying9
  a9:=Tryz.isAgg9
  z9:=Tryz.sizeOf9
  v9:=Tryz.zeroValue9 }
open Go.RowKit in
theorem Tryz.utf8_RuneCountInString (s:ByteArray)(w:World)(hs:s.size<9223372036854775807):
    Calls Tryz.prog 121 #[.string s] w fun e w'=>e=.returned (.int .i64 (Lib.runeCount s))∧∃ pos,w'=w.iter s pos:=Any.utf8_RuneCountInString Tryz.lays195 s w hs
def Tryz.lays197_ren :Go.Shelf.Ren:=⟨fun|197=>79|260=>100|n=>n,fun|9=>9|21=>21|3=>3|4=>4|5=>5|105=>136|119=>192|0=>0|46=>43|139=>195|138=>194|n=>n,fun|3=>19|4=>20|n=>n⟩
theorem Tryz.lays197 :Go.Proofs.Lays.n197 Tryz.prog Tryz.lays197_ren:={
  mixed:=by kernel_rfl
  f197:=Tryz.func79.trans (congrArg some (by kernel_rfl))
  f260:=Tryz.func100.trans (congrArg some (by kernel_rfl))
  t0:=Tryz.underlying0
  a0:=Tryz.isAgg0
  z0:=Tryz.sizeOf0
  v0:=Tryz.zeroValue0
  t3:=Tryz.underlying3
  a3:=Tryz.isAgg3
  z3:=Tryz.sizeOf3
  v3:=Tryz.zeroValue3
  t4:=Tryz.underlying4
  a4:=Tryz.isAgg4
  z4:=Tryz.sizeOf4
  v4:=Tryz.zeroValue4
  t5:=Tryz.underlying5
  a5:=Tryz.isAgg5
  z5:=Tryz.sizeOf5
  v5:=Tryz.zeroValue5
  t9:=Tryz.underlying9
  a9:=Tryz.isAgg9
  z9:=Tryz.sizeOf9
  v9:=Tryz.zeroValue9
  t21:=Tryz.underlying21
  a21:=Tryz.isAgg21
  z21:=Tryz.sizeOf21
  v21:=Tryz.zeroValue21
  t46:=Tryz.underlying43
  a46:=Tryz.isAgg43
  z46:=Tryz.sizeOf43
  v46:=Tryz.zeroValue43
  t105:=Tryz.underlying136
  a105:=Tryz.isAgg136
  z105:=Tryz.sizeOf136
  v105:=Tryz.zeroValue136
  t119:=Tryz.underlying192
  a119:=Tryz.isAgg192
  z119:=Tryz.sizeOf192
  t138:=Tryz.underlying194
  a138:=Tryz.isAgg194
  z138:=Tryz.sizeOf194
  v138:=Tryz.zeroValue194
  t139:=Tryz.underlying195
  a139:=Tryz.isAgg195
  z139:=Tryz.sizeOf195
  v139:=Tryz.zeroValue195
  g3:=by kernel_rfl
  g4:=by kernel_rfl }
def Tryz.lays260_ren :Go.Shelf.Ren:=⟨fun|260=>100|n=>n,fun|9=>9|21=>21|3=>3|4=>4|5=>5|119=>192|0=>0|46=>43|139=>195|138=>194|n=>n,fun|3=>19|4=>20|n=>n⟩
theorem Tryz.lays260 :Go.Proofs.Lays.n260 Tryz.prog Tryz.lays260_ren:={
  mixed:=by kernel_rfl
  f260:=Tryz.func100.trans (congrArg some (by kernel_rfl))
  t0:=Tryz.underlying0
  a0:=Tryz.isAgg0
  z0:=Tryz.sizeOf0
  v0:=Tryz.zeroValue0
  t3:=Tryz.underlying3
  a3:=Tryz.isAgg3
  z3:=Tryz.sizeOf3
  v3:=Tryz.zeroValue3
  t4:=Tryz.underlying4
  a4:=Tryz.isAgg4
  z4:=Tryz.sizeOf4
  v4:=Tryz.zeroValue4
  t5:=Tryz.underlying5
  a5:=Tryz.isAgg5
  z5:=Tryz.sizeOf5
  v5:=Tryz.zeroValue5
  t9:=Tryz.underlying9
  a9:=Tryz.isAgg9
  z9:=Tryz.sizeOf9
  v9:=Tryz.zeroValue9
  t21:=Tryz.underlying21
  a21:=Tryz.isAgg21
  z21:=Tryz.sizeOf21
  v21:=Tryz.zeroValue21
  t46:=Tryz.underlying43
  a46:=Tryz.isAgg43
  z46:=Tryz.sizeOf43
  v46:=Tryz.zeroValue43
  t119:=Tryz.underlying192
  a119:=Tryz.isAgg192
  z119:=Tryz.sizeOf192
  t138:=Tryz.underlying194
  a138:=Tryz.isAgg194
  z138:=Tryz.sizeOf194
  v138:=Tryz.zeroValue194
  t139:=Tryz.underlying195
  a139:=Tryz.isAgg195
  z139:=Tryz.sizeOf195
  v139:=Tryz.zeroValue195
  g3:=by kernel_rfl
  g4:=by kernel_rfl }
open Go.RowKit Go.Lib in
theorem Tryz.utf8_DecodeRuneInString (s:ByteArray)(w:World)(hT:Lib.Utf8Tabs 19 20 w):
    Calls Tryz.prog 79 #[.string s] w fun e w'=>e=.returned (.tuple #[.int .i32 (Lib.decodeGo s).1,.int .i64 (Lib.decodeGo s).2])∧Below w.heap.size w w':=Any.utf8_DecodeRuneInString Tryz.lays197 s w hT
def Tryz.lays196_ren :Go.Shelf.Ren:=⟨fun|196=>117|259=>123|n=>n,fun|9=>9|4=>4|3=>3|5=>5|12=>12|119=>192|0=>0|46=>43|139=>195|138=>194|53=>173|n=>n,fun|3=>19|4=>20|n=>n⟩
theorem Tryz.lays196 :Go.Proofs.Lays.n196 Tryz.prog Tryz.lays196_ren:={
  mixed:=by kernel_rfl
  f196:=Tryz.func117.trans (congrArg some (by kernel_rfl))
  f259:=Tryz.func123.trans (congrArg some (by kernel_rfl))
  t0:=Tryz.underlying0
  a0:=Tryz.isAgg0
  z0:=Tryz.sizeOf0
  v0:=Tryz.zeroValue0
  t3:=Tryz.underlying3
  a3:=Tryz.isAgg3
  z3:=Tryz.sizeOf3
  v3:=Tryz.zeroValue3
  t4:=Tryz.underlying4
  a4:=Tryz.isAgg4
  z4:=Tryz.sizeOf4
  v4:=Tryz.zeroValue4
  t5:=Tryz.underlying5
  a5:=Tryz.isAgg5
  z5:=Tryz.sizeOf5
  v5:=Tryz.zeroValue5
  t9:=Tryz.underlying9
  a9:=Tryz.isAgg9
  z9:=Tryz.sizeOf9
  v9:=Tryz.zeroValue9
  t12:=Tryz.underlying12
  a12:=Tryz.isAgg12
  z12:=Tryz.sizeOf12
  v12:=Tryz.zeroValue12
  t46:=Tryz.underlying43
  a46:=Tryz.isAgg43
  z46:=Tryz.sizeOf43
  v46:=Tryz.zeroValue43
  t53:=Tryz.underlying173
  a53:=Tryz.isAgg173
  z53:=Tryz.sizeOf173
  v53:=Tryz.zeroValue173
  t119:=Tryz.underlying192
  a119:=Tryz.isAgg192
  z119:=Tryz.sizeOf192
  t138:=Tryz.underlying194
  a138:=Tryz.isAgg194
  z138:=Tryz.sizeOf194
  v138:=Tryz.zeroValue194
  t139:=Tryz.underlying195
  a139:=Tryz.isAgg195
  z139:=Tryz.sizeOf195
  v139:=Tryz.zeroValue195
  g3:=by kernel_rfl
  g4:=by kernel_rfl }
open Go.RowKit Go.Lib in
theorem Tryz.utf8_ValidString (s:ByteArray)(w:World)(hs:s.size≤9223372036854775807)(hT:Lib.Utf8Tabs 19 20 w):
    Calls Tryz.prog 117 #[.string s] w fun e w'=>e=.returned (.bool (Lib.validD s.data.toList))∧Below w.heap.size w w':=Any.utf8_ValidString Tryz.lays196 s w hs hT
end Go.Proofs
