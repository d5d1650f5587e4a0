/-
  DERIVED: THE SHELF's CONTRACTS AT THIS DUMP, IN PLAIN WORDS (tools/lay-plain.mjs out of 'TrydShelf.lean', which tools/lay-shelf.mjs wrote): THE SAME DECLARATIONS UNDER THE SAME NAMES: 'import', 'namespace', 'open', 'def', 'theorem' AND NOTHING ELSE: no command of the shelf's: FOR A HAND-IN. Each laying: the table of numbers ('.._ren') and one theorem, a field a fact of the dump's own or the kernel's comparison; each contract: ONE APPLICATION.
-/
import Derived.Shelf.Utf8.RuneCount
import Derived.Shelf.Strings.Search1
import Derived.Shelf.Strings.Search2
import Derived.Shelf.Strings.Search3
import Derived.Shelf.Strings.Count
import Derived.Shelf.LaysM
import Derived.Shelf.Strings.Shaped
import Derived.Shelf.Unicode.Decode
import Derived.Shelf.Strings.RuneCount
import Derived.Shelf.Unicode.DecodeSlow
import Derived.Shelf.Unicode.DecodeAny
import Derived.Test.YtekfdfafhfhfbaaDoorProg
namespace Go.Proofs
open Go.Shelf
def Tryd.lays138_ren : Go.Shelf.Ren := ⟨fun | 138 => 98 | 195 => 125 | 218 => 126 | 143 => 127 | 219 => 136 | 217 => 140 | 225 => 141 | 224 => 142 | 267 => 143 | 266 => 146 | 314 => 147 | n => n, fun | 9 => 9 | 3 => 3 | 4 => 4 | 5 => 5 | 0 => 0 | 46 => 41 | 146 => 182 | 51 => 181 | n => n, fun | 1 => 21 | n => n⟩
theorem Tryd.lays138 : Go.Proofs.Lays.n138 Tryd.prog Tryd.lays138_ren := {
  mixed := by kernel_rfl
  f138 := Tryd.func98.trans (congrArg some (by kernel_rfl))
  f143 := Tryd.func127.trans (congrArg some (by kernel_rfl))
  f195 := Tryd.func125.trans (congrArg some (by kernel_rfl))
  f217 := Tryd.func140.trans (congrArg some (by kernel_rfl))
  f218 := Tryd.func126.trans (congrArg some (by kernel_rfl))
  f219 := Tryd.func136.trans (congrArg some (by kernel_rfl))
  f224 := Tryd.func142.trans (congrArg some (by kernel_rfl))
  f225 := Tryd.func141.trans (congrArg some (by kernel_rfl))
  f266 := Tryd.func146.trans (congrArg some (by kernel_rfl))
  f267 := Tryd.func143.trans (congrArg some (by kernel_rfl))
  f314 := Tryd.func147.trans (congrArg some (by kernel_rfl))
  t0 := Tryd.underlying0
  a0 := Tryd.isAgg0
  z0 := Tryd.sizeOf0
  v0 := Tryd.zeroValue0
  t3 := Tryd.underlying3
  a3 := Tryd.isAgg3
  z3 := Tryd.sizeOf3
  v3 := Tryd.zeroValue3
  t4 := Tryd.underlying4
  a4 := Tryd.isAgg4
  z4 := Tryd.sizeOf4
  v4 := Tryd.zeroValue4
  t5 := Tryd.underlying5
  a5 := Tryd.isAgg5
  z5 := Tryd.sizeOf5
  v5 := Tryd.zeroValue5
  t9 := Tryd.underlying9
  a9 := Tryd.isAgg9
  z9 := Tryd.sizeOf9
  v9 := Tryd.zeroValue9
  t46 := Tryd.underlying41
  a46 := Tryd.isAgg41
  z46 := Tryd.sizeOf41
  v46 := Tryd.zeroValue41
  t51 := Tryd.underlying181
  a51 := Tryd.isAgg181
  z51 := Tryd.sizeOf181
  v51 := Tryd.zeroValue181
  t146 := Tryd.underlying182
  a146 := Tryd.isAgg182
  z146 := Tryd.sizeOf182
  v146 := Tryd.zeroValue182
  g1 := by kernel_rfl }
open Go.RowKit Go.Lib in
/-- strings.Count AT A substr OF ONE BYTE ('hp'): "Count counts the number of non-overlapping instances of substr in s.": IT RETURNS 'Lib.countByte s (that byte)'; the world is as it was. ✋ NO CONTRACT HERE YET at an empty substr (utf8.RuneCountInString) or at a longer one (a loop over strings.Index). (LAID: no walk: one application.) -/
theorem Tryd.strings_Count_one (s : ByteArray) (c : UInt8) (w : World) :
    Calls Tryd.prog 98 #[.string s, .string ⟨#[c]⟩] w fun e w' => e = .returned (.int .i64 (Lib.countByte s.data.toList c)) ∧ w' = w := Any.strings_Count_one Tryd.lays138 s c w
end Go.Proofs
