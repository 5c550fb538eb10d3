/- The layer command: the library. -/
import Derived.Test.YtfhcpegemapbkaaProg
import Derived.Test.YtfhcpegemapbkaaSz
import Derived.Test.YtfhcpegemapbkaaCmdBase
import Derived.Shelf.LaysM
import Derived.Shelf.Small.Strs
import Derived.Shelf.Strings.Prefix
set_option linter.unusedVariables false
set_option linter.unusedSimpArgs false
set_option maxRecDepth 10000
namespace Go.Proofs.Ytfhcpegemapbkaa
open Go Go.Shelf Go.RowKit Go.Proofs Go.Proofs.Sx

def laysIndexByte_ren : Go.Shelf.Ren := ⟨fun | 137 => 53 | 217 => 59 | 266 => 64 | n => n, fun | 9 => 9 | 5 => 5 | 3 => 3 | n => n, fun n => n⟩
theorem laysIndexByte : Lays.n137 Try.prog laysIndexByte_ren where
  mixed := by kernel_rfl
  f137 := Try.func53.trans (congrArg some (by kernel_rfl))
  f217 := Try.func59.trans (congrArg some (by kernel_rfl))
  f266 := Try.func64.trans (congrArg some (by kernel_rfl))
  t3 := Try.underlying3
  a3 := Try.isAgg3
  z3 := Try.sizeOf3
  v3 := Try.zeroValue3
  t5 := Try.underlying5
  a5 := Try.isAgg5
  z5 := Try.sizeOf5
  v5 := Try.zeroValue5
  t9 := Try.underlying9
  a9 := Try.isAgg9
  z9 := Try.sizeOf9
  v9 := Try.zeroValue9

def laysHasPrefix_ren : Go.Shelf.Ren := ⟨fun | 99 => 54 | 206 => 60 | n => n, fun | 9 => 9 | 4 => 4 | 3 => 3 | n => n, fun n => n⟩
theorem laysHasPrefix : Lays.n99 Try.prog laysHasPrefix_ren where
  mixed := by kernel_rfl
  f99 := Try.func54.trans (congrArg some (by kernel_rfl))
  f206 := Try.func60.trans (congrArg some (by kernel_rfl))
  t3 := Try.underlying3
  a3 := Try.isAgg3
  z3 := Try.sizeOf3
  v3 := Try.zeroValue3
  t4 := Try.underlying4
  a4 := Try.isAgg4
  z4 := Try.sizeOf4
  v4 := Try.zeroValue4
  t9 := Try.underlying9
  a9 := Try.isAgg9
  z9 := Try.sizeOf9
  v9 := Try.zeroValue9

theorem indexByte_any (s : ByteArray) (c : Int) (w : World) : Calls Try.prog 53 #[.string s, .int .u8 c] w fun e w' => e = .returned (.int .i64 (Lib.indexByte s.data.toList c.toNat.toUInt8)) ∧ Only none' w w' :=
  (Any.strings_IndexByte laysIndexByte s c w).mono fun e w' ⟨he, hw⟩ => ⟨he, by subst hw; exact Only.refl _ _⟩
theorem hasPrefix_any (s p : ByteArray) (w : World) : Calls Try.prog 54 #[.string s, .string p] w fun e w' => e = .returned (.bool (Lib.hasPrefix s.data.toList p.data.toList)) ∧ Only none' w w' :=
  (Any.strings_HasPrefix laysHasPrefix s p w).mono fun e w' ⟨he, hw⟩ => ⟨he, by subst hw; exact Only.refl _ _⟩

end Go.Proofs.Ytfhcpegemapbkaa
