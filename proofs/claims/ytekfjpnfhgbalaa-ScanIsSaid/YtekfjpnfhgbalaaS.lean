import Derived.Shelf.Strings.Search1
import Derived.Shelf.Strings.Search2
import Derived.Test.YtekfjpnfhgbalaaProg
namespace Go.Proofs
open Go.Shelf
def Try.layIdx219_ren : Go.Shelf.Ren := ⟨fun | 219 => 35 | 217 => 36 | 225 => 37 | 224 => 38 | 267 => 39 | 266 => 40 | 314 => 41 | n => n, fun | 9 => 9 | 3 => 3 | 4 => 4 | 5 => 5 | 46 => 62 | 146 => 64 | 51 => 63 | n => n, fun | 1 => 0 | n => n⟩
theorem Try.layIdx219 : Go.Proofs.Lays.n219 Try.prog Try.layIdx219_ren := {
  mixed := by kernel_rfl
  f217 := Try.func36.trans (congrArg some (by kernel_rfl))
  f219 := Try.func35.trans (congrArg some (by kernel_rfl))
  f224 := Try.func38.trans (congrArg some (by kernel_rfl))
  f225 := Try.func37.trans (congrArg some (by kernel_rfl))
  f266 := Try.func40.trans (congrArg some (by kernel_rfl))
  f267 := Try.func39.trans (congrArg some (by kernel_rfl))
  f314 := Try.func41.trans (congrArg some (by kernel_rfl))
  t3 := Try.underlying3
  a3 := Try.isAgg3
  z3 := Try.sizeOf3
  v3 := Try.zeroValue3
  t4 := Try.underlying4
  a4 := Try.isAgg4
  z4 := Try.sizeOf4
  v4 := Try.zeroValue4
  t5 := Try.underlying5
  a5 := Try.isAgg5
  z5 := Try.sizeOf5
  v5 := Try.zeroValue5
  t9 := Try.underlying9
  a9 := Try.isAgg9
  z9 := Try.sizeOf9
  v9 := Try.zeroValue9
  t46 := Try.underlying62
  a46 := Try.isAgg62
  z46 := Try.sizeOf62
  v46 := Try.zeroValue62
  t51 := Try.underlying63
  a51 := Try.isAgg63
  z51 := Try.sizeOf63
  v51 := Try.zeroValue63
  t146 := Try.underlying64
  a146 := Try.isAgg64
  z146 := Try.sizeOf64
  v146 := Try.zeroValue64
  g1 := by kernel_rfl }
open Go.RowKit Go.Lib in
/-- internal/stringslite.Index (what strings.Index calls) AT A substr OF ONE BYTE c: IT RETURNS 'Lib.indexByte s c'; the world is as it was. (LAID: no walk: one application.) -/
theorem Try.stringslite_Index_byte (s : ByteArray) (c : UInt8) (w : World) :
    Calls Try.prog 35 #[.string s, .string ⟨#[c]⟩] w fun e w' => e = .returned (.int .i64 (Lib.indexByte s.data.toList c)) ∧ w' = w := Any.stringslite_Index_one Try.layIdx219 s c w
end Go.Proofs
