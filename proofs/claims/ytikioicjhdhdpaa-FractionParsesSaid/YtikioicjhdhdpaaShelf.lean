-- Cut out of the laying that the kit's tools wrote for this program (lay-shelf, lay-plain).
import Derived.Shelf.Strings.Search1
import Derived.Shelf.Strings.Search2
import Derived.Test.YtikioicjhdhdpaaProg
namespace Go.Proofs
open Go.Shelf
def Try.lays219_ren : Go.Shelf.Ren := ⟨fun | 219 => 65 | 217 => 66 | 225 => 67 | 224 => 68 | 267 => 69 | 266 => 70 | 314 => 71 | n => n, fun | 9 => 9 | 3 => 3 | 4 => 4 | 5 => 5 | 46 => 69 | 146 => 71 | 51 => 70 | n => n, fun | 1 => 0 | n => n⟩
theorem Try.lays219 : Go.Proofs.Lays.n219 Try.prog Try.lays219_ren := {
  mixed := by kernel_rfl
  f217 := Try.func66.trans (congrArg some (by kernel_rfl))
  f219 := Try.func65.trans (congrArg some (by kernel_rfl))
  f224 := Try.func68.trans (congrArg some (by kernel_rfl))
  f225 := Try.func67.trans (congrArg some (by kernel_rfl))
  f266 := Try.func70.trans (congrArg some (by kernel_rfl))
  f267 := Try.func69.trans (congrArg some (by kernel_rfl))
  f314 := Try.func71.trans (congrArg some (by kernel_rfl))
  t3 := Try.underlying3
  a3 := Try.isAgg3
  z3 := Try.sizeOf3
  v3 := Try.zeroValue3
  t4 := Try.underlying4
  a4 := Try.isAgg4
  z4 := Try.sizeOf4
  v4 := Try.zeroValue4
  t5 := Try.underlying5
  a5 := Try.isAgg5
  z5 := Try.sizeOf5
  v5 := Try.zeroValue5
  t9 := Try.underlying9
  a9 := Try.isAgg9
  z9 := Try.sizeOf9
  v9 := Try.zeroValue9
  t46 := Try.underlying69
  a46 := Try.isAgg69
  z46 := Try.sizeOf69
  v46 := Try.zeroValue69
  t51 := Try.underlying70
  a51 := Try.isAgg70
  z51 := Try.sizeOf70
  v51 := Try.zeroValue70
  t146 := Try.underlying71
  a146 := Try.isAgg71
  z146 := Try.sizeOf71
  v146 := Try.zeroValue71
  g1 := by kernel_rfl }
open Go.RowKit Go.Lib in
/-- internal/stringslite.Index (what strings.Index calls) AT A substr OF ONE BYTE c: IT RETURNS 'Lib.indexByte s c'; the world is as it was. (LAID: no walk: one application.) -/
theorem Try.stringslite_Index_one (s : ByteArray) (c : UInt8) (w : World) :
    Calls Try.prog 65 #[.string s, .string ⟨#[c]⟩] w fun e w' => e = .returned (.int .i64 (Lib.indexByte s.data.toList c)) ∧ w' = w := Any.stringslite_Index_one Try.lays219 s c w
end Go.Proofs
