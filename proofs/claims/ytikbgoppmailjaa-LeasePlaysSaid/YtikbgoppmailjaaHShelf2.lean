/- The shelf's contracts at this dump, in plain words (lay-plain.mjs), only those that are used. -/
import Derived.Shelf.SlSortCmp.InsertionK
import Derived.Ground.SlsfProg
import Derived.Shelf.Small.Bits
import Derived.Shelf.Strconv.Itoa0
import Derived.Shelf.Sort.Plain
import Derived.Shelf.Slices.In.SortNone
import Derived.Test.YtikbgoppmailjaaProg
namespace Go.Proofs
open Go.Shelf
def Try.insA_ren : Go.Shelf.Ren := ⟨fun | 20 => 38 | n => n, fun | 24 => 38 | 22 => 34 | 3 => 3 | 25 => 67 | 4 => 4 | 0 => 0 | n => n, fun | n => n⟩
theorem Try.insA : Go.Proofs.SlLaysF0.n20 Try.prog Try.insA_ren := {
  mixed := by kernel_rfl
  f20 := ⟨Try.f38.name, by decide, Try.func38.trans (congrArg some (by kernel_rfl))⟩
  t0 := Try.underlying0
  a0 := Try.isAgg0
  z0 := Try.sizeOf0
  v0 := Try.zeroValue0
  t3 := Try.underlying3
  a3 := Try.isAgg3
  z3 := Try.sizeOf3
  v3 := Try.zeroValue3
  t4 := Try.underlying4
  a4 := Try.isAgg4
  z4 := Try.sizeOf4
  v4 := Try.zeroValue4
  t22 := Try.underlying34
  a22 := Try.isAgg34
  z22 := Try.sizeOf34
  v22 := Try.zeroValue34
  t25 := Try.underlying67
  a25 := Try.isAgg67
  z25 := Try.sizeOf67
  v25 := Try.zeroValue67 }
end Go.Proofs
