import Derived.Test.YtojfdekiponccaaDoorTHShelf
import Derived.WalkSmall
import Derived.Sort.Grow
/- What a call asks of the package-level tables that it reads: 'Tabs w'. -/
namespace Go.Proofs.YtojfdekiponccaaDoor.H
open Go.RowKit Go.Sort
set_option linter.unusedVariables false
structure Tabs (w : World) : Prop where
  pow : Lib.TabIs Tryd.prog w "internal/strconv.uint64pow10" .u64 Lib.pow10Tab
theorem tabs_glob : Tryd.prog.globalNamed "internal/strconv.uint64pow10" = some 6 := by kernel_rfl
theorem Tabs.below {w w' : World} (h : Tabs w) (hb : Below w.heap.size w w') : Tabs w' := by
  have hlt : 6 < w.heap.size := World.block_lt_of_cell? w _ (h.pow.cell tabs_glob 0 (by decide))
  exact ⟨var?_below hb tabs_glob hlt h.pow⟩
/-- The decimal digits of u, by so many steps (what the kernel can reckon). -/
def digS : Nat → Nat → List UInt8
  | 0, _ => []
  | f + 1, u => if u < 10 then [UInt8.ofNat (48 + u)] else digS f (u / 10) ++ [UInt8.ofNat (48 + u % 10)]
def itoaS (n : Int) : List UInt8 := digS 20 n.toNat
end Go.Proofs.YtojfdekiponccaaDoor.H
