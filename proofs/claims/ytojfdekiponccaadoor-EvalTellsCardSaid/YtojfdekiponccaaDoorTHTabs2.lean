import Derived.Test.YtojfdekiponccaaDoorTHTabs
/- What a call asks of the package-level tables and of guard's own error: 'Tabs2 w'. -/
namespace Go.Proofs.YtojfdekiponccaaDoor.H
open Go.RowKit
structure Tabs2 (w : World) : Prop extends Tabs w where
  wrong : ∃ T pv, w.cell? ⟨0, 0, none⟩ = some (.iface T pv)
theorem Tabs2.below {w w' : World} (h : Tabs2 w) (hb : Below w.heap.size w w') : Tabs2 w' := by
  obtain ⟨T, pv, hc⟩ := h.wrong
  have hlt : 0 < w.heap.size := World.block_lt_of_cell? w _ hc
  exact ⟨h.toTabs.below hb, T, pv, (hb.cell (p := ⟨0, 0, none⟩) hlt).trans hc⟩
end Go.Proofs.YtojfdekiponccaaDoor.H
