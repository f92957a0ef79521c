import Derived.Test.YtojfdekiponccaaDoorRows
import Derived.Test.YtojfdekiponccaaDoorTHTabs2
import Derived.LaidMore
import Derived.Lay
import Derived.Stop.LaidErr
import Derived.Stop.Joined
import Derived.MakeChecks
import Derived.Lib.LaidTab
import Derived.KernelRfl
/- What the laid variables of an Eval row give: the power table and guard's own error. -/
namespace Go.Proofs.YtojfdekiponccaaDoor.H
open Go.RowKit
theorem star_eq : "*" ++ "errors.errorString" = "*errors.errorString" := by decide
theorem tabs2_of {W : World} (h : laidMetH Tryd.prog Rows.evalOrderRow.laid W) : Tabs2 W := by
  rw [MakeChecks.laidMetH_plain _ _ _ (by kernel_rfl)] at h
  have h1 : laidMet Tryd.prog ((_, Lib.tabData .u64 Lib.pow10Tab) :: _) W := laidMet.tail (laidMet.tail h)
  have h2 : laidMet Tryd.prog (("remontoir/guard.wrong", .iface "*errors.errorString" (.ptr (.agg [.lit (.string _)]))) :: _) W := laidMet.tail (laidMet.tail (laidMet.tail (laidMet.tail (laidMet.tail (laidMet.tail h)))))
  have ht : Tabs W := ⟨Lib.tabIs_of_head tabs_glob (by kernel_rfl) (n := 20) (t := 160) (e := 41) (by kernel_rfl) (by kernel_rfl) (by kernel_rfl) (by kernel_rfl) h1⟩
  obtain ⟨a, s, hv, _⟩ := laid_sentinel (g := 0) (ti := 72) (tp := 156) (te := 158) (ts := 9) h2 (by kernel_rfl) (by kernel_rfl) Tryd.underlying72 (by
    intro u hu
    exact typeName_ptr_named (nm := "errors.errorString") (by rw [star_eq]; kernel_rfl) (by kernel_rfl) (by decide) u (by rw [star_eq]; exact hu)) Tryd.underlying156 Tryd.underlying158 rfl rfl (by kernel_rfl) (by kernel_rfl) (by kernel_rfl)
  exact ⟨ht, _, _, World.var?_cell (by kernel_rfl) hv 0⟩
end Go.Proofs.YtojfdekiponccaaDoor.H
