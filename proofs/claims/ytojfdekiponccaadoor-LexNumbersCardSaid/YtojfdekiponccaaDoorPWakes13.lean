import Derived.Test.YtojfdekiponccaaDoorHx7
import Derived.Test.YtojfdekiponccaaDoorPLex
import Derived.KernelRfl
/- The examples of chapter 13. -/
namespace Go.Proofs.YtojfdekiponccaaDoor.Pure
open Go.RowKit Go.Proofs.YtojfdekiponccaaDoor.H Go.Proofs.YtojfdekiponccaaDoorW.PrintWords Go.Proofs.YtojfdekiponccaaDoorW.PrintLast
theorem wakes13_10 : remontoirlaw13_wakes.f 10 = some true := by kernel_rfl
theorem wakes13 (k : Nat) (hk : 10 ≤ k) : remontoirlaw13_wakes.f k = some true := at_rounds (remontoirlaw13_wakes.mono) hk wakes13_10
end Go.Proofs.YtojfdekiponccaaDoor.Pure
