import Derived.Test.YtikbgoppmailjaaHLs11
/- The order that Over sorts by: the ends held against each other. -/
namespace Go.Proofs.Ytikbgoppmailjaa.H
open Go.RowKit Go.HK Go.Maps Go.WideShapes Go.ChangeShapes Go.Proofs.YtikbgoppmailjaaW.PrintWords Go.Proofs.YtikbgoppmailjaaW.PrintLast Go.Proofs.YtikbgoppmailjaaW.PrintMore
set_option linter.unusedVariables false
set_option linter.unusedSimpArgs false
def cmpI (a b : Int) : Int := if a < b then -1 else if b < a then 1 else 0
set_option maxRecDepth 100000 in
theorem nan_calls {w : World} {a : Int} : Calls Try.prog 34 #[.int .u64 a] w fun e w' => w' = w ∧ e = .returned (.bool false) := by
  go_enter Try.func34, Try.ntmps34
  go_wp2
  go_ret
  exact ⟨rfl, by simp⟩
set_option maxRecDepth 100000 in
theorem compare_calls {w : World} {a b : Int} : Calls Try.prog 28 #[.int .u64 a, .int .u64 b] w fun e w' => w' = w ∧ e = .returned (.int .i64 (cmpI a b)) := by
  go_enter Try.func28, Try.ntmps28
  go_wp2_with (go_at_call 34; refine (nan_calls).mono ?_; rintro e z ⟨hz, rfl⟩; obtain rfl := hz.symm)
  all_goals (go_ret; refine ⟨rfl, ?_⟩; unfold cmpI; simp [*]; try omega)
set_option maxRecDepth 100000 in
theorem later_calls {w : World} {x y : G3} : Calls Try.prog 27 #[gx x, gx y] w fun e w' => e = .returned (.int .i64 (cmpI x.2.2 y.2.2)) ∧ Below w.heap.size w w' := by
  obtain ⟨a, b, c⟩ := x
  obtain ⟨a', b', c'⟩ := y
  have e1 : (w.alloc (.cells #[.int .i64 a, .int .i64 b, .int .u64 c] 38)).heap.size = w.heap.size + 1 := by simp
  have BL := Aside0.mk (((Below.refl w.heap.size w).alloc (Nat.le_refl _) (.cells #[.int .i64 a, .int .i64 b, .int .u64 c] 38)).alloc (by rw [e1]; omega) (.cells #[.int .i64 a', .int .i64 b', .int .u64 c'] 38))
  clear e1
  go_enter Try.func27, Try.ntmps27
  go_wp2_with (go_at_call 28; refine (compare_calls).mono ?_; rintro e z ⟨hz, rfl⟩; obtain rfl := hz.symm)
  go_ret
  exact ⟨rfl, BL.out⟩
end Go.Proofs.Ytikbgoppmailjaa.H
