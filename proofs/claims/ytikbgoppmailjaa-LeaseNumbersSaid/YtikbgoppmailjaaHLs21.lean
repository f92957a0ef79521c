import Derived.Test.YtikbgoppmailjaaHLs20
import Derived.Test.YtikbgoppmailjaaHShelf2
import Derived.Sort.LotA
/- insertionSortCmpFunc over a row of leases. -/
namespace Go.Proofs.Ytikbgoppmailjaa.H
open Go.RowKit Go.HK Go.Maps Go.Sort Go.Lib Go.Shelf Go.WideShapes Go.ChangeShapes Go.Proofs.YtikbgoppmailjaaW.PrintWords Go.Proofs.YtikbgoppmailjaaW.PrintLast Go.Proofs.YtikbgoppmailjaaW.PrintMore
set_option linter.unusedVariables false
set_option linter.unusedSimpArgs false
theorem c3_one (x : G3) : ∀ v ∈ c3 x, v.oneCell' = true := by
  intro v hv
  simp at hv
  rcases hv with rfl | rfl | rfl <;> rfl
theorem ltG (x y : G3) : ltOf cmpG x y = decide (x.2.2 < y.2.2) := by
  unfold ltOf cmpG cmpI
  by_cases h1 : x.2.2 < y.2.2
  · simp [h1]
  · by_cases h2 : y.2.2 < x.2.2 <;> simp [h1, h2]
theorem swoG : SWO (ltOf cmpG) where
  irrefl x := by rw [ltG]; simp
  trans x y z h1 h2 := by rw [ltG] at *; simp at *; omega
  ntrans x y z h1 h2 := by rw [ltG] at *; simp at *; omega
theorem ins_calls {w : World} {g L cap a b : Nat} {f : Nat → G3} (hF : RowF w g L f) (hab : a ≤ b) (hb : b ≤ L) (hL : L ≤ 100000) :
    Calls Try.prog 38 #[.slice (some ⟨g, 0, none⟩) L cap, .int .i64 a, .int .i64 b, .func (.func 27) #[] #[]] w fun e w' =>
      e = .returned (.tuple #[]) ∧ RowF w' g L (fun i => (insertionSort (ltOf cmpG) (arr L f) a b)[i]!) ∧ w.grownBy w' (some g) := by
  have aE : ∀ w, (isAgg (Try.insA_ren.t 24)).run Try.prog w = .ok true w := fun w => by kernel_rfl
  have zE : ∀ w, (Go.sizeOf (Try.insA_ren.t 24)).run Try.prog w = .ok 3 w := fun w => by kernel_rfl
  have h := AnyQ.insertionSortCmpFunc Try.insA 3 aE zE c3 (fun _ => rfl) c3_one cmpG 27 #[] g 0 cap a b (arr L f) w (enters_of Try.func27 (by kernel_rfl) rfl) (by rw [arr_size]; exact cmp_lays g L w) (row_holds hF) hF.lt hab (by rw [arr_size]; exact hb) (by rw [arr_size]; omega)
  rw [arr_size] at h
  refine Calls.mono h ?_
  rintro e w' ⟨rfl, n, os, rfl⟩
  obtain ⟨r1, r2⟩ := sorted_row (n := n) (os := os) hF (insertionSort (ltOf cmpG) (arr L f) a b) (((insertionSort_holds swoG (arr L f) a b hab (by rw [arr_size]; exact hb)).1.1).trans (arr_size L f))
  exact ⟨rfl, r1, r2⟩
end Go.Proofs.Ytikbgoppmailjaa.H
