import Derived.Test.YtikbgoppmailjaaHLs11
import Derived.Test.YtikbgoppmailjaaHLs13
import Derived.Shelf.SlSortCmp.InsertionK
import Derived.Test.YtikbgoppmailjaaHShelf2
import Derived.Sort.LotA
/- The order that Over sorts by: the ends held against each other. -/
namespace Go.Proofs.Ytikbgoppmailjaa.H
open Go.RowKit Go.HK Go.Maps Go.WideShapes Go.ChangeShapes Go.Proofs.YtikbgoppmailjaaW.PrintWords Go.Proofs.YtikbgoppmailjaaW.PrintLast Go.Proofs.YtikbgoppmailjaaW.PrintMore
set_option linter.unusedVariables false
set_option linter.unusedSimpArgs false
def cmpI (a b : Int) : Int := if a < b then -1 else if b < a then 1 else 0
set_option maxRecDepth 100000 in
theorem nan_calls {w : World} {a : Int} : Calls Try.prog 34 #[.int .u64 a] w fun e w' => w' = w ∧ e = .returned (.bool false) := by
  go_enter Try.func34, Try.ntmps34
  go_wp2
  go_ret
  exact ⟨rfl, by simp⟩
set_option maxRecDepth 100000 in
theorem compare_calls {w : World} {a b : Int} : Calls Try.prog 28 #[.int .u64 a, .int .u64 b] w fun e w' => w' = w ∧ e = .returned (.int .i64 (cmpI a b)) := by
  go_enter Try.func28, Try.ntmps28
  go_wp2_with (go_at_call 34; refine (nan_calls).mono ?_; rintro e z ⟨hz, rfl⟩; obtain rfl := hz.symm)
  all_goals (go_ret; refine ⟨rfl, ?_⟩; unfold cmpI; simp [*]; try omega)
set_option maxRecDepth 100000 in
theorem later_calls {w : World} {x y : G3} : Calls Try.prog 27 #[gx x, gx y] w fun e w' => e = .returned (.int .i64 (cmpI x.2.2 y.2.2)) ∧ Below w.heap.size w w' := by
  obtain ⟨a, b, c⟩ := x
  obtain ⟨a', b', c'⟩ := y
  have e1 : (w.alloc (.cells #[.int .i64 a, .int .i64 b, .int .u64 c] 38)).heap.size = w.heap.size + 1 := by simp
  have BL := Aside0.mk (((Below.refl w.heap.size w).alloc (Nat.le_refl _) (.cells #[.int .i64 a, .int .i64 b, .int .u64 c] 38)).alloc (by rw [e1]; omega) (.cells #[.int .i64 a', .int .i64 b', .int .u64 c'] 38))
  clear e1
  go_enter Try.func27, Try.ntmps27
  go_wp2_with (go_at_call 28; refine (compare_calls).mono ?_; rintro e z ⟨hz, rfl⟩; obtain rfl := hz.symm)
  go_ret
  exact ⟨rfl, BL.out⟩
end Go.Proofs.Ytikbgoppmailjaa.H
/- What the kit's insertion sort at structs wants: the order in every world that the sort passes through; rows as its arrays. -/
namespace Go.Proofs.Ytikbgoppmailjaa.H
open Go.RowKit Go.HK Go.Maps Go.Sort Go.Lib Go.WideShapes Go.ChangeShapes Go.Proofs.YtikbgoppmailjaaW.PrintWords Go.Proofs.YtikbgoppmailjaaW.PrintLast Go.Proofs.YtikbgoppmailjaaW.PrintMore
set_option linter.unusedVariables false
set_option linter.unusedSimpArgs false
set_option maxRecDepth 100000 in
theorem later_world {w : World} {x y : G3} : Calls Try.prog 27 #[.agg (c3 x).toArray, .agg (c3 y).toArray] w fun e w' => e = .returned (.int .i64 (cmpI x.2.2 y.2.2)) ∧ w' = (w.alloc (.cells (c3 x).toArray 38)).alloc (.cells (c3 y).toArray 38) := by
  obtain ⟨a, b, c⟩ := x
  obtain ⟨a', b', c'⟩ := y
  show Calls Try.prog 27 #[.agg #[.int .i64 a, .int .i64 b, .int .u64 c], .agg #[.int .i64 a', .int .i64 b', .int .u64 c']] w _
  go_enter Try.func27, Try.ntmps27
  go_wp2_with (go_at_call 28; refine (compare_calls).mono ?_; rintro e z ⟨hz, rfl⟩; obtain rfl := hz.symm)
  go_ret
  exact ⟨rfl, rfl⟩
def cmpG (x y : G3) : Int := cmpI x.2.2 y.2.2
theorem cmp_lays (g L : Nat) (w : World) : CmpLays Try.prog 27 #[] c3 3 cmpG g 0 L w := by
  intro m os dk hs x y
  refine (later_world).mono ?_
  rintro e w' ⟨rfl, rfl⟩
  refine ⟨rfl, 0, #[.cells (c3 x).toArray 38, .cells (c3 y).toArray 38], ?_⟩
  rw [alloc_eq_grow, alloc_eq_grow, grow_grow]
  rfl
def arr (L : Nat) (f : Nat → G3) : Array G3 := ((List.range L).map f).toArray
theorem arr_size (L : Nat) (f : Nat → G3) : (arr L f).size = L := by simp [arr]
theorem arr_get (L : Nat) (f : Nat → G3) {i : Nat} (h : i < L) : (arr L f)[i]! = f i := by
  rw [getElem!_pos _ i (by rw [arr_size]; exact h)]
  simp [arr]
theorem row_holds {w : World} {g L : Nat} {f : Nat → G3} (h : RowF w g L f) : HoldsK c3 3 w g 0 (arr L f) := by
  obtain ⟨C, h1, h2, h3⟩ := h
  intro j hj
  rw [size_flatK, arr_size] at hj
  refine ⟨?_, blk_frozen h1 _⟩
  rw [blk_cell h1, get_flatK _ _ _ _ (by rw [arr_size]; exact hj), arr_get L f (by omega)]
  obtain ⟨a0, a1, a2⟩ := h3 (j / 3) (by omega)
  have e : 0 + j = 3 * (j / 3) + j % 3 := by omega
  rw [e]
  have hr : j % 3 = 0 ∨ j % 3 = 1 ∨ j % 3 = 2 := by omega
  rcases hr with hr | hr | hr <;> rw [hr]
  · exact a0
  · exact a1
  · exact a2
theorem sorted_row {w : World} {g L n : Nat} {f : Nat → G3} {os : Array Obj} (h : RowF w g L f) (d : Array G3) (hd : d.size = L) : RowF (sortWorldK c3 3 w g 0 n d os) g L (fun i => d[i]!) ∧ w.grownBy (sortWorldK c3 3 w g 0 n d os) (some g) := by
  have hlt := h.lt
  obtain ⟨C, h1, h2, h3⟩ := h
  constructor
  · refine ⟨putCells id 0 (flatK c3 3 d) C, ?_, by simpa [putCells] using h2, fun i hi => ?_⟩
    · unfold sortWorldK putRowK
      rw [heap_grow_old _ _ (by simpa [putRow, mapBlock, Sort.ahead] using hlt)]
      simp [putRow, mapBlock, Sort.ahead, Array.getElem?_modify, h1, onCells]
    · have key : ∀ r, r < 3 → (putCells id 0 (flatK c3 3 d) C)[3 * i + r]? = some ((c3 d[i]!)[r]!) := by
        intro r hr
        have e : (flatK c3 3 d)[3 * i + r]! = (c3 d[i]!)[r]! := by
          rw [get_flatK _ _ _ _ (by omega)]
          have e1 : (3 * i + r) / 3 = i := by omega
          have e2 : (3 * i + r) % 3 = r := by omega
          rw [e1, e2]
        have hs : (flatK c3 3 d).size = d.size * 3 := size_flatK _ _ _
        rw [Array.getElem?_eq_getElem (by simp [putCells]; omega)]
        simp only [putCells, Array.getElem_mapIdx, id]
        rw [if_pos ⟨by omega, by rw [hs]; omega⟩, Nat.sub_zero, e]
      exact ⟨key 0 (by omega), key 1 (by omega), key 2 (by omega)⟩
  · unfold sortWorldK putRowK
    refine ⟨rfl, rfl, rfl, by simp, fun k hk hne => ?_⟩
    rw [heap_grow_old _ _ (by simpa using hk)]
    have : g ≠ k := fun e => hne (by rw [e])
    simp [putRow, mapBlock, Sort.ahead, Array.getElem?_modify, this]
end Go.Proofs.Ytikbgoppmailjaa.H
/- insertionSortCmpFunc over a row of leases. -/
namespace Go.Proofs.Ytikbgoppmailjaa.H
open Go.RowKit Go.HK Go.Maps Go.Sort Go.Lib Go.Shelf Go.WideShapes Go.ChangeShapes Go.Proofs.YtikbgoppmailjaaW.PrintWords Go.Proofs.YtikbgoppmailjaaW.PrintLast Go.Proofs.YtikbgoppmailjaaW.PrintMore
set_option linter.unusedVariables false
set_option linter.unusedSimpArgs false
theorem c3_one (x : G3) : ∀ v ∈ c3 x, v.oneCell' = true := by
  intro v hv
  simp at hv
  rcases hv with rfl | rfl | rfl <;> rfl
theorem ltG (x y : G3) : ltOf cmpG x y = decide (x.2.2 < y.2.2) := by
  unfold ltOf cmpG cmpI
  by_cases h1 : x.2.2 < y.2.2
  · simp [h1]
  · by_cases h2 : y.2.2 < x.2.2 <;> simp [h1, h2]
theorem swoG : SWO (ltOf cmpG) where
  irrefl x := by rw [ltG]; simp
  trans x y z h1 h2 := by rw [ltG] at *; simp at *; omega
  ntrans x y z h1 h2 := by rw [ltG] at *; simp at *; omega
theorem ins_calls {w : World} {g L cap a b : Nat} {f : Nat → G3} (hF : RowF w g L f) (hab : a ≤ b) (hb : b ≤ L) (hL : L ≤ 100000) :
    Calls Try.prog 38 #[.slice (some ⟨g, 0, none⟩) L cap, .int .i64 a, .int .i64 b, .func (.func 27) #[] #[]] w fun e w' =>
      e = .returned (.tuple #[]) ∧ RowF w' g L (fun i => (insertionSort (ltOf cmpG) (arr L f) a b)[i]!) ∧ w.grownBy w' (some g) := by
  have aE : ∀ w, (isAgg (Try.insA_ren.t 24)).run Try.prog w = .ok true w := fun w => by kernel_rfl
  have zE : ∀ w, (Go.sizeOf (Try.insA_ren.t 24)).run Try.prog w = .ok 3 w := fun w => by kernel_rfl
  have h := AnyQ.insertionSortCmpFunc Try.insA 3 aE zE c3 (fun _ => rfl) c3_one cmpG 27 #[] g 0 cap a b (arr L f) w (enters_of Try.func27 (by kernel_rfl) rfl) (by rw [arr_size]; exact cmp_lays g L w) (row_holds hF) hF.lt hab (by rw [arr_size]; exact hb) (by rw [arr_size]; omega)
  rw [arr_size] at h
  refine Calls.mono h ?_
  rintro e w' ⟨rfl, n, os, rfl⟩
  obtain ⟨r1, r2⟩ := sorted_row (n := n) (os := os) hF (insertionSort (ltOf cmpG) (arr L f) a b) (((insertionSort_holds swoG (arr L f) a b hab (by rw [arr_size]; exact hb)).1.1).trans (arr_size L f))
  exact ⟨rfl, r1, r2⟩
end Go.Proofs.Ytikbgoppmailjaa.H
