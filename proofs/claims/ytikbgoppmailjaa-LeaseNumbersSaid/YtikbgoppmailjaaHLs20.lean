import Derived.Test.YtikbgoppmailjaaHLs19
import Derived.Test.YtikbgoppmailjaaHLs13
import Derived.Shelf.SlSortCmp.InsertionK
/- What the kit's insertion sort at structs wants: the order in every world that the sort passes through; rows as its arrays. -/
namespace Go.Proofs.Ytikbgoppmailjaa.H
open Go.RowKit Go.HK Go.Maps Go.Sort Go.Lib Go.WideShapes Go.ChangeShapes Go.Proofs.YtikbgoppmailjaaW.PrintWords Go.Proofs.YtikbgoppmailjaaW.PrintLast Go.Proofs.YtikbgoppmailjaaW.PrintMore
set_option linter.unusedVariables false
set_option linter.unusedSimpArgs false
set_option maxRecDepth 100000 in
theorem later_world {w : World} {x y : G3} : Calls Try.prog 27 #[.agg (c3 x).toArray, .agg (c3 y).toArray] w fun e w' => e = .returned (.int .i64 (cmpI x.2.2 y.2.2)) ∧ w' = (w.alloc (.cells (c3 x).toArray 38)).alloc (.cells (c3 y).toArray 38) := by
  obtain ⟨a, b, c⟩ := x
  obtain ⟨a', b', c'⟩ := y
  show Calls Try.prog 27 #[.agg #[.int .i64 a, .int .i64 b, .int .u64 c], .agg #[.int .i64 a', .int .i64 b', .int .u64 c']] w _
  go_enter Try.func27, Try.ntmps27
  go_wp2_with (go_at_call 28; refine (compare_calls).mono ?_; rintro e z ⟨hz, rfl⟩; obtain rfl := hz.symm)
  go_ret
  exact ⟨rfl, rfl⟩
def cmpG (x y : G3) : Int := cmpI x.2.2 y.2.2
theorem cmp_lays (g L : Nat) (w : World) : CmpLays Try.prog 27 #[] c3 3 cmpG g 0 L w := by
  intro m os dk hs x y
  refine (later_world).mono ?_
  rintro e w' ⟨rfl, rfl⟩
  refine ⟨rfl, 0, #[.cells (c3 x).toArray 38, .cells (c3 y).toArray 38], ?_⟩
  rw [alloc_eq_grow, alloc_eq_grow, grow_grow]
  rfl
def arr (L : Nat) (f : Nat → G3) : Array G3 := ((List.range L).map f).toArray
theorem arr_size (L : Nat) (f : Nat → G3) : (arr L f).size = L := by simp [arr]
theorem arr_get (L : Nat) (f : Nat → G3) {i : Nat} (h : i < L) : (arr L f)[i]! = f i := by
  rw [getElem!_pos _ i (by rw [arr_size]; exact h)]
  simp [arr]
theorem row_holds {w : World} {g L : Nat} {f : Nat → G3} (h : RowF w g L f) : HoldsK c3 3 w g 0 (arr L f) := by
  obtain ⟨C, h1, h2, h3⟩ := h
  intro j hj
  rw [size_flatK, arr_size] at hj
  refine ⟨?_, blk_frozen h1 _⟩
  rw [blk_cell h1, get_flatK _ _ _ _ (by rw [arr_size]; exact hj), arr_get L f (by omega)]
  obtain ⟨a0, a1, a2⟩ := h3 (j / 3) (by omega)
  have e : 0 + j = 3 * (j / 3) + j % 3 := by omega
  rw [e]
  have hr : j % 3 = 0 ∨ j % 3 = 1 ∨ j % 3 = 2 := by omega
  rcases hr with hr | hr | hr <;> rw [hr]
  · exact a0
  · exact a1
  · exact a2
theorem sorted_row {w : World} {g L n : Nat} {f : Nat → G3} {os : Array Obj} (h : RowF w g L f) (d : Array G3) (hd : d.size = L) : RowF (sortWorldK c3 3 w g 0 n d os) g L (fun i => d[i]!) ∧ w.grownBy (sortWorldK c3 3 w g 0 n d os) (some g) := by
  have hlt := h.lt
  obtain ⟨C, h1, h2, h3⟩ := h
  constructor
  · refine ⟨putCells id 0 (flatK c3 3 d) C, ?_, by simpa [putCells] using h2, fun i hi => ?_⟩
    · unfold sortWorldK putRowK
      rw [heap_grow_old _ _ (by simpa [putRow, mapBlock, Sort.ahead] using hlt)]
      simp [putRow, mapBlock, Sort.ahead, Array.getElem?_modify, h1, onCells]
    · have key : ∀ r, r < 3 → (putCells id 0 (flatK c3 3 d) C)[3 * i + r]? = some ((c3 d[i]!)[r]!) := by
        intro r hr
        have e : (flatK c3 3 d)[3 * i + r]! = (c3 d[i]!)[r]! := by
          rw [get_flatK _ _ _ _ (by omega)]
          have e1 : (3 * i + r) / 3 = i := by omega
          have e2 : (3 * i + r) % 3 = r := by omega
          rw [e1, e2]
        have hs : (flatK c3 3 d).size = d.size * 3 := size_flatK _ _ _
        rw [Array.getElem?_eq_getElem (by simp [putCells]; omega)]
        simp only [putCells, Array.getElem_mapIdx, id]
        rw [if_pos ⟨by omega, by rw [hs]; omega⟩, Nat.sub_zero, e]
      exact ⟨key 0 (by omega), key 1 (by omega), key 2 (by omega)⟩
  · unfold sortWorldK putRowK
    refine ⟨rfl, rfl, rfl, by simp, fun k hk hne => ?_⟩
    rw [heap_grow_old _ _ (by simpa using hk)]
    have : g ≠ k := fun e => hne (by rw [e])
    simp [putRow, mapBlock, Sort.ahead, Array.getElem?_modify, this]
end Go.Proofs.Ytikbgoppmailjaa.H
