import Derived.Test.YtikbgoppmailjaaHLs10
import Derived.Deep.MidRow
/- Rows of leases, written in place: their words. -/
namespace Go.Proofs.Ytikbgoppmailjaa.H
open Go.RowKit Go.HK Go.Maps Go.WideShapes Go.ChangeShapes Go.Proofs.YtikbgoppmailjaaW.PrintWords Go.Proofs.YtikbgoppmailjaaW.PrintLast Go.Proofs.YtikbgoppmailjaaW.PrintMore
set_option linter.unusedVariables false
set_option linter.unusedSimpArgs false
abbrev G3 := Int × Int × Int
abbrev gx (x : G3) : Value := gv x.1 x.2.1 x.2.2
/-- Block g holds N leases and maybe more: f i is the i-th. -/
def RowF (w : World) (g N : Nat) (f : Nat → G3) : Prop := ∃ C : Array Value, w.heap[g]? = some (.cells C 38 (0, 0)) ∧ 3 * N ≤ C.size ∧ ∀ i, i < N → C[3 * i]? = some (.int .i64 (f i).1) ∧ C[3 * i + 1]? = some (.int .i64 (f i).2.1) ∧ C[3 * i + 2]? = some (.int .u64 (f i).2.2)
def upd (f : Nat → G3) (i : Nat) (x : G3) : Nat → G3 := fun k => if k = i then x else f k
theorem RowF.lt {w : World} {g N : Nat} {f : Nat → G3} (h : RowF w g N f) : g < w.heap.size := by obtain ⟨C, e, _⟩ := h; exact blk_lt e
theorem RowF.block {w w' : World} {g N : Nat} {f : Nat → G3} (h : RowF w g N f) (e : w'.heap[g]? = w.heap[g]?) : RowF w' g N f := by
  obtain ⟨C, h1, h2⟩ := h
  exact ⟨C, e.trans h1, h2⟩
theorem RowF.below {w w' : World} {g N B : Nat} {f : Nat → G3} (h : RowF w g N f) (hb : Below B w w') (hg : g < B) : RowF w' g N f := h.block (hb.block g hg)
theorem RowF.keep {w w' : World} {g N : Nat} {f : Nat → G3} (h : RowF w g N f) (hb : Below w.heap.size w w') : RowF w' g N f := h.below hb h.lt
theorem RowF.same {w : World} {g N : Nat} {f f' : Nat → G3} (h : RowF w g N f) (e : ∀ i, i < N → f i = f' i) : RowF w g N f' := by
  obtain ⟨C, h1, h2, h3⟩ := h
  exact ⟨C, h1, h2, fun i hi => by rw [← e i hi]; exact h3 i hi⟩
theorem row_load {w : World} {g N : Nat} {f : Nat → G3} (h : RowF w g N f) {i : Nat} (hi : i < N) : (Instr.loadAt 38 (.pointer (some ⟨g, 3 * i, none⟩))).run Try.prog w = .ok (gx (f i)) w := by
  obtain ⟨C, h1, h2, h3⟩ := h
  obtain ⟨a0, a1, a2⟩ := h3 i hi
  exact run_loadAt_mid (P := Try.prog) w g (3 * i) _ (c3 (f i)) _ (fun j v hv => by
    rw [cell_of_row w g (3 * i + j) _ _ (0, 0) h1]
    match j, hv with
    | 0, hv => rw [← hv]; exact a0
    | 1, hv => rw [← hv]; exact a1
    | 2, hv => rw [← hv]; exact a2
    | k + 3, hv => simp at hv) Try.underlying38 rfl (by kernel_rfl)
theorem setCells_three (w : World) (g o : Nat) (a b c : Value) : w.setCells g o [a, b, c] = ((w.setCell ⟨g, o, none⟩ a).setCell ⟨g, o + 1, none⟩ b).setCell ⟨g, o + 1 + 1, none⟩ c := rfl
theorem row_store {w : World} {g N : Nat} {f : Nat → G3} (h : RowF w g N f) {i : Nat} (hi : i < N) (x : G3) : ∃ w', (Instr.storeAt 38 (.pointer (some ⟨g, 3 * i, none⟩)) (gx x)).run Try.prog w = .ok () w' ∧ RowF w' g N (upd f i x) ∧ w.grownBy w' (some g) := by
  obtain ⟨C, h1, h2, h3⟩ := h
  have hc : ∀ j, j < 3 → (w.cell? ⟨g, 3 * i + j, none⟩).isSome = true ∧ w.frozen? ⟨g, 3 * i + j, none⟩ = false := fun j hj => by
    constructor
    · rw [cell_of_row w g (3 * i + j) _ _ (0, 0) h1, Array.getElem?_eq_getElem (by omega)]; rfl
    · exact blk_frozen h1 _
  refine ⟨_, run_storeAt_mid (P := Try.prog) w g (3 * i) _ #[.int .i64 x.1, .int .i64 x.2.1, .int .u64 x.2.2] (fun j hj => hc j hj) (by kernel_rfl) (by simp [Value.oneCell']), ?_, ?_⟩
  · show RowF (w.setCells g (3 * i) [.int .i64 x.1, .int .i64 x.2.1, .int .u64 x.2.2]) g N (upd f i x)
    rw [setCells_three]
    refine ⟨_, blk_set (blk_set (blk_set h1 _ _) _ _) _ _, by simpa using h2, fun k hk => ?_⟩
    obtain ⟨a0, a1, a2⟩ := h3 k hk
    by_cases e : k = i
    · subst e
      have s0 : 3 * k + 1 + 1 < C.size := by omega
      simp only [upd, if_true]
      refine ⟨?_, ?_, ?_⟩
      · rw [Array.getElem?_setIfInBounds_ne (by omega), Array.getElem?_setIfInBounds_ne (by omega), Array.getElem?_setIfInBounds_self_of_lt (by omega)]
      · rw [Array.getElem?_setIfInBounds_ne (by omega), Array.getElem?_setIfInBounds_self_of_lt (by simp only [Array.size_setIfInBounds]; omega)]
      · rw [Array.getElem?_setIfInBounds_self_of_lt (by simp only [Array.size_setIfInBounds]; omega)]
    · simp only [upd, if_neg e]
      refine ⟨?_, ?_, ?_⟩
      · rw [Array.getElem?_setIfInBounds_ne (by omega), Array.getElem?_setIfInBounds_ne (by omega), Array.getElem?_setIfInBounds_ne (by omega)]; exact a0
      · rw [Array.getElem?_setIfInBounds_ne (by omega), Array.getElem?_setIfInBounds_ne (by omega), Array.getElem?_setIfInBounds_ne (by omega)]; exact a1
      · rw [Array.getElem?_setIfInBounds_ne (by omega), Array.getElem?_setIfInBounds_ne (by omega), Array.getElem?_setIfInBounds_ne (by omega)]; exact a2
  · show w.grownBy (w.setCells g (3 * i) [.int .i64 x.1, .int .i64 x.2.1, .int .u64 x.2.2]) (some g)
    rw [setCells_three]
    exact ⟨rfl, rfl, rfl, by simp, fun k hk hne => by
      have e : k ≠ g := fun e => hne (by rw [e])
      rw [Below.heap_setCell _ _ _ _ e, Below.heap_setCell _ _ _ _ e, Below.heap_setCell _ _ _ _ e]⟩
theorem row_index {w : World} {g L cap i : Nat} (hi : i < L) : (Instr.indexAt 34 (.slice (some ⟨g, 0, none⟩) L cap) (.int .i64 i)).run Try.prog w = .ok (.pointer (some ⟨g, 3 * i, none⟩)) w := by
  have hs : (sizeOf 38).run Try.prog w = .ok 3 w := by kernel_rfl
  have hu := run_underlying Try.underlying34 w
  have hb : (0 : Int) ≤ (i : Int) ∧ (i : Int) < (L : Int) := by omega
  have ha : (⟨g, 0, none⟩ : Addr).add (3 * i) = ⟨g, 3 * i, none⟩ := by rw [Addr.add_mid]; simp
  simp [Instr.indexAt, asIntOf, Sem.run_bind, hu, hs, Result.andThen, hb, hi, Nat.mul_comm i 3, ha]
end Go.Proofs.Ytikbgoppmailjaa.H
