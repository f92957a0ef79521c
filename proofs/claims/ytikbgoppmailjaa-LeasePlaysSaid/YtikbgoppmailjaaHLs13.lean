import Derived.Test.YtikbgoppmailjaaHLs12
/- DeleteFunc over a row of leases: what lasts no longer stays, in its order. -/
namespace Go.Proofs.Ytikbgoppmailjaa.H
open Go.RowKit Go.HK Go.Maps Go.WideShapes Go.ChangeShapes Go.Proofs.YtikbgoppmailjaaW.PrintWords Go.Proofs.YtikbgoppmailjaaW.PrintLast Go.Proofs.YtikbgoppmailjaaW.PrintMore
set_option linter.unusedVariables false
set_option linter.unusedSimpArgs false
theorem grown_trans {w w' w'' : World} {r : Option Nat} (h : w.grownBy w' r) (h' : w'.grownBy w'' r) : w.grownBy w'' r :=
  ⟨h'.os.trans h.os, h'.tape.trans h.tape, h'.output.trans h.output, Nat.le_trans h.size h'.size, fun k hk hne => (h'.block k (Nat.lt_of_lt_of_le hk h.size) hne).trans (h.block k hk hne)⟩
theorem below_grown {w w' : World} (r : Option Nat) (h : Below w.heap.size w w') : w.grownBy w' r := ⟨h.os, h.tape, h.output, h.size, fun k hk _ => h.block k hk⟩
theorem setCells_row {t : TypeId} (g : Nat) : ∀ (vs : List Value) (o : Nat) (w : World) (C : Array Value), w.heap[g]? = some (.cells C t (0, 0)) → (∃ C', (w.setCells g o vs).heap[g]? = some (.cells C' t (0, 0)) ∧ C'.size = C.size ∧ ∀ k, k < o → C'[k]? = C[k]?) ∧ w.grownBy (w.setCells g o vs) (some g)
  | [], _, w, C, h => ⟨⟨C, h, rfl, fun _ _ => rfl⟩, World.grownBy.refl w _⟩
  | v :: r, o, w, C, h => by
    obtain ⟨⟨C', h1, h2, h3⟩, h4⟩ := setCells_row g r (o + 1) (w.setCell ⟨g, o, none⟩ v) _ (blk_set h o v)
    refine ⟨⟨C', h1, by simpa using h2, fun k hk => ?_⟩, ?_⟩
    · rw [h3 k (by omega), Array.getElem?_setIfInBounds_ne (by omega)]
    · have h0 : w.grownBy (w.setCell ⟨g, o, none⟩ v) (some g) := ⟨rfl, rfl, rfl, by rw [World.size_setCell]; exact Nat.le_refl _, fun k hk hne => Below.heap_setCell w ⟨g, o, none⟩ v k (fun e => hne (congrArg some e))⟩
      exact grown_trans h0 h4
theorem row_clear {w : World} {g L : Nat} {f : Nat → G3} (h : RowF w g L f) {i : Nat} (hi : i ≤ L) (c : Nat) (ty : TypeId) : ∃ w', (Builtin.clear_ #[34] ty #[.slice (some ⟨g, 3 * i, none⟩) (L - i) c]).run Try.prog w = .ok (.tuple #[]) w' ∧ RowF w' g i f ∧ w.grownBy w' (some g) := by
  have hf := h
  obtain ⟨C, h1, h2, h3⟩ := h
  by_cases e : L - i = 0
  · refine ⟨w, ?_, ⟨C, h1, by omega, fun k hk => h3 k (by omega)⟩, World.grownBy.refl w _⟩
    rw [e]
    simp [Builtin.clear_, run_underlying Try.underlying34]
  · obtain ⟨n, hn⟩ : ∃ n, L - i = n + 1 := ⟨L - i - 1, by omega⟩
    have hz := zeroG w
    have hlen : (Builtin.zeroCells (gv 0 0 0).cells (L - i)).toList.length = 3 * (L - i) := by simp [Builtin.zeroCells, Value.cells, Nat.mul_comm]
    have hst := run_storeCells_cells (P := Try.prog) g (3 * i) (Builtin.zeroCells (gv 0 0 0).cells (L - i)).toList 0 w
      (fun j hj => by rw [hlen] at hj; rw [cell_of_row w g _ _ _ (0, 0) h1, Array.getElem?_eq_getElem (by omega)]; rfl) (fun j hj => blk_frozen h1 _)
      (by
        intro v hv
        simp only [Builtin.zeroCells, Value.cells, Array.toList_map, List.mem_map] at hv
        obtain ⟨k, _, rfl⟩ := hv
        have : k % 3 < 3 := Nat.mod_lt _ (by omega)
        have h5 : k % 3 = 0 ∨ k % 3 = 1 ∨ k % 3 = 2 := by omega
        rcases h5 with h5 | h5 | h5 <;> simp [h5, Value.oneCell'])
    obtain ⟨⟨C', q1, q2, q3⟩, q4⟩ := setCells_row (t := 38) g (Builtin.zeroCells (gv 0 0 0).cells (L - i)).toList (3 * i) w C h1
    refine ⟨_, ?_, ⟨C', q1, by omega, fun k hk => ?_⟩, q4⟩
    · simp only [Nat.add_zero] at hst
      rw [hn] at hst ⊢
      simp [Builtin.clear_, run_underlying Try.underlying34, hz, hst]
    · rw [q3 _ (by omega), q3 _ (by omega), q3 _ (by omega)]
      exact h3 k (by omega)
end Go.Proofs.Ytikbgoppmailjaa.H
