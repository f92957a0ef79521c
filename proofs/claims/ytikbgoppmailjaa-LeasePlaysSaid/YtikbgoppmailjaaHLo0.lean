import Derived.Test.YtikbgoppmailjaaHLn1
/- LeaseOver: its words: the table's leases, those that are gone. -/
namespace Go.Proofs.Ytikbgoppmailjaa.H
open Go.RowKit Go.HK Go.Maps Go.Lib Go.WideShapes Go.ChangeShapes Go.Proofs.YtikbgoppmailjaaW.PrintWords Go.Proofs.YtikbgoppmailjaaW.PrintLast Go.Proofs.YtikbgoppmailjaaW.PrintMore
set_option linter.unusedVariables false
set_option linter.unusedSimpArgs false
/-- The n-th lease that LeaseOver makes. -/
abbrev gN (U : Nat → Int) (c : Nat) : G3 := ((c : Int) + 1, 100 + (c : Int), U c)
def fullL (U : Nat → Int) (n : Nat) : List G3 := (List.range n).map (gN U)
theorem fullL_succ (U : Nat → Int) (n : Nat) : fullL U (n + 1) = fullL U n ++ [gN U n] := by simp [fullL, List.range_succ]
theorem mem_fullL {U : Nat → Int} {n : Nat} {g : G3} : g ∈ fullL U n ↔ ∃ c, c < n ∧ g = gN U c := by
  unfold fullL
  rw [List.mem_map]
  exact ⟨fun ⟨c, h1, h2⟩ => ⟨c, List.mem_range.1 h1, h2.symm⟩, fun ⟨c, h1, h2⟩ => ⟨c, List.mem_range.2 h1, h2.symm⟩⟩
/-- Those that are not gone. -/
def leftL (U : Nat → Int) (n : Nat) (gone : Nat → Bool) : List G3 := (fullL U n).filter (fun g => !gone (g.1 - 1).toNat)
theorem gN_place {U : Nat → Int} {c : Nat} : ((gN U c).1 - 1).toNat = c := by
  show ((c : Int) + 1 - 1).toNat = c
  omega
theorem mem_leftL {U : Nat → Int} {n : Nat} {gone : Nat → Bool} {g : G3} : g ∈ leftL U n gone ↔ ∃ c, c < n ∧ gone c = false ∧ g = gN U c := by
  unfold leftL
  rw [List.mem_filter, mem_fullL]
  constructor
  · rintro ⟨⟨c, h1, rfl⟩, h2⟩
    rw [gN_place] at h2
    exact ⟨c, h1, by simpa using h2, rfl⟩
  · rintro ⟨c, h1, h2, rfl⟩
    exact ⟨⟨c, h1, rfl⟩, by rw [gN_place, h2]; rfl⟩
theorem leftL_congr {U : Nat → Int} {n : Nat} {a b : Nat → Bool} (h : ∀ c, c < n → a c = b c) : leftL U n a = leftL U n b := by
  refine List.filter_congr fun g hg => ?_
  obtain ⟨c, hc, rfl⟩ := mem_fullL.1 hg
  rw [gN_place, h c hc]
theorem leftL_none {U : Nat → Int} {n : Nat} {gone : Nat → Bool} (h : ∀ c, c < n → gone c = false) : leftL U n gone = fullL U n := by
  refine List.filter_eq_self.2 fun g hg => ?_
  obtain ⟨c, hc, rfl⟩ := mem_fullL.1 hg
  rw [gN_place, h c hc]
  rfl
theorem leftL_over {U : Nat → Int} {n : Nat} {gone : Nat → Bool} {t : Int} : (leftL U n gone).filter (fun x => !due t x) = leftL U n (fun c => gone c || decide (U c ≤ t)) := by
  unfold leftL
  rw [List.filter_filter]
  refine List.filter_congr fun g hg => ?_
  obtain ⟨c, hc, rfl⟩ := mem_fullL.1 hg
  rw [gN_place]
  show (!decide (U c ≤ t) && !gone c) = !(gone c || decide (U c ≤ t))
  cases gone c <;> cases decide (U c ≤ t) <;> rfl
theorem filter_both {α : Type} (p : α → Bool) : ∀ l : List α, (l.filter p).length + (l.filter (fun x => !p x)).length = l.length
  | [] => rfl
  | x :: l => by
    have := filter_both p l
    cases h : p x <;> simp [h] <;> omega
/-- What is gone after k of the row's leases. -/
def goneK (gone : Nat → Bool) (f : Nat → G3) : Nat → Nat → Bool
  | 0 => gone
  | k + 1 => fun c => if c = ((f k).1 - 1).toNat then true else goneK gone f k c
theorem goneK_true {gone : Nat → Bool} {f : Nat → G3} : ∀ {k c : Nat}, goneK gone f k c = true ↔ gone c = true ∨ ∃ j, j < k ∧ ((f j).1 - 1).toNat = c
  | 0, c => ⟨fun h => Or.inl h, fun h => h.elim id (fun ⟨j, h, _⟩ => by omega)⟩
  | k + 1, c => by
    have ih := goneK_true (gone := gone) (f := f) (k := k) (c := c)
    unfold goneK
    by_cases e : c = ((f k).1 - 1).toNat
    · rw [if_pos e]
      exact ⟨fun _ => Or.inr ⟨k, by omega, e.symm⟩, fun _ => rfl⟩
    · rw [if_neg e, ih]
      constructor
      · rintro (h | ⟨j, h1, h2⟩)
        · exact Or.inl h
        · exact Or.inr ⟨j, by omega, h2⟩
      · rintro (h | ⟨j, h1, h2⟩)
        · exact Or.inl h
        · refine Or.inr ⟨j, ?_, h2⟩
          by_cases c2 : j = k
          · subst c2; exact absurd h2.symm e
          · omega
/-- What Over tells of a table of such leases. -/
structure Told (U : Nat → Int) (LU : Nat) (gone : Nat → Bool) (t : Int) (N : Nat) (f : Nat → G3) : Prop where
  each : ∀ k, k < N → ∃ c, c < LU ∧ gone c = false ∧ U c ≤ t ∧ f k = gN U c
  apart : ∀ j k, j < k → k < N → (f j).1 ≠ (f k).1
  order : ∀ k, k + 1 < N → T3 (f k) (f (k + 1))
  all : ∀ c, c < LU → gone c = false → U c ≤ t → ∃ k, k < N ∧ f k = gN U c
theorem told_of {U : Nat → Int} {LU : Nat} {gone : Nat → Bool} {t : Int} {l' : List G3} {f : Nat → G3} (hp : l'.Perm ((leftL U LU gone).filter (due t))) (hs : l'.Pairwise T3) (hf : (List.range l'.length).map f = l') (hu : (fullL U LU).Pairwise (fun x y => x.1 < y.1)) : Told U LU gone t l'.length f := by
  have get : ∀ k, k < l'.length → f k ∈ l' := fun k hk => by
    rw [← hf]
    exact List.mem_map.2 ⟨k, List.mem_range.2 (by simpa using hk), rfl⟩
  have nd : (l'.map (·.1)).Nodup := by
    refine (hp.map (·.1)).nodup_iff.2 (List.pairwise_map.2 (((hu.sublist List.filter_sublist).sublist List.filter_sublist).imp (fun {a b} q => by omega)))
  have pw : ∀ {R : G3 → G3 → Prop}, l'.Pairwise R → ∀ j k, j < k → k < l'.length → R (f j) (f k) := by
    intro R h j k h1 h2
    rw [← hf] at h
    have := List.pairwise_iff_getElem.1 h j k (by simp; omega) (by simpa using h2) h1
    simpa using this
  refine ⟨fun k hk => ?_, fun j k h1 h2 => ?_, fun k hk => pw hs k (k + 1) (by omega) hk, fun c hc hg hd => ?_⟩
  · obtain ⟨h1, h2⟩ := List.mem_filter.1 (hp.mem_iff.1 (get k hk))
    obtain ⟨c, q1, q2, q3⟩ := mem_leftL.1 h1
    refine ⟨c, q1, q2, ?_, q3⟩
    rw [q3] at h2
    exact of_decide_eq_true h2
  · exact pw (List.pairwise_map.1 nd) j k h1 h2
  · have : gN U c ∈ l' := hp.mem_iff.2 (List.mem_filter.2 ⟨mem_leftL.2 ⟨c, hc, hg, rfl⟩, decide_eq_true hd⟩)
    rw [← hf] at this
    obtain ⟨k, h1, h2⟩ := List.mem_map.1 this
    exact ⟨k, List.mem_range.1 h1, h2⟩
theorem Told.fresh {U : Nat → Int} {LU N : Nat} {gone : Nat → Bool} {t : Int} {f : Nat → G3} (h : Told U LU gone t N f) {k c : Nat} (hk : k < N) (hc : f k = gN U c) (hg : gone c = false) : goneK gone f k c = false := by
  cases e : goneK gone f k c with
  | false => rfl
  | true =>
    exfalso
    rcases goneK_true.1 e with h1 | ⟨j, h1, h2⟩
    · rw [hg] at h1; cases h1
    · obtain ⟨c', _, _, _, q⟩ := h.each j (by omega)
      rw [q, gN_place] at h2
      subst h2
      exact h.apart j k h1 hk (by rw [q, hc])
theorem Told.last {U : Nat → Int} {LU N : Nat} {gone : Nat → Bool} {t : Int} {f : Nat → G3} (h : Told U LU gone t N f) {c : Nat} (hc : c < LU) : goneK gone f N c = (gone c || decide (U c ≤ t)) := by
  rw [Bool.eq_iff_iff, goneK_true, Bool.or_eq_true, decide_eq_true_iff]
  constructor
  · rintro (h1 | ⟨j, h1, h2⟩)
    · exact Or.inl h1
    · obtain ⟨c', q1, q2, q3, q4⟩ := h.each j h1
      rw [q4, gN_place] at h2
      subst h2
      exact Or.inr q3
  · rintro (h1 | h1)
    · exact Or.inl h1
    · cases hg : gone c with
      | true => exact Or.inl rfl
      | false =>
        obtain ⟨k, h2, h3⟩ := h.all c hc hg h1
        exact Or.inr ⟨k, h2, by rw [h3, gN_place]⟩
theorem fullL_up (U : Nat → Int) (n : Nat) : (fullL U n).Pairwise (fun x y => x.1 < y.1) := by
  unfold fullL
  refine List.pairwise_map.2 ?_
  refine List.pairwise_lt_range.imp ?_
  intro a b h
  show (a : Int) + 1 < (b : Int) + 1
  omega
/-- A row of truths: block g, N of them. -/
def GoneF (w : World) (g N : Nat) (f : Nat → Bool) : Prop := ∃ C : Array Value, w.heap[g]? = some (.cells C 4 (0, 0)) ∧ N ≤ C.size ∧ ∀ i, i < N → C[i]? = some (.bool (f i))
section
variable {w w' : World} {g N : Nat} {f : Nat → Bool}
theorem GoneF.lt (h : GoneF w g N f) : g < w.heap.size := by obtain ⟨C, e, _⟩ := h; exact blk_lt e
theorem GoneF.block (h : GoneF w g N f) (e : w'.heap[g]? = w.heap[g]?) : GoneF w' g N f := by
  obtain ⟨C, h1, h2⟩ := h
  exact ⟨C, e.trans h1, h2⟩
theorem GoneF.cell (h : GoneF w g N f) {i : Nat} (hi : i < N) : w.cell? ⟨g, i, none⟩ = some (.bool (f i)) := by
  obtain ⟨C, h1, h2, h3⟩ := h
  rw [cell_of_row w g i _ _ (0, 0) h1]
  exact h3 i hi
theorem GoneF.store (h : GoneF w g N f) {i : Nat} (hi : i < N) (b : Bool) : GoneF (w.setCell ⟨g, i, none⟩ (.bool b)) g N (fun k => if k = i then b else f k) := by
  obtain ⟨C, h1, h2, h3⟩ := h
  refine ⟨_, blk_set h1 _ _, by simpa using h2, fun k hk => ?_⟩
  by_cases e : k = i
  · subst e
    simp only [if_true]
    exact Array.getElem?_setIfInBounds_self_of_lt (by omega)
  · simp only [if_neg e]
    rw [Array.getElem?_setIfInBounds_ne (by omega)]
    exact h3 k hk
theorem gone_store (h : GoneF w g N f) {i : Nat} (hi : i < N) (b : Bool) : ∃ w', (Instr.storeAt 4 (.pointer (some ⟨g, i, none⟩)) (.bool b)).run Try.prog w = .ok () w' ∧ GoneF w' g N (fun k => if k = i then b else f k) ∧ w.grownBy w' (some g) := by
  have hs := h.store hi b
  obtain ⟨C, h1, h2, h3⟩ := h
  refine ⟨_, run_storeAt_mid (P := Try.prog) w g i _ #[.bool b] (fun j hj => ?_) (by kernel_rfl) (by simp [Value.oneCell']), hs, ?_⟩
  · have hj' : j < 1 := hj
    obtain rfl : j = 0 := by omega
    constructor
    · rw [Nat.add_zero, cell_of_row w g i _ _ (0, 0) h1, Array.getElem?_eq_getElem (by omega)]; rfl
    · exact blk_frozen h1 _
  · show w.grownBy (w.setCell ⟨g, i, none⟩ (.bool b)) (some g)
    exact ⟨rfl, rfl, rfl, by simp, fun k hk hne => by
      have e : k ≠ g := fun e => hne (by rw [e])
      exact Below.heap_setCell _ _ _ _ e⟩
theorem gone_index {cap i : Nat} (hi : i < N) : (Instr.indexAt 43 (.slice (some ⟨g, 0, none⟩) N cap) (.int .i64 i)).run Try.prog w = .ok (.pointer (some ⟨g, i, none⟩)) w := by
  have hs : (sizeOf 4).run Try.prog w = .ok 1 w := by kernel_rfl
  have hu := run_underlying Try.underlying43 w
  have hb : (0 : Int) ≤ (i : Int) ∧ (i : Int) < (N : Int) := by omega
  have ha : (⟨g, 0, none⟩ : Addr).add i = ⟨g, i, none⟩ := by rw [Addr.add_mid]; simp
  simp [Instr.indexAt, asIntOf, Sem.run_bind, hu, hs, Result.andThen, hb, hi, ha]
end
theorem RowF.cell0 {w : World} {g N i : Nat} {f : Nat → G3} (h : RowF w g N f) (hi : i < N) : w.cell? ⟨g, 3 * i, none⟩ = some (.int .i64 (f i).1) := by
  obtain ⟨C, h1, h2, h3⟩ := h
  rw [cell_of_row w g (3 * i) _ _ (0, 0) h1]
  exact (h3 i hi).1
theorem RowF.cell1 {w : World} {g N i : Nat} {f : Nat → G3} (h : RowF w g N f) (hi : i < N) : w.cell? ⟨g, 3 * i + 1, none⟩ = some (.int .i64 (f i).2.1) := by
  obtain ⟨C, h1, h2, h3⟩ := h
  rw [cell_of_row w g (3 * i + 1) _ _ (0, 0) h1]
  exact (h3 i hi).2.1
theorem RowF.cell2 {w : World} {g N i : Nat} {f : Nat → G3} (h : RowF w g N f) (hi : i < N) : w.cell? ⟨g, 3 * i + 2, none⟩ = some (.int .u64 (f i).2.2) := by
  obtain ⟨C, h1, h2, h3⟩ := h
  rw [cell_of_row w g (3 * i + 2) _ _ (0, 0) h1]
  exact (h3 i hi).2.2
theorem TabL.grown {w w' : World} {p g b1 b2 m : Nat} {n : Int} {l : List G3} (T : TabL w p n b1 b2 m l) (hg : w.grownBy w' (some g)) (h0 : p ≠ g) (h1 : b1 ≠ g) (h2 : b2 ≠ g) : TabL w' p n b1 b2 m l := by
  obtain ⟨D1, D2, T, h⟩ := T
  exact ⟨D1, D2, T.grown hg h0 h1 h2, h⟩
theorem exec_makeSlice {P : Program} {ρ : Operand → Value} {o : Oper} {t : TypeId} {x y : Operand} (ho : o.op = .makeSlice t x y) {w w' : World} {v : Value} (h : (Instr.makeSlice t (ρ x) (ρ y)).run P w = .ok v w') : (execOp ρ o).run P w = .ok (.value v) w' := by
  unfold execOp
  rw [ho]
  simp only [Sem.run_bind, h, Result.andThen]
  rfl
theorem make_gone (w : World) {n : Nat} (hn : n ≤ 1000) : ∃ w', (Instr.makeSlice 43 (.int .i64 n) (.int .i64 n)).run Try.prog w = .ok (.slice (some ⟨w.heap.size, 0, none⟩) n n) w' ∧ GoneF w' w.heap.size n (fun _ => false) ∧ Below w.heap.size w w' := by
  have hi : ∃ i : TypeInfo, Try.prog.info? 4 = some i ∧ i.zero = some (.bool false) ∧ i.size = 1 ∧ i.bytes = 1 := by
    have hs : (Try.prog.info? 4).isSome = true := by kernel_rfl
    exact ⟨(Try.prog.info? 4).get hs, (Option.some_get hs).symm, by kernel_rfl, by kernel_rfl, by kernel_rfl⟩
  obtain ⟨i, h1, h2, h3, h4⟩ := hi
  have h := run_makeSlice (P := Try.prog) w 43 4 i (.bool false) Try.underlying43 h1 h2 .i64 .i64 n n (by omega) (Int.le_refl _) (by rw [h3]; omega) (by rw [h4]; omega) (by omega)
  simp only [Int.toNat_natCast] at h
  refine ⟨_, h, ⟨_, heap_alloc_last w _, ?_, fun k hk => ?_⟩, (Below.refl w.heap.size w).alloc (Nat.le_refl _) _⟩
  · rw [size_madeCells, h3]; omega
  · rw [h3, Nat.mul_one]
    have e : madeCells (Value.cells (.bool false)) n = (List.replicate n (Value.bool false)).toArray := by
      have := toList_madeCells_one (.bool false) n
      rw [← this]
      rfl
    rw [e]
    simp [hk]
end Go.Proofs.Ytikbgoppmailjaa.H
