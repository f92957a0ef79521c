import Derived.Test.YtikbgoppmailjaaLpA
import Derived.Maps.AppendAt
/- The reference's table: Grant. -/
namespace Go.Proofs.Ytikbgoppmailjaa.H
open Go.RowKit Go.HK Go.Maps Go.Lib Go.WideShapes Go.ChangeShapes Go.Proofs.YtikbgoppmailjaaW.PrintWords Go.Proofs.YtikbgoppmailjaaW.PrintLast Go.Proofs.YtikbgoppmailjaaW.PrintMore
set_option linter.unusedVariables false
set_option linter.unusedSimpArgs false
abbrev GT : TypeId := 38
theorem lit0 (w : World) : ∃ w1 ge, (Instr.buildSlice 34 0 #[]).run Try.prog w = .ok (.slice (some ⟨ge, 0, none⟩) 0 0) w1 ∧ w1.heap[ge]? = some (.cells #[] 38 (0, 0)) ∧ w.heap.size ≤ ge ∧ w.grownBy w1 none :=
  ⟨w.alloc (.cells #[] 38), w.heap.size, by kernel_rfl, heap_alloc_last w _, Nat.le_refl _, World.grownBy_alloc w _ none⟩
theorem lit1 (w : World) (a b c : Int) : ∃ w1 gx, (Instr.buildSlice 34 1 #[(0, gv a b c)]).run Try.prog w = .ok (.slice (some ⟨gx, 0, none⟩) 1 1) w1 ∧ w1.heap[gx]? = some (.cells #[.int .i64 a, .int .i64 b, .int .u64 c] 38 (0, 0)) ∧ w.heap.size ≤ gx ∧ w.grownBy w1 none :=
  ⟨w.alloc (.cells #[.int .i64 a, .int .i64 b, .int .u64 c] 38), w.heap.size, by kernel_rfl, heap_alloc_last w _, Nat.le_refl _, World.grownBy_alloc w _ none⟩
theorem flat_cells {w : World} {g L : Nat} {f : Nat → G3} (hF : RowF w g L f) : ∀ j u, (flat ((List.range L).map f))[j]? = some u → w.cell? ((⟨g, 0, none⟩ : Addr).add j) = some u := by
  intro j u h
  rw [Addr.add_mid, Nat.zero_add]
  have key : ∀ n, n ≤ L → ∀ j u, (flat ((List.range n).map f))[j]? = some u → w.cell? ⟨g, j, none⟩ = some u := by
    intro n
    induction n with
    | zero => intro _ j u h; simp at h
    | succ n ih =>
      intro hn j u h
      have e : flat ((List.range (n + 1)).map f) = flat ((List.range n).map f) ++ c3 (f n) := by simp [flat, List.range_succ, List.flatMap_append]
      have el : (flat ((List.range n).map f)).length = 3 * n := by
        clear h e ih
        have : ∀ l : List G3, (flat l).length = 3 * l.length := by
          intro l
          induction l with
          | nil => rfl
          | cons x l ih2 => simp [flat] at ih2 ⊢; omega
        rw [this, List.length_map, List.length_range]
      rw [e] at h
      by_cases c : j < 3 * n
      · rw [List.getElem?_append_left (by rw [el]; exact c)] at h
        exact ih (by omega) j u h
      · rw [List.getElem?_append_right (by rw [el]; omega), el] at h
        obtain ⟨r, rfl⟩ : ∃ r, j = 3 * n + r := ⟨j - 3 * n, by omega⟩
        rw [Nat.add_sub_cancel_left] at h
        match r, h with
        | 0, h => rw [← h]; exact hF.cell0 (by omega)
        | 1, h => rw [← h]; exact hF.cell1 (by omega)
        | 2, h => rw [← h]; exact hF.cell2 (by omega)
        | r + 3, h => simp at h
  exact key L (Nat.le_refl _) j u h
theorem flat_each (l : List G3) : ∀ u ∈ flat l, u.oneCell' = true := by
  intro u hu
  obtain ⟨x, _, hx⟩ := List.mem_flatMap.1 hu
  simp at hx
  rcases hx with rfl | rfl | rfl <;> rfl
theorem flat_len (l : List G3) : (flat l).length = l.length * 3 := by
  induction l with
  | nil => rfl
  | cons x l ih => simp [flat] at ih ⊢; omega
/-- append([]api.Grant{}, v...): a row of its own. -/
theorem copyRow {w : World} {ge B base : Nat} {v : Value} {l : List G3} (he : w.heap[ge]? = some (.cells #[] 38 (0, 0))) (hb : base ≤ ge) (hR : RowG w B v l) (hl : l.length ≤ 1000) :
    ∃ r w3, (Builtin.append_ #[34, 34] 34 #[.slice (some ⟨ge, 0, none⟩) 0 0, v]).run Try.prog w = .ok r w3 ∧ RowG w3 base r l ∧ w.grownBy w3 (some ge) ∧ (r.ownBlock = some ge ∨ r.ownBlock = some w.heap.size) := by
  have own : w.ownsRow base 38 3 (.slice (some ⟨ge, 0, none⟩) 0 0) 0 [] := ⟨rfl, .inr ⟨ge, 0, #[], rfl, hb, he, Nat.le_refl _, Nat.zero_le _, rfl, rfl⟩⟩
  rcases hR.fn with ⟨rfl, rfl⟩ | ⟨g, cap, f, rfl, _, hcap, hF, hfl⟩
  · exact ⟨_, w, by kernel_rfl, own, ⟨rfl, rfl, rfl, Nat.le_refl _, fun _ _ _ => rfl⟩, Or.inl rfl⟩
  · obtain ⟨i0, hi0, hz0, hz1, hz2⟩ := infoG
    have hc := flat_cells hF
    rw [hfl] at hc
    obtain ⟨r, w3, h1, h2, h3, _, h5⟩ := run_append_own_at (P := Try.prog) w base 34 34 38 i0 (gv 0 0 0) 3 24 Try.underlying34 hi0 hz0 hz1 hz2 rfl (by decide) (.slice (some ⟨ge, 0, none⟩) 0 0) 0 [] own ⟨g, 0, none⟩ l.length cap (flat l) (flat_len l) hc (flat_each l) (by unfold maxLen; omega) (by omega) (Nat.le_trans hb (Nat.le_of_lt (blk_lt he)))
    refine ⟨r, w3, h1, ?_, h3, h5⟩
    unfold RowG
    simpa using h2
/-- append(r, x): one more. -/
theorem moreRow {w : World} {gx base : Nat} {r : Value} {l : List G3} {a b c : Int} (hx : w.heap[gx]? = some (.cells #[.int .i64 a, .int .i64 b, .int .u64 c] 38 (0, 0))) (hR : RowG w base r l) (hb : base ≤ w.heap.size) (hl : l.length ≤ 1000) :
    ∃ v' w3, (Builtin.append_ #[34, 34] 34 #[r, .slice (some ⟨gx, 0, none⟩) 1 1]).run Try.prog w = .ok v' w3 ∧ RowG w3 base v' (l ++ [(a, b, c)]) ∧ w.grownBy w3 r.ownBlock := by
  obtain ⟨i0, hi0, hz0, hz1, hz2⟩ := infoG
  obtain ⟨v', w3, h1, h2, h3, _, _⟩ := run_append_own_at (P := Try.prog) w base 34 34 38 i0 (gv 0 0 0) 3 24 Try.underlying34 hi0 hz0 hz1 hz2 rfl (by decide) r l.length (flat l) hR ⟨gx, 0, none⟩ 1 1 [.int .i64 a, .int .i64 b, .int .u64 c] rfl (fun j u hj => by
    rw [Addr.add_mid, blk_cell hx]
    simpa using hj) (fun x hx => by simp at hx; rcases hx with rfl | rfl | rfl <;> rfl) (by unfold maxLen; omega) (by omega) hb
  exact ⟨v', w3, h1, RowG.snoc h2, h3⟩
theorem exec_append {P : Program} {ρ : Operand → Value} {o : Oper} {t : TypeId} {s x : Operand} (ho : o.op = Op.call { callee := Callee.builtin Builtin.append, args := #[s, x], argTypes := #[t, t] }) {w w' : World} {v : Value} (h : (Builtin.append_ #[t, t] o.type #[ρ s, ρ x]).run P w = .ok v w') : (execOp ρ o).run P w = .ok (.value v) w' := by
  unfold execOp
  simp [ho, resolve, invoke, builtin, h, Result.andThen]
theorem exec_buildSlice {P : Program} {ρ : Operand → Value} {o : Oper} {t : TypeId} {n : Nat} {parts : Array (Nat × Operand)} {ps : Array (Nat × Value)} (ho : o.op = .buildSlice t n parts) (hp : (parts.map fun (i, x) => (i, ρ x)) = ps) {w w' : World} {v : Value} (h : (Instr.buildSlice t n ps).run P w = .ok v w') : (execOp ρ o).run P w = .ok (.value v) w' := by
  subst hp
  unfold execOp
  rw [ho]
  simp only [Sem.run_bind, h, Result.andThen]
  rfl
theorem exec_field {P : Program} {ρ : Operand → Value} {o : Oper} {t : TypeId} {x : Operand} {k : Nat} (ho : o.op = .field t x k) {w : World} {v : Value} (h : (Instr.field t (ρ x) k).run P w = .ok v w) : (execOp ρ o).run P w = .ok (.value v) w := by
  unfold execOp
  rw [ho]
  simp only [Sem.run_bind, h, Result.andThen]
  rfl
theorem found_ok {w : World} {x : G3} {ok : Bool} : (Instr.field 53 (fv x ok) 1).run Try.prog w = .ok (.bool ok) w := by kernel_rfl
theorem ref_storeN {w : World} {q : Nat} {v : Value} {n k : Int} (h : w.heap[q]? = some (.cells #[v, .int .i64 n] 51 (0, 0))) : ∃ w', (Instr.storeAt 3 (.pointer (some ⟨q, 1, none⟩)) (.int .i64 k)).run Try.prog w = .ok () w' ∧ w'.heap[q]? = some (.cells #[v, .int .i64 k] 51 (0, 0)) ∧ w.grownBy w' (some q) := by
  refine ⟨_, run_storeAt_mid (P := Try.prog) w q 1 _ #[.int .i64 k] (fun j hj => ?_) (by kernel_rfl) (by simp [Value.oneCell']), ?_, ?_⟩
  · have hj' : j < 1 := hj
    obtain rfl : j = 0 := by omega
    constructor
    · rw [cell_of_row w q (1 + 0) _ _ (0, 0) h]; rfl
    · exact blk_frozen h _
  · show (w.setCell ⟨q, 1, none⟩ (.int .i64 k)).heap[q]? = _
    exact blk_set h _ _
  · show w.grownBy (w.setCell ⟨q, 1, none⟩ (.int .i64 k)) (some q)
    exact ⟨rfl, rfl, rfl, by simp, fun k hk hne => Below.heap_setCell _ _ _ _ (fun e => hne (by rw [e]))⟩
theorem rgrant_body4 {c0 c1 c2 c3 body : Code}  {c0' c1' c2' c3' body' : Code}  (h : Try.f18.body = some (.seq c0 (.seq c1 (.seq c2 (.seq body c3))))) (h' : Try.f18.body = some (.seq c0' (.seq c1' (.seq c2' (.seq body' c3'))))) : body' = body := by
  rw [h] at h'
  simp only [Option.some.injEq, Code.seq.injEq, Code.cond.injEq, Code.block.injEq, Code.loop.injEq] at h'
  simp only [h']
set_option maxRecDepth 100000 in
set_option maxHeartbeats 8000000 in
theorem rgrant_four {w : World} {q B : Nat} {l : List G3} {n j u : Int} {v : Value} {Q : Exit → Act → World → Prop} {c0 c1 c2 c3 body : Code}  {x3 x4 x5 x6 x7 x8 x9 x10 x11 x12 x13 x14 x15 x16 x17 x18 x19 x20 x21 x22 x23 x24 x25 x26 x27 x28 x29 x30 x31 x32 x33 x34 x35 x36 x37 x38 x39 x40 : Value}
    (hB : Try.f18.body = some (.seq c0 (.seq c1 (.seq c2 (.seq body c3))))) (hPQ : Aside0 (∀ c a d v w, Q (.panic c) (a.put d v) w → Q (.panic c) a w)) (T : RefT w q B l (n + 1) v) (hl : l.length ≤ 1000)
    (cont : ∀ (w' : World) (v' : Value) (y19 y20 y21 y22 y23 y24 y25 y26 y27 y28 y29 y30 y31 y32 y33 y34 y35 y36 : Value), RefT w' q w.heap.size (l ++ [(n + 1, j, u)]) (n + 1) v' → (∀ B', B' ≤ q → Below B' w w') → (∀ k, k < w.heap.size → k ≠ q → w'.heap[k]? = w.heap[k]?) → w.heap.size ≤ w'.heap.size → Q .normal ⟨#[.pointer (some ⟨q, 0, none⟩), .int .i64 j, .int .u64 u, x3, x4, x5, x6, x7, x8, x9, x10, x11, x12, x13, x14, x15, x16, x17, x18, y19, y20, y21, y22, y23, y24, y25, y26, y27, y28, y29, y30, y31, y32, y33, y34, y35, y36, x37, x38, x39, x40], []⟩ w') : Code.wp Try.prog body Q ⟨#[.pointer (some ⟨q, 0, none⟩), .int .i64 j, .int .u64 u, x3, x4, x5, x6, x7, x8, x9, x10, x11, x12, x13, x14, x15, x16, x17, x18, x19, x20, x21, x22, x23, x24, x25, x26, x27, x28, x29, x30, x31, x32, x33, x34, x35, x36, x37, x38, x39, x40], []⟩ w := by
  have hbody := rgrant_body4 rfl hB
  clear hB
  subst hbody
  have hcont := Aside0.mk cont
  clear cont
  have H0 := Aside0.mk T.head
  have R0 := Aside0.mk T.row
  have HQ := Aside0.mk (blk_lt T.head)
  have C0 := Aside0.mk (blk_cell T.head 0)
  have C1 := Aside0.mk (blk_cell T.head 1)
  have B_ := Aside0.mk ((Below.refl w.heap.size w).drew)
  clear T
  refine start_ (n := 19) (S := fun w' => w'.cell? ⟨q, 0, none⟩ = some v ∧ w'.cell? ⟨q, 1, none⟩ = some (.int .i64 (n + 1))) (ds := [18]) #[false, false, false, false, false, false, false, false, false, false, false, false, false, false, false, false, false, false, false] (by kernel_rfl) rfl rfl ⟨C0.out, C1.out⟩ (fun hHeld => ?_)
  refine pure_ (i := 0) (N := some 19) (v := ?_) (a' := ?_) #[true, false, false, false, false, false, false, false, false, false, false, false, false, false, false, false, false, false, false] rfl rfl (by kernel_rfl) (fun _ _ _ h => hPQ.out _ _ _ _ _ h) (Or.inl ⟨by rfl, ?_⟩) ?_ ?_
  rotate_left
  · intro w'
    go_simp
    with_reducible rfl
  rotate_left
  · simp only [Act.put, List.setIfInBounds_toArray, List.set_cons_zero, List.set_cons_succ, i64_w, i32_w]
    rfl
  refine pure_ (i := 2) (N := some 21) (v := ?_) (a' := ?_) #[true, false, true, false, false, false, false, false, false, false, false, false, false, false, false, false, false, false, false] rfl rfl (by kernel_rfl) (fun _ _ _ h => hPQ.out _ _ _ _ _ h) (Or.inl ⟨by rfl, ?_⟩) ?_ ?_
  rotate_left
  · intro w'
    go_simp
    with_reducible rfl
  rotate_left
  · simp only [Act.put, List.setIfInBounds_toArray, List.set_cons_zero, List.set_cons_succ, i64_w, i32_w]
    rfl
  refine pure_ (i := 3) (N := some 22) (v := ?_) (a' := ?_) #[true, false, true, true, false, false, false, false, false, false, false, false, false, false, false, false, false, false, false] rfl rfl (by kernel_rfl) (fun _ _ _ h => hPQ.out _ _ _ _ _ h) (Or.inl ⟨by rfl, ?_⟩) ?_ ?_
  rotate_left
  · intro w'
    go_simp
    with_reducible rfl
  rotate_left
  · simp only [Act.put, List.setIfInBounds_toArray, List.set_cons_zero, List.set_cons_succ, i64_w, i32_w]
    rfl
  refine pure_ (i := 4) (N := some 23) (v := ?_) (a' := ?_) #[true, false, true, true, true, false, false, false, false, false, false, false, false, false, false, false, false, false, false] rfl rfl (by kernel_rfl) (fun _ _ _ h => hPQ.out _ _ _ _ _ h) (Or.inl ⟨by rfl, ?_⟩) ?_ ?_
  rotate_left
  · intro w'
    go_simp
    with_reducible rfl
  rotate_left
  · simp only [Act.put, List.setIfInBounds_toArray, List.set_cons_zero, List.set_cons_succ, i64_w, i32_w]
    rfl
  refine pure_ (i := 7) (N := some 26) (v := ?_) (a' := ?_) #[true, false, true, true, true, false, false, true, false, false, false, false, false, false, false, false, false, false, false] rfl rfl (by kernel_rfl) (fun _ _ _ h => hPQ.out _ _ _ _ _ h) (Or.inl ⟨by rfl, ?_⟩) ?_ ?_
  rotate_left
  · intro w'
    go_simp
    with_reducible rfl
  rotate_left
  · simp only [Act.put, List.setIfInBounds_toArray, List.set_cons_zero, List.set_cons_succ, i64_w, i32_w]
    rfl
  refine pure_ (i := 8) (N := some 27) (v := ?_) (a' := ?_) #[true, false, true, true, true, false, false, true, true, false, false, false, false, false, false, false, false, false, false] rfl rfl (by kernel_rfl) (fun _ _ _ h => hPQ.out _ _ _ _ _ h) (Or.inl ⟨by rfl, ?_⟩) ?_ ?_
  rotate_left
  · intro w'
    go_simp
    with_reducible rfl
  rotate_left
  · simp only [Act.put, List.setIfInBounds_toArray, List.set_cons_zero, List.set_cons_succ, i64_w, i32_w]
    rfl
  refine pure_ (i := 9) (N := some 28) (v := ?_) (a' := ?_) #[true, false, true, true, true, false, false, true, true, true, false, false, false, false, false, false, false, false, false] rfl rfl (by kernel_rfl) (fun _ _ _ h => hPQ.out _ _ _ _ _ h) (Or.inl ⟨by rfl, ?_⟩) ?_ ?_
  rotate_left
  · intro w'
    go_simp
    with_reducible rfl
  rotate_left
  · simp only [Act.put, List.setIfInBounds_toArray, List.set_cons_zero, List.set_cons_succ, i64_w, i32_w]
    rfl
  refine pure_ (i := 11) (N := some 30) (v := ?_) (a' := ?_) #[true, false, true, true, true, false, false, true, true, true, false, true, false, false, false, false, false, false, false] rfl rfl (by kernel_rfl) (fun _ _ _ h => hPQ.out _ _ _ _ _ h) (Or.inl ⟨by rfl, ?_⟩) ?_ ?_
  rotate_left
  · intro w'
    go_simp
    with_reducible rfl
  rotate_left
  · simp only [Act.put, List.setIfInBounds_toArray, List.set_cons_zero, List.set_cons_succ, i64_w, i32_w]
    rfl
  refine pure_ (i := 12) (N := some 31) (v := ?_) (a' := ?_) #[true, false, true, true, true, false, false, true, true, true, false, true, true, false, false, false, false, false, false] rfl rfl (by kernel_rfl) (fun _ _ _ h => hPQ.out _ _ _ _ _ h) (Or.inl ⟨by rfl, ?_⟩) ?_ ?_
  rotate_left
  · intro w'
    go_simp
    with_reducible rfl
  rotate_left
  · simp only [Act.put, List.setIfInBounds_toArray, List.set_cons_zero, List.set_cons_succ, i64_w, i32_w]
    rfl
  refine take_ (i := 5) (N := some 24) (v := ?_) (a' := ?_) #[true, false, true, true, true, true, false, true, true, true, false, true, true, false, false, false, false, false, false] rfl rfl (by kernel_rfl) (fun _ _ _ h => hPQ.out _ _ _ _ _ h) (Or.inl ⟨by rfl, ?_⟩) hHeld ?_ ?_
  rotate_left
  · rintro w' ⟨s0, s1⟩
    go_simp
    with_reducible rfl
  rotate_left
  · simp only [Act.put, List.setIfInBounds_toArray, List.set_cons_zero, List.set_cons_succ, i64_w, i32_w]
    rfl
  refine take_ (i := 10) (N := some 29) (v := ?_) (a' := ?_) #[true, false, true, true, true, true, false, true, true, true, true, true, true, false, false, false, false, false, false] rfl rfl (by kernel_rfl) (fun _ _ _ h => hPQ.out _ _ _ _ _ h) (Or.inl ⟨by rfl, ?_⟩) hHeld ?_ ?_
  rotate_left
  · rintro w' ⟨s0, s1⟩
    go_simp
    with_reducible rfl
  rotate_left
  · simp only [Act.put, List.setIfInBounds_toArray, List.set_cons_zero, List.set_cons_succ, i64_w, i32_w]
    rfl
  refine pure_ (i := 13) (N := some 32) (v := ?_) (a' := ?_) #[true, false, true, true, true, true, false, true, true, true, true, true, true, true, false, false, false, false, false] rfl rfl (by kernel_rfl) (fun _ _ _ h => hPQ.out _ _ _ _ _ h) (Or.inl ⟨by rfl, ?_⟩) ?_ ?_
  rotate_left
  · intro w'
    go_simp
    with_reducible rfl
  rotate_left
  · simp only [Act.put, List.setIfInBounds_toArray, List.set_cons_zero, List.set_cons_succ, i64_w, i32_w]
    rfl
  refine join_ (σ := Value × Value × Value) 4 #[true, true, true, true, true, true, true, true, true, true, true, true, true, true, true, false, false, false, false] (fun s => [(20, s.1), (25, s.2.1), (33, s.2.2)]) (fun s w' => ∃ gx, s.2.2 = .slice (some ⟨gx, 0, none⟩) 1 1 ∧ w'.heap[gx]? = some (.cells #[.int .i64 (n + 1), .int .i64 j, .int .u64 u] 38 (0, 0)) ∧ w.heap.size ≤ gx ∧ RowG w' w.heap.size s.2.1 l ∧ s.2.1.ownBlock ≠ some gx ∧ Below w.heap.size w w') ?_ ?_
  rotate_left
  · intro hCont
    refine two_ (i := 1) (j := 14) (Ni := some 20) (Nj := some 33) #[true, true, true, true, true, true, false, true, true, true, true, true, true, true, false, false, false, false, false] #[true, false, true, true, true, true, false, true, true, true, true, true, true, true, true, false, false, false, false] rfl rfl rfl rfl (by kernel_rfl) (by decide) (by decide) (fun K hK => ?_) (fun K hK => ?_)
    · skip
      obtain ⟨w_1, ge, hrun, e1, e2, e3⟩ := lit0 w.drew
      have B_1 := Aside0.mk (B_.out.grown e3 B_.out.size (fun k e => by cases e))
      have he := Nat.le_trans B_.out.size e2
      have E := Aside0.mk e1
      refine value_ (w1 := w_1) (v := .slice (some ⟨ge, 0, none⟩) 0 0) (by rfl) rfl (exec_buildSlice rfl (by first | (simp only [List.map_toArray, List.map_cons, List.map_nil]; done) | (simp only [List.map_toArray, List.map_cons, List.map_nil]; rfl)) hrun) ?_
      clear hrun e1 e2 e3
      refine hK.out _ _ ⟨(B_1.out.cell HQ.out).trans C0.out, (B_1.out.cell HQ.out).trans C1.out⟩ (fun hHeld => ?_)
      clear hK K
      refine norm_ (a' := ?_) ?_ ?_
      rotate_left
      · show Act.put _ (some 20) _ = _
        simp only [Act.put, List.setIfInBounds_toArray, List.set_cons_zero, List.set_cons_succ, i64_w, i32_w]
        rfl
      refine two_ (i := 6) (j := 14) (Ni := some 25) (Nj := some 33) #[true, true, true, true, true, true, true, true, true, true, true, true, true, true, false, false, false, false, false] #[true, true, true, true, true, true, false, true, true, true, true, true, true, true, true, false, false, false, false] rfl rfl rfl rfl (by kernel_rfl) (by decide) (by decide) (fun K hK => ?_) (fun K hK => ?_)
      · skip
        obtain ⟨r, w_1_6, hrun, hR, hG, hO⟩ := copyRow (base := w.heap.size) E.out he (RowG.move R0.out (fun k hk => B_1.out.block k (RowG.lt R0.out k hk))) hl
        have B_1_6 := Aside0.mk (B_1.out.grown hG B_1.out.size (fun k e => by cases e; exact he))
        have R := Aside0.mk hR
        refine value_ (w1 := w_1_6) (v := r) (by rfl) rfl (exec_append rfl hrun) ?_
        clear hrun hR hG hO
        refine hK.out _ _ ⟨(B_1_6.out.cell HQ.out).trans C0.out, (B_1_6.out.cell HQ.out).trans C1.out⟩ (fun hHeld => ?_)
        clear hK K
        refine norm_ (a' := ?_) ?_ ?_
        rotate_left
        · show Act.put _ (some 25) _ = _
          simp only [Act.put, List.setIfInBounds_toArray, List.set_cons_zero, List.set_cons_succ, i64_w, i32_w]
          rfl
        refine one_ (i := 14) (N := some 33) #[true, true, true, true, true, true, true, true, true, true, true, true, true, true, true, false, false, false, false] rfl rfl (by kernel_rfl) (by decide) (fun K hK => ?_)
        obtain ⟨w_1_6_14, gx, hrun, e1, e2, e3⟩ := lit1 w_1_6 (n + 1) j u
        have B_1_6_14 := Aside0.mk (B_1_6.out.grown e3 B_1_6.out.size (fun k e => by cases e))
        have hx := Nat.le_trans B_1_6.out.size e2
        have RN : Aside0 (r.ownBlock ≠ some gx) := ⟨fun h => by have := RowG.lt R.out gx h; omega⟩
        have R := Aside0.mk (RowG.move R.out (fun k hk => e3.block k (RowG.lt R.out k hk) (fun e => by cases e)))
        have X := Aside0.mk e1
        refine value_ (w1 := w_1_6_14) (v := .slice (some ⟨gx, 0, none⟩) 1 1) (by rfl) rfl (exec_buildSlice rfl (by first | (simp only [List.map_toArray, List.map_cons, List.map_nil]; done) | (simp only [List.map_toArray, List.map_cons, List.map_nil]; rfl)) hrun) ?_
        clear hrun e1 e2 e3
        refine hK.out _ _ ⟨(B_1_6_14.out.cell HQ.out).trans C0.out, (B_1_6_14.out.cell HQ.out).trans C1.out⟩ (fun hHeld => ?_)
        clear hK K
        refine norm_ (a' := ?_) ?_ ?_
        rotate_left
        · show Act.put _ (some 33) _ = _
          simp only [Act.put, List.setIfInBounds_toArray, List.set_cons_zero, List.set_cons_succ, i64_w, i32_w]
          rfl
        exact norm_ (by simp only [putAll, Act.put, List.setIfInBounds_toArray, List.set_cons_zero, List.set_cons_succ]) (hCont (.slice (some ⟨ge, 0, none⟩) 0 0, r, .slice (some ⟨gx, 0, none⟩) 1 1) _ ⟨gx, rfl, X.out, hx, R.out, RN.out, B_1_6_14.out⟩)
      · skip
        obtain ⟨w_1_14, gx, hrun, e1, e2, e3⟩ := lit1 w_1 (n + 1) j u
        have B_1_14 := Aside0.mk (B_1.out.grown e3 B_1.out.size (fun k e => by cases e))
        have hx := Nat.le_trans B_1.out.size e2
        have hne : ge ≠ gx := by have := blk_lt E.out; omega
        have E := Aside0.mk ((e3.block ge (blk_lt E.out) (fun e => by cases e)).trans E.out)
        have X := Aside0.mk e1
        refine value_ (w1 := w_1_14) (v := .slice (some ⟨gx, 0, none⟩) 1 1) (by rfl) rfl (exec_buildSlice rfl (by first | (simp only [List.map_toArray, List.map_cons, List.map_nil]; done) | (simp only [List.map_toArray, List.map_cons, List.map_nil]; rfl)) hrun) ?_
        clear hrun e1 e2 e3
        refine hK.out _ _ ⟨(B_1_14.out.cell HQ.out).trans C0.out, (B_1_14.out.cell HQ.out).trans C1.out⟩ (fun hHeld => ?_)
        clear hK K
        refine norm_ (a' := ?_) ?_ ?_
        rotate_left
        · show Act.put _ (some 33) _ = _
          simp only [Act.put, List.setIfInBounds_toArray, List.set_cons_zero, List.set_cons_succ, i64_w, i32_w]
          rfl
        refine one_ (i := 6) (N := some 25) #[true, true, true, true, true, true, true, true, true, true, true, true, true, true, true, false, false, false, false] rfl rfl (by kernel_rfl) (by decide) (fun K hK => ?_)
        obtain ⟨r, w_1_14_6, hrun, hR, hG, hO⟩ := copyRow (base := w.heap.size) E.out he (RowG.move R0.out (fun k hk => B_1_14.out.block k (RowG.lt R0.out k hk))) hl
        have B_1_14_6 := Aside0.mk (B_1_14.out.grown hG B_1_14.out.size (fun k e => by cases e; exact he))
        have RN : Aside0 (r.ownBlock ≠ some gx) := ⟨fun h => by have hlt := blk_lt X.out; rcases hO with h2 | h2 <;> (rw [h2] at h; injection h with h; omega)⟩
        have X := Aside0.mk ((hG.block gx (blk_lt X.out) (fun e => by injection e with e; omega)).trans X.out)
        have R := Aside0.mk hR
        refine value_ (w1 := w_1_14_6) (v := r) (by rfl) rfl (exec_append rfl hrun) ?_
        clear hrun hR hG hO
        refine hK.out _ _ ⟨(B_1_14_6.out.cell HQ.out).trans C0.out, (B_1_14_6.out.cell HQ.out).trans C1.out⟩ (fun hHeld => ?_)
        clear hK K
        refine norm_ (a' := ?_) ?_ ?_
        rotate_left
        · show Act.put _ (some 25) _ = _
          simp only [Act.put, List.setIfInBounds_toArray, List.set_cons_zero, List.set_cons_succ, i64_w, i32_w]
          rfl
        exact norm_ (by simp only [putAll, Act.put, List.setIfInBounds_toArray, List.set_cons_zero, List.set_cons_succ]) (hCont (.slice (some ⟨ge, 0, none⟩) 0 0, r, .slice (some ⟨gx, 0, none⟩) 1 1) _ ⟨gx, rfl, X.out, hx, R.out, RN.out, B_1_14_6.out⟩)
    · skip
      obtain ⟨w_14, gx, hrun, e1, e2, e3⟩ := lit1 w.drew (n + 1) j u
      have B_14 := Aside0.mk (B_.out.grown e3 B_.out.size (fun k e => by cases e))
      have hx := Nat.le_trans B_.out.size e2
      have X := Aside0.mk e1
      refine value_ (w1 := w_14) (v := .slice (some ⟨gx, 0, none⟩) 1 1) (by rfl) rfl (exec_buildSlice rfl (by first | (simp only [List.map_toArray, List.map_cons, List.map_nil]; done) | (simp only [List.map_toArray, List.map_cons, List.map_nil]; rfl)) hrun) ?_
      clear hrun e1 e2 e3
      refine hK.out _ _ ⟨(B_14.out.cell HQ.out).trans C0.out, (B_14.out.cell HQ.out).trans C1.out⟩ (fun hHeld => ?_)
      clear hK K
      refine norm_ (a' := ?_) ?_ ?_
      rotate_left
      · show Act.put _ (some 33) _ = _
        simp only [Act.put, List.setIfInBounds_toArray, List.set_cons_zero, List.set_cons_succ, i64_w, i32_w]
        rfl
      refine one_ (i := 1) (N := some 20) #[true, true, true, true, true, true, false, true, true, true, true, true, true, true, true, false, false, false, false] rfl rfl (by kernel_rfl) (by decide) (fun K hK => ?_)
      obtain ⟨w_14_1, ge, hrun, e1, e2, e3⟩ := lit0 w_14
      have B_14_1 := Aside0.mk (B_14.out.grown e3 B_14.out.size (fun k e => by cases e))
      have he := Nat.le_trans B_14.out.size e2
      have hne : ge ≠ gx := by have := blk_lt X.out; omega
      have X := Aside0.mk ((e3.block gx (blk_lt X.out) (fun e => by cases e)).trans X.out)
      have E := Aside0.mk e1
      refine value_ (w1 := w_14_1) (v := .slice (some ⟨ge, 0, none⟩) 0 0) (by rfl) rfl (exec_buildSlice rfl (by first | (simp only [List.map_toArray, List.map_cons, List.map_nil]; done) | (simp only [List.map_toArray, List.map_cons, List.map_nil]; rfl)) hrun) ?_
      clear hrun e1 e2 e3
      refine hK.out _ _ ⟨(B_14_1.out.cell HQ.out).trans C0.out, (B_14_1.out.cell HQ.out).trans C1.out⟩ (fun hHeld => ?_)
      clear hK K
      refine norm_ (a' := ?_) ?_ ?_
      rotate_left
      · show Act.put _ (some 20) _ = _
        simp only [Act.put, List.setIfInBounds_toArray, List.set_cons_zero, List.set_cons_succ, i64_w, i32_w]
        rfl
      refine one_ (i := 6) (N := some 25) #[true, true, true, true, true, true, true, true, true, true, true, true, true, true, true, false, false, false, false] rfl rfl (by kernel_rfl) (by decide) (fun K hK => ?_)
      obtain ⟨r, w_14_1_6, hrun, hR, hG, hO⟩ := copyRow (base := w.heap.size) E.out he (RowG.move R0.out (fun k hk => B_14_1.out.block k (RowG.lt R0.out k hk))) hl
      have B_14_1_6 := Aside0.mk (B_14_1.out.grown hG B_14_1.out.size (fun k e => by cases e; exact he))
      have RN : Aside0 (r.ownBlock ≠ some gx) := ⟨fun h => by have hlt := blk_lt X.out; rcases hO with h2 | h2 <;> (rw [h2] at h; injection h with h; omega)⟩
      have X := Aside0.mk ((hG.block gx (blk_lt X.out) (fun e => by injection e with e; omega)).trans X.out)
      have R := Aside0.mk hR
      refine value_ (w1 := w_14_1_6) (v := r) (by rfl) rfl (exec_append rfl hrun) ?_
      clear hrun hR hG hO
      refine hK.out _ _ ⟨(B_14_1_6.out.cell HQ.out).trans C0.out, (B_14_1_6.out.cell HQ.out).trans C1.out⟩ (fun hHeld => ?_)
      clear hK K
      refine norm_ (a' := ?_) ?_ ?_
      rotate_left
      · show Act.put _ (some 25) _ = _
        simp only [Act.put, List.setIfInBounds_toArray, List.set_cons_zero, List.set_cons_succ, i64_w, i32_w]
        rfl
      exact norm_ (by simp only [putAll, Act.put, List.setIfInBounds_toArray, List.set_cons_zero, List.set_cons_succ]) (hCont (.slice (some ⟨ge, 0, none⟩) 0 0, r, .slice (some ⟨gx, 0, none⟩) 1 1) _ ⟨gx, rfl, X.out, hx, R.out, RN.out, B_14_1_6.out⟩)
  rintro ⟨e0, r, x1⟩ w5 ⟨gx, hx1, hX, hgx, hR, hRN, hB5⟩
  obtain rfl : x1 = .slice (some ⟨gx, 0, none⟩) 1 1 := hx1
  have X := Aside0.mk hX
  have R := Aside0.mk hR
  have B5 := Aside0.mk hB5
  clear hX hR hB5
  have hHeld : w5.cell? ⟨q, 0, none⟩ = some v ∧ w5.cell? ⟨q, 1, none⟩ = some (.int .i64 (n + 1)) := ⟨(B5.out.cell HQ.out).trans C0.out, (B5.out.cell HQ.out).trans C1.out⟩
  refine norm_ (a' := ?_) ?_ ?_
  rotate_left
  · simp only [putAll, Act.put, List.setIfInBounds_toArray, List.set_cons_zero, List.set_cons_succ]
    rfl
  refine one_ (i := 15) (N := some 34) #[true, true, true, true, true, true, true, true, true, true, true, true, true, true, true, true, false, false, false] rfl rfl (by kernel_rfl) (by decide) (fun K hK => ?_)
  obtain ⟨v1, w6, hrun, hR6, hG6⟩ := moreRow X.out R.out B5.out.size hl
  have B6 := Aside0.mk (B5.out.grown hG6 B5.out.size (own_base R.out))
  have R6 := Aside0.mk hR6
  refine value_ (w1 := w6) (v := v1) (by rfl) rfl (exec_append rfl hrun) ?_
  clear hrun hR6 hG6
  refine hK.out _ _ ⟨(B6.out.cell HQ.out).trans C0.out, (B6.out.cell HQ.out).trans C1.out⟩ (fun hHeld => ?_)
  clear hK K
  refine norm_ (a' := ?_) ?_ ?_
  rotate_left
  · show Act.put _ (some 34) _ = _
    simp only [Act.put, List.setIfInBounds_toArray, List.set_cons_zero, List.set_cons_succ, i64_w, i32_w]
    rfl
  refine pure_ (i := 16) (N := some 35) (v := ?_) (a' := ?_) #[true, true, true, true, true, true, true, true, true, true, true, true, true, true, true, true, true, false, false] rfl rfl (by kernel_rfl) (fun _ _ _ h => hPQ.out _ _ _ _ _ h) (Or.inl ⟨by rfl, ?_⟩) ?_ ?_
  rotate_left
  · intro w'
    go_simp
    with_reducible rfl
  rotate_left
  · simp only [Act.put, List.setIfInBounds_toArray, List.set_cons_zero, List.set_cons_succ, i64_w, i32_w]
    rfl
  refine pure_ (i := 17) (N := some 36) (v := ?_) (a' := ?_) #[true, true, true, true, true, true, true, true, true, true, true, true, true, true, true, true, true, true, false] rfl rfl (by kernel_rfl) (fun _ _ _ h => hPQ.out _ _ _ _ _ h) (Or.inl ⟨by rfl, ?_⟩) ?_ ?_
  rotate_left
  · intro w'
    go_simp
    with_reducible rfl
  rotate_left
  · simp only [Act.put, List.setIfInBounds_toArray, List.set_cons_zero, List.set_cons_succ, i64_w, i32_w]
    rfl
  refine last_ (i := 18) (N := none) #[true, true, true, true, true, true, true, true, true, true, true, true, true, true, true, true, true, true, true] rfl rfl (by kernel_rfl) (by decide) (fun K hK => ?_)
  have HD := (B6.out.block q HQ.out).trans H0.out
  obtain ⟨A1, cap1, rfl⟩ := R6.out.sl
  obtain ⟨w7, ST, S1, S2⟩ := ref_storeL HD (A := A1) (len := (l ++ [(n + 1, j, u)]).length) (cap := cap1)
  have HD7 := Aside0.mk S1
  have G7 := Aside0.mk S2
  refine skip_ (w1 := w7) (by rfl) rfl (exec_store rfl ST) ?_
  clear ST S1 S2 HD
  refine hK.out _ _ ?_
  clear hK K
  refine done_ (by kernel_rfl) ?_
  have q1 := HQ.out
  have q2 := B6.out.size
  have q3 := G7.out.size
  have q4 := own_base R6.out
  refine hcont.out _ _ _ _ _ _ _ _ _ _ _ _ _ _ _ _ _ _ _ _ ⟨HD7.out, ?_⟩ ?_ ?_ (by omega)
  · exact RowG.move R6.out (fun k hk => G7.out.block k (RowG.lt R6.out k hk) (fun e => by injection e with e; have := q4 k hk; omega))
  · intro B' hB'
    exact (B6.out.mono (by omega)).grown G7.out (by omega) (fun k e => by injection e with e; omega)
  · intro k hk hkq
    exact (G7.out.block k (by omega) (fun e => by injection e with e; omega)).trans (B6.out.block k hk)
theorem find_none {l : List G3} {p : G3 → Bool} (h : ∀ g ∈ l, p g = false) : l.find? p = none := by
  rw [List.find?_eq_none]
  intro x hx
  rw [h x hx]
  decide
set_option maxRecDepth 100000 in
set_option maxHeartbeats 4000000 in
theorem rgrant_had {w : World} {q B : Nat} {l : List G3} {n u : Int} {v : Value} (T : RefT w q B l n v) (hl : l.length ≤ 1000) {g : G3} (hg : g ∈ l) : Calls Try.prog 18 #[.pointer (some ⟨q, 0, none⟩), .int .i64 g.2.1, .int .u64 u] w fun e w' => e = .returned (.tuple #[.int .i64 0, .int .i64 8]) ∧ Below w.heap.size w w' := by
  have T' := Aside0.mk T
  obtain ⟨x, hx⟩ : ∃ x, l.find? (fun g' => decide (g'.2.1 = g.2.1)) = some x := by
    cases h : l.find? (fun g' => decide (g'.2.1 = g.2.1)) with
    | some x => exact ⟨x, rfl⟩
    | none =>
      rw [List.find?_eq_none] at h
      exact absurd (decide_eq_true rfl) (h g hg)
  have HX := Aside0.mk hx
  clear hx hg T
  go_enter Try.func18, Try.ntmps18
  go_wp2_with (first
    | (refine Great.wpList_readTo rfl (some 11) rfl (.bool true) (exec_field rfl found_ok) ?_)
    | (go_at_call 23; refine (rof_calls (num := g.2.1) T'.out hl).mono ?_; rintro e w1 ⟨hb, rfl⟩; rw [HX.out]; have BN := Aside0.mk hb; clear hb; dsimp only [foundV]))
  go_ret2
  exact ⟨rfl, BN.out⟩
set_option maxRecDepth 100000 in
set_option maxHeartbeats 4000000 in
theorem rgrant_new {w : World} {q B : Nat} {l : List G3} {n j u : Int} {v : Value} (T : RefT w q B l n v) (hl : l.length ≤ 1000) (hj : ∀ g ∈ l, g.2.1 ≠ j) (h0 : 0 ≤ n) (h1 : n < 4611686018427387904) (hB : B ≤ w.heap.size) (hqB : q < B) : Calls Try.prog 18 #[.pointer (some ⟨q, 0, none⟩), .int .i64 j, .int .u64 u] w fun e w' => ∃ v', e = .returned (.tuple #[.int .i64 (n + 1), .int .i64 0]) ∧ RefT w' q B (l ++ [(n + 1, j, u)]) (n + 1) v' ∧ (∀ B', B' ≤ q → Below B' w w') ∧ (∀ k, k < w.heap.size → k ≠ q → w'.heap[k]? = w.heap[k]?) ∧ w.heap.size ≤ w'.heap.size := by
  have T' := Aside0.mk T
  have HX : Aside0 (l.find? (fun g' => decide (g'.2.1 = j)) = none) := ⟨find_none (fun g hg => decide_eq_false (hj g hg))⟩
  have HQ := blk_lt T.head
  clear hj T
  go_enter Try.func18, Try.ntmps18
  go_upto_region 3 with (first
    | (refine Great.wpList_readTo rfl (some 11) rfl (.bool false) (exec_field rfl found_ok) ?_)
    | (go_at_call 23; refine (rof_calls (num := j) T'.out hl).mono ?_; rintro e w1 ⟨hb, rfl⟩; rw [HX.out]; have B1 := Aside0.mk hb; have H1 := Aside0.mk ((hb.block q HQ).trans T'.out.head); have R1 := Aside0.mk (RowG.move T'.out.row (fun k hk => hb.block k (RowG.lt T'.out.row k hk))); have c0 := blk_cell H1.out 0; have c1 := blk_cell H1.out 1; clear hb; dsimp only [foundV]))
  obtain ⟨w2, ST, S1, S2⟩ := ref_storeN H1.out (k := n + 1)
  have ST' := Aside0.mk ST
  have H2 := Aside0.mk S1
  have G2 := Aside0.mk S2
  have R2 := Aside0.mk (RowG.move R1.out (fun k hk => S2.block k (RowG.lt R1.out k hk) (fun e => by injection e with e; have := own_base R1.out k hk; omega)))
  clear ST S1 S2
  go_upto_region 4 with (refine wpList_doTo rfl w2 (exec_store rfl ST'.out) ?_)
  refine rgrant_four (B := B) (n := n) (l := l) (v := v) rfl ?_ ⟨H2.out, R2.out⟩ hl ?_
  · exact ⟨fun c a d v w h => by cases d <;> exact h⟩
  intro w3 v3 y19 y20 y21 y22 y23 y24 y25 y26 y27 y28 y29 y30 y31 y32 y33 y34 y35 y36 hT hb hf hs
  have T3 := Aside0.mk hT
  have B3 := Aside0.mk hb
  have F3 := Aside0.mk hf
  have Z3 := Aside0.mk hs
  have c1' := blk_cell hT.head 1
  clear hT hb hf hs c0 c1
  go_wp2
  go_ret2
  have z1 := B1.out.size
  have z2 := G2.out.size
  have z3 := Z3.out
  refine ⟨_, rfl, ⟨T3.out.head, T3.out.row.base (by omega)⟩, ?_, ?_, by omega⟩
  · intro B' hB'
    exact ((B1.out.mono (by omega)).grown G2.out (by omega) (fun k e => by injection e with e; omega)).trans (B3.out B' hB')
  · intro k hk hkq
    exact (F3.out k (by omega) hkq).trans ((G2.out.block k (by omega) (fun e => by injection e with e; omega)).trans (B1.out.block k hk))
end Go.Proofs.Ytikbgoppmailjaa.H
