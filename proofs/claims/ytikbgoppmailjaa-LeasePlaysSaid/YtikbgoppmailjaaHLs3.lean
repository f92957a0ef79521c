import Derived.Test.YtikbgoppmailjaaLsA
/- Grant and Drop: a lease more, a lease less. -/
namespace Go.Proofs.Ytikbgoppmailjaa.H
open Go.RowKit Go.HK Go.Maps Go.WideShapes Go.ChangeShapes Go.Proofs.YtikbgoppmailjaaW.PrintWords Go.Proofs.YtikbgoppmailjaaW.PrintLast Go.Proofs.YtikbgoppmailjaaW.PrintMore
set_option linter.unusedVariables false
set_option linter.unusedSimpArgs false
section
variable {w w' : World} {p : Nat} {n : Int} {b1 b2 m : Nat} {D1 D2 D : DataW Unit}
theorem TabAt.last (T : TabAt w p n b1 b2 m D1 D2) (k : Int) : TabAt (w.setCell ⟨p, 0, none⟩ (.int .i64 k)) p k b1 b2 m D1 D2 :=
  ⟨blk_set T.head 0 (.int .i64 k), T.all.setCell (a := ⟨p, 0, none⟩) (Ne.symm T.ne1) _, T.of.setCell (a := ⟨p, 0, none⟩) (Ne.symm T.ne2) _, T.apart⟩
theorem TabAt.drew (T : TabAt w p n b1 b2 m D1 D2) : TabAt w.drew p n b1 b2 m D1 D2 := ⟨T.head, T.all.drew, T.of.drew, T.apart⟩
theorem TabAt.turn1 (T : TabAt w p n b1 b2 m D1 D2) {m' : Nat} (hm : m ≤ m') (ho : w'.ownsMap Try.prog 3 grantElem b1 m' D) (ht : w.mapTurned w' b1) : TabAt w' p n b1 b2 m' D D2 :=
  ⟨(ht.grown.block p (blk_lt T.head) (fun e => T.ne1 (Option.some.inj e))).trans T.head, ho, (T.of.kept ht.grown (fun e => T.apart (Option.some.inj e).symm)).mono hm, T.apart⟩
theorem TabAt.turn2 (T : TabAt w p n b1 b2 m D1 D2) {m' : Nat} (hm : m ≤ m') (ho : w'.ownsMap Try.prog 3 (plainElem Try.prog 3) b2 m' D) (ht : w.mapTurned w' b2) : TabAt w' p n b1 b2 m' D1 D :=
  ⟨(ht.grown.block p (blk_lt T.head) (fun e => T.ne2 (Option.some.inj e))).trans T.head, (T.all.kept ht.grown (fun e => T.apart (Option.some.inj e))).mono hm, ho, T.apart⟩
end
theorem below_turned {B : Nat} {a w w' : World} {b : Nat} (h : Below B a w) (hB : B ≤ w.heap.size) (ht : w.mapTurned w' b) (hb : B ≤ b) : Below B a w' := h.grown ht.grown hB (fun k e => by cases e; exact hb)
theorem exec_mapUpdate {P : Program} {ρ : Operand → Value} {o : Oper} {t : TypeId} {m x v : Operand} (ho : o.op = .mapUpdate t m x v) {w w' : World} (h : (Instr.mapUpdate t (ρ m) (ρ x) (ρ v)).run P w = .ok () w') : (execOp ρ o).run P w = .ok .skip w' := by
  unfold execOp
  rw [ho]
  simp only [Sem.run_bind, h, Result.andThen]
  rfl
theorem exec_delete {P : Program} {ρ : Operand → Value} {o : Oper} {t k : TypeId} {m x : Operand} (ho : o.op = Op.call { callee := Callee.builtin Builtin.delete, args := #[m, x], argTypes := #[t, k] }) {w w' : World} {v : Value} (h : (Builtin.delete_ #[t, k] o.type #[ρ m, ρ x]).run P w = .ok v w') : (execOp ρ o).run P w = .ok (.value v) w' := by
  unfold execOp
  simp [ho, resolve, invoke, builtin, h, Result.andThen]
set_option maxRecDepth 100000 in
theorem grant_had {w : World} {p : Nat} {n : Int} {b1 b2 m : Nat} {D1 D2 : DataW Unit} (T : TabAt w p n b1 b2 m D1 D2) {j u : Int} (hj : (Lit.int .i64 j).wf = true) (hh : has D2 (kk j) = true) :
    Calls Try.prog 9 #[.pointer (some ⟨p, 0, none⟩), .int .i64 j, .int .u64 u] w fun e w' => w' = w ∧ e = .returned (.tuple #[.int .i64 0, .int .i64 8]) := by
  have c0 := blk_cell T.head 0
  have c1 := blk_cell T.head 1
  have c2 := blk_cell T.head 2
  have HT := Aside0.mk T
  have HJ := Aside0.mk hj
  have HH := Aside0.mk hh
  clear T hj hh
  go_enter Try.func9, Try.ntmps9
  go_wp2_with (first
    | (refine wpList_lookup_own_ok_int _ rfl _ _ 60 rfl 3 3 .i64 keyI Try.underlying60 Try.underlying3 (zeroI _) b2 m D2 rfl HT.out.of _ _ rfl (keyOf_i HJ.out) ?_; intro c hat hwc; rw [HH.out]))
  go_ret2
  exact ⟨rfl, rfl⟩
set_option maxRecDepth 100000 in
theorem grant_nil {w : World} {j u : Int} : Calls Try.prog 9 #[.pointer none, .int .i64 j, .int .u64 u] w fun e w' => w' = w ∧ e = .returned (.tuple #[.int .i64 0, .int .i64 1]) := by
  go_enter Try.func9, Try.ntmps9
  go_wp2
  go_ret2
  exact ⟨rfl, rfl⟩
set_option maxRecDepth 100000 in
set_option maxHeartbeats 2000000 in
theorem grant_new {w : World} {p : Nat} {n : Int} {b1 b2 m : Nat} {D1 D2 : DataW Unit} (T : TabAt w p n b1 b2 m D1 D2) {j u : Int} (hj : (Lit.int .i64 j).wf = true) (h0 : 0 ≤ n) (h1 : n < 4611686018427387904) (hm : m + 2 < maxLen) (hh : has D2 (kk j) = false) :
    Calls Try.prog 9 #[.pointer (some ⟨p, 0, none⟩), .int .i64 j, .int .u64 u] w fun e w' => e = .returned (.tuple #[.int .i64 (n + 1), .int .i64 0]) ∧ TabAt w' p (n + 1) b1 b2 (m + 2) (D1.put (kk (n + 1)) (gd (n + 1) j u)) (D2.put (kk j) (.lit (.int .i64 (n + 1)))) ∧ (∀ B, B ≤ p → B ≤ b1 → B ≤ b2 → Below B w w') ∧ w.heap.size ≤ w'.heap.size ∧ ∀ k, k < w.heap.size → k ≠ p → k ≠ b1 → k ≠ b2 → w'.heap[k]? = w.heap[k]? := by
  have c0 := blk_cell T.head 0
  have c1 := blk_cell T.head 1
  have c2 := blk_cell T.head 2
  have hfr := blk_frozen T.head 0
  have HT := Aside0.mk T
  have HJ := Aside0.mk hj
  have HH := Aside0.mk hh
  have HN := Aside0.mk (show (Lit.int .i64 (n + 1)).wf = true from WalkArith.wf_i64 (by omega))
  have HM := Aside0.mk hm
  clear T hj hh hm
  go_enter Try.func9, Try.ntmps9
  go_wp2_with (first
    | (refine wpList_lookup_own_ok_int _ rfl _ _ 60 rfl 3 3 .i64 keyI Try.underlying60 Try.underlying3 (zeroI _) b2 m D2 rfl HT.out.of _ _ rfl (keyOf_i HJ.out) ?_; intro c hat hwc; rw [HH.out]))
  have T1 := Aside0.mk (HT.out.last (n + 1))
  have BB1 := Aside0.mk (fun (B : Nat) (x : B ≤ p) (y : B ≤ b1) (z : B ≤ b2) => (Below.refl B w).setCell (p := ⟨p, 0, none⟩) x (.int .i64 (n + 1)))
  have S1 := Aside0.mk (show w.heap.size ≤ (w.setCell ⟨p, 0, none⟩ (.int .i64 (n + 1))).heap.size by rw [World.size_setCell]; exact Nat.le_refl _)
  have FF1 := Aside0.mk (fun (k : Nat) (np : k ≠ p) => Below.heap_setCell w ⟨p, 0, none⟩ (.int .i64 (n + 1)) k np)
  generalize w.setCell ⟨p, 0, none⟩ (.int .i64 (n + 1)) = w1 at T1 BB1 S1 FF1 ⊢
  clear c0 c1 c2 hfr
  refine start_ (n := 16) (S := fun w' => w'.cell? ⟨p, 0, none⟩ = some (.int .i64 (n + 1)) ∧ w'.cell? ⟨p, 1, none⟩ = some (.map (some b1)) ∧ w'.cell? ⟨p, 2, none⟩ = some (.map (some b2))) (ds := []) #[false, false, false, false, false, false, false, false, false, false, false, false, false, false, false, false] (by kernel_rfl) rfl rfl ⟨(blk_cell T1.out.head 0), (blk_cell T1.out.head 1), (blk_cell T1.out.head 2)⟩ (fun hHeld => ?_)
  refine pure_ (i := 0) (N := some 29) (v := ?_) (a' := ?_) #[true, false, false, false, false, false, false, false, false, false, false, false, false, false, false, false] rfl rfl (by kernel_rfl) (fun _ _ _ h => h) (Or.inl ⟨by rfl, ?_⟩) ?_ ?_
  rotate_left
  · intro w'
    go_simp
    with_reducible rfl
  rotate_left
  · simp only [Act.put, List.setIfInBounds_toArray, List.set_cons_zero, List.set_cons_succ, i64_w, i32_w]
    rfl
  refine pure_ (i := 1) (N := some 30) (v := ?_) (a' := ?_) #[true, true, false, false, false, false, false, false, false, false, false, false, false, false, false, false] rfl rfl (by kernel_rfl) (fun _ _ _ h => h) (Or.inl ⟨by rfl, ?_⟩) ?_ ?_
  rotate_left
  · intro w'
    go_simp
    with_reducible rfl
  rotate_left
  · simp only [Act.put, List.setIfInBounds_toArray, List.set_cons_zero, List.set_cons_succ, i64_w, i32_w]
    rfl
  refine pure_ (i := 2) (N := some 31) (v := ?_) (a' := ?_) #[true, true, true, false, false, false, false, false, false, false, false, false, false, false, false, false] rfl rfl (by kernel_rfl) (fun _ _ _ h => h) (Or.inl ⟨by rfl, ?_⟩) ?_ ?_
  rotate_left
  · intro w'
    go_simp
    with_reducible rfl
  rotate_left
  · simp only [Act.put, List.setIfInBounds_toArray, List.set_cons_zero, List.set_cons_succ, i64_w, i32_w]
    rfl
  refine pure_ (i := 4) (N := some 33) (v := ?_) (a' := ?_) #[true, true, true, false, true, false, false, false, false, false, false, false, false, false, false, false] rfl rfl (by kernel_rfl) (fun _ _ _ h => h) (Or.inl ⟨by rfl, ?_⟩) ?_ ?_
  rotate_left
  · intro w'
    go_simp
    with_reducible rfl
  rotate_left
  · simp only [Act.put, List.setIfInBounds_toArray, List.set_cons_zero, List.set_cons_succ, i64_w, i32_w]
    rfl
  refine pure_ (i := 5) (N := some 34) (v := ?_) (a' := ?_) #[true, true, true, false, true, true, false, false, false, false, false, false, false, false, false, false] rfl rfl (by kernel_rfl) (fun _ _ _ h => h) (Or.inl ⟨by rfl, ?_⟩) ?_ ?_
  rotate_left
  · intro w'
    go_simp
    with_reducible rfl
  rotate_left
  · simp only [Act.put, List.setIfInBounds_toArray, List.set_cons_zero, List.set_cons_succ, i64_w, i32_w]
    rfl
  refine pure_ (i := 6) (N := some 35) (v := ?_) (a' := ?_) #[true, true, true, false, true, true, true, false, false, false, false, false, false, false, false, false] rfl rfl (by kernel_rfl) (fun _ _ _ h => h) (Or.inl ⟨by rfl, ?_⟩) ?_ ?_
  rotate_left
  · intro w'
    go_simp
    with_reducible rfl
  rotate_left
  · simp only [Act.put, List.setIfInBounds_toArray, List.set_cons_zero, List.set_cons_succ, i64_w, i32_w]
    rfl
  refine pure_ (i := 8) (N := some 37) (v := ?_) (a' := ?_) #[true, true, true, false, true, true, true, false, true, false, false, false, false, false, false, false] rfl rfl (by kernel_rfl) (fun _ _ _ h => h) (Or.inl ⟨by rfl, ?_⟩) ?_ ?_
  rotate_left
  · intro w'
    go_simp
    with_reducible rfl
  rotate_left
  · simp only [Act.put, List.setIfInBounds_toArray, List.set_cons_zero, List.set_cons_succ, i64_w, i32_w]
    rfl
  refine pure_ (i := 9) (N := some 38) (v := ?_) (a' := ?_) #[true, true, true, false, true, true, true, false, true, true, false, false, false, false, false, false] rfl rfl (by kernel_rfl) (fun _ _ _ h => h) (Or.inl ⟨by rfl, ?_⟩) ?_ ?_
  rotate_left
  · intro w'
    go_simp
    with_reducible rfl
  rotate_left
  · simp only [Act.put, List.setIfInBounds_toArray, List.set_cons_zero, List.set_cons_succ, i64_w, i32_w]
    rfl
  refine pure_ (i := 10) (N := some 39) (v := ?_) (a' := ?_) #[true, true, true, false, true, true, true, false, true, true, true, false, false, false, false, false] rfl rfl (by kernel_rfl) (fun _ _ _ h => h) (Or.inl ⟨by rfl, ?_⟩) ?_ ?_
  rotate_left
  · intro w'
    go_simp
    with_reducible rfl
  rotate_left
  · simp only [Act.put, List.setIfInBounds_toArray, List.set_cons_zero, List.set_cons_succ, i64_w, i32_w]
    rfl
  refine pure_ (i := 12) (N := some 41) (v := ?_) (a' := ?_) #[true, true, true, false, true, true, true, false, true, true, true, false, true, false, false, false] rfl rfl (by kernel_rfl) (fun _ _ _ h => h) (Or.inl ⟨by rfl, ?_⟩) ?_ ?_
  rotate_left
  · intro w'
    go_simp
    with_reducible rfl
  rotate_left
  · simp only [Act.put, List.setIfInBounds_toArray, List.set_cons_zero, List.set_cons_succ, i64_w, i32_w]
    rfl
  refine pure_ (i := 13) (N := some 42) (v := ?_) (a' := ?_) #[true, true, true, false, true, true, true, false, true, true, true, false, true, true, false, false] rfl rfl (by kernel_rfl) (fun _ _ _ h => h) (Or.inl ⟨by rfl, ?_⟩) ?_ ?_
  rotate_left
  · intro w'
    go_simp
    with_reducible rfl
  rotate_left
  · simp only [Act.put, List.setIfInBounds_toArray, List.set_cons_zero, List.set_cons_succ, i64_w, i32_w]
    rfl
  refine take_ (i := 3) (N := some 32) (v := ?_) (a' := ?_) #[true, true, true, true, true, true, true, false, true, true, true, false, true, true, false, false] rfl rfl (by kernel_rfl) (fun _ _ _ h => h) (Or.inl ⟨by rfl, ?_⟩) hHeld ?_ ?_
  rotate_left
  · rintro w' ⟨s0, s1, s2⟩
    go_simp
    with_reducible rfl
  rotate_left
  · simp only [Act.put, List.setIfInBounds_toArray, List.set_cons_zero, List.set_cons_succ, i64_w, i32_w]
    rfl
  refine take_ (i := 7) (N := some 36) (v := ?_) (a' := ?_) #[true, true, true, true, true, true, true, true, true, true, true, false, true, true, false, false] rfl rfl (by kernel_rfl) (fun _ _ _ h => h) (Or.inl ⟨by rfl, ?_⟩) hHeld ?_ ?_
  rotate_left
  · rintro w' ⟨s0, s1, s2⟩
    go_simp
    with_reducible rfl
  rotate_left
  · simp only [Act.put, List.setIfInBounds_toArray, List.set_cons_zero, List.set_cons_succ, i64_w, i32_w]
    rfl
  refine take_ (i := 11) (N := some 40) (v := ?_) (a' := ?_) #[true, true, true, true, true, true, true, true, true, true, true, true, true, true, false, false] rfl rfl (by kernel_rfl) (fun _ _ _ h => h) (Or.inl ⟨by rfl, ?_⟩) hHeld ?_ ?_
  rotate_left
  · rintro w' ⟨s0, s1, s2⟩
    go_simp
    with_reducible rfl
  rotate_left
  · simp only [Act.put, List.setIfInBounds_toArray, List.set_cons_zero, List.set_cons_succ, i64_w, i32_w]
    rfl
  refine pure_ (i := 14) (N := some 43) (v := ?_) (a' := ?_) #[true, true, true, true, true, true, true, true, true, true, true, true, true, true, true, false] rfl rfl (by kernel_rfl) (fun _ _ _ h => h) (Or.inl ⟨by rfl, ?_⟩) ?_ ?_
  rotate_left
  · intro w'
    go_simp
    with_reducible rfl
  rotate_left
  · simp only [Act.put, List.setIfInBounds_toArray, List.set_cons_zero, List.set_cons_succ, i64_w, i32_w]
    rfl
  refine one_ (i := 15) (N := none) #[true, true, true, true, true, true, true, true, true, true, true, true, true, true, true, true] rfl rfl (by kernel_rfl) (by decide) (fun K hK => ?_)
  obtain ⟨w2, hrun, ho, ht⟩ := T1.out.drew.all.store keyI Try.underlying59 (by have := HM.out; omega) (keyOf_i HN.out) (grantElem_mk (n + 1) j u)
  have hT' := Aside0.mk (T1.out.drew.turn1 (by omega) ho ht)
  have BB2 := Aside0.mk (fun (B : Nat) (x : B ≤ p) (y : B ≤ b1) (z : B ≤ b2) => below_turned (BB1.out B x y z).drew (by have := blk_lt T1.out.head; show B ≤ w1.heap.size; omega) ht y)
  have S2 := Aside0.mk (show w.heap.size ≤ w2.heap.size from Nat.le_trans S1.out ht.grown.size)
  have FF2 := Aside0.mk (fun (k : Nat) (hk : k < w.heap.size) (np : k ≠ p) (n1 : k ≠ b1) => (ht.grown.block k (Nat.lt_of_lt_of_le hk S1.out) (fun e => n1 (Option.some.inj e))).trans (FF1.out k np))
  refine skip_ (w1 := w2) (by rfl) rfl (exec_mapUpdate rfl hrun) ?_
  clear hrun ho ht
  refine hK.out _ _ ⟨(by have h := blk_cell hT'.out.head 0; exact h), (by have h := blk_cell hT'.out.head 1; exact h), (by have h := blk_cell hT'.out.head 2; exact h)⟩ (fun hHeld => ?_)
  clear hK K
  refine done_ (by kernel_rfl) ?_
  have T2 := hT'
  clear hT'
  go_wp2
  refine start_ (n := 10) (S := fun w' => w'.cell? ⟨p, 0, none⟩ = some (.int .i64 (n + 1)) ∧ w'.cell? ⟨p, 1, none⟩ = some (.map (some b1)) ∧ w'.cell? ⟨p, 2, none⟩ = some (.map (some b2))) (ds := []) #[false, false, false, false, false, false, false, false, false, false] (by kernel_rfl) rfl rfl ⟨(blk_cell T2.out.head 0), (blk_cell T2.out.head 1), (blk_cell T2.out.head 2)⟩ (fun hHeld => ?_)
  refine pure_ (i := 0) (N := some 44) (v := ?_) (a' := ?_) #[true, false, false, false, false, false, false, false, false, false] rfl rfl (by kernel_rfl) (fun _ _ _ h => h) (Or.inl ⟨by rfl, ?_⟩) ?_ ?_
  rotate_left
  · intro w'
    go_simp
    with_reducible rfl
  rotate_left
  · simp only [Act.put, List.setIfInBounds_toArray, List.set_cons_zero, List.set_cons_succ, i64_w, i32_w]
    rfl
  refine pure_ (i := 1) (N := some 45) (v := ?_) (a' := ?_) #[true, true, false, false, false, false, false, false, false, false] rfl rfl (by kernel_rfl) (fun _ _ _ h => h) (Or.inl ⟨by rfl, ?_⟩) ?_ ?_
  rotate_left
  · intro w'
    go_simp
    with_reducible rfl
  rotate_left
  · simp only [Act.put, List.setIfInBounds_toArray, List.set_cons_zero, List.set_cons_succ, i64_w, i32_w]
    rfl
  refine pure_ (i := 2) (N := some 46) (v := ?_) (a' := ?_) #[true, true, true, false, false, false, false, false, false, false] rfl rfl (by kernel_rfl) (fun _ _ _ h => h) (Or.inl ⟨by rfl, ?_⟩) ?_ ?_
  rotate_left
  · intro w'
    go_simp
    with_reducible rfl
  rotate_left
  · simp only [Act.put, List.setIfInBounds_toArray, List.set_cons_zero, List.set_cons_succ, i64_w, i32_w]
    rfl
  refine pure_ (i := 4) (N := some 48) (v := ?_) (a' := ?_) #[true, true, true, false, true, false, false, false, false, false] rfl rfl (by kernel_rfl) (fun _ _ _ h => h) (Or.inl ⟨by rfl, ?_⟩) ?_ ?_
  rotate_left
  · intro w'
    go_simp
    with_reducible rfl
  rotate_left
  · simp only [Act.put, List.setIfInBounds_toArray, List.set_cons_zero, List.set_cons_succ, i64_w, i32_w]
    rfl
  refine pure_ (i := 5) (N := some 49) (v := ?_) (a' := ?_) #[true, true, true, false, true, true, false, false, false, false] rfl rfl (by kernel_rfl) (fun _ _ _ h => h) (Or.inl ⟨by rfl, ?_⟩) ?_ ?_
  rotate_left
  · intro w'
    go_simp
    with_reducible rfl
  rotate_left
  · simp only [Act.put, List.setIfInBounds_toArray, List.set_cons_zero, List.set_cons_succ, i64_w, i32_w]
    rfl
  refine pure_ (i := 6) (N := some 50) (v := ?_) (a' := ?_) #[true, true, true, false, true, true, true, false, false, false] rfl rfl (by kernel_rfl) (fun _ _ _ h => h) (Or.inl ⟨by rfl, ?_⟩) ?_ ?_
  rotate_left
  · intro w'
    go_simp
    with_reducible rfl
  rotate_left
  · simp only [Act.put, List.setIfInBounds_toArray, List.set_cons_zero, List.set_cons_succ, i64_w, i32_w]
    rfl
  refine pure_ (i := 7) (N := some 51) (v := ?_) (a' := ?_) #[true, true, true, false, true, true, true, true, false, false] rfl rfl (by kernel_rfl) (fun _ _ _ h => h) (Or.inl ⟨by rfl, ?_⟩) ?_ ?_
  rotate_left
  · intro w'
    go_simp
    with_reducible rfl
  rotate_left
  · simp only [Act.put, List.setIfInBounds_toArray, List.set_cons_zero, List.set_cons_succ, i64_w, i32_w]
    rfl
  refine take_ (i := 3) (N := some 47) (v := ?_) (a' := ?_) #[true, true, true, true, true, true, true, true, false, false] rfl rfl (by kernel_rfl) (fun _ _ _ h => h) (Or.inl ⟨by rfl, ?_⟩) hHeld ?_ ?_
  rotate_left
  · rintro w' ⟨s0, s1, s2⟩
    go_simp
    with_reducible rfl
  rotate_left
  · simp only [Act.put, List.setIfInBounds_toArray, List.set_cons_zero, List.set_cons_succ, i64_w, i32_w]
    rfl
  refine take_ (i := 8) (N := some 52) (v := ?_) (a' := ?_) #[true, true, true, true, true, true, true, true, true, false] rfl rfl (by kernel_rfl) (fun _ _ _ h => h) (Or.inl ⟨by rfl, ?_⟩) hHeld ?_ ?_
  rotate_left
  · rintro w' ⟨s0, s1, s2⟩
    go_simp
    with_reducible rfl
  rotate_left
  · simp only [Act.put, List.setIfInBounds_toArray, List.set_cons_zero, List.set_cons_succ, i64_w, i32_w]
    rfl
  refine one_ (i := 9) (N := none) #[true, true, true, true, true, true, true, true, true, true] rfl rfl (by kernel_rfl) (by decide) (fun K hK => ?_)
  obtain ⟨w3, hrun, ho, ht⟩ := T2.out.drew.of.store keyI Try.underlying60 (by have := HM.out; omega) (keyOf_i HJ.out) (plainElem_int Try.underlying3 HN.out)
  have hT' := Aside0.mk (T2.out.drew.turn2 (by omega) ho ht)
  have BB3 := Aside0.mk (fun (B : Nat) (x : B ≤ p) (y : B ≤ b1) (z : B ≤ b2) => below_turned (BB2.out B x y z).drew (by have := blk_lt T2.out.head; show B ≤ w2.heap.size; omega) ht z)
  have S3 := Aside0.mk (show w.heap.size ≤ w3.heap.size from Nat.le_trans S2.out ht.grown.size)
  have FF3 := Aside0.mk (fun (k : Nat) (hk : k < w.heap.size) (np : k ≠ p) (n1 : k ≠ b1) (n2 : k ≠ b2) => (ht.grown.block k (Nat.lt_of_lt_of_le hk S2.out) (fun e => n2 (Option.some.inj e))).trans (FF2.out k hk np n1))
  refine skip_ (w1 := w3) (by rfl) rfl (exec_mapUpdate rfl hrun) ?_
  clear hrun ho ht
  refine hK.out _ _ ⟨(by have h := blk_cell hT'.out.head 0; exact h), (by have h := blk_cell hT'.out.head 1; exact h), (by have h := blk_cell hT'.out.head 2; exact h)⟩ (fun hHeld => ?_)
  clear hK K
  refine done_ (by kernel_rfl) ?_
  have c0 := blk_cell hT'.out.head 0
  go_wp2
  go_ret2
  exact ⟨rfl, hT'.out, BB3.out, S3.out, FF3.out⟩
end Go.Proofs.Ytikbgoppmailjaa.H
