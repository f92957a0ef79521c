import Derived.Test.YtikbgoppmailjaaHLs3
/- Drop: a lease less. -/
namespace Go.Proofs.Ytikbgoppmailjaa.H
open Go.RowKit Go.HK Go.Maps Go.WideShapes Go.ChangeShapes Go.Proofs.YtikbgoppmailjaaW.PrintWords Go.Proofs.YtikbgoppmailjaaW.PrintLast Go.Proofs.YtikbgoppmailjaaW.PrintMore
set_option linter.unusedVariables false
set_option linter.unusedSimpArgs false
theorem gd_inj {a b c a' b' c' : Int} (h : gd a b c = gd a' b' c') : a = a' ∧ b = b' ∧ c = c' := by
  injection h with h
  simp at h
  exact h
set_option maxRecDepth 100000 in
theorem drop_nil {w : World} {j : Int} : Calls Try.prog 10 #[.pointer none, .int .i64 j] w fun e w' => Below w.heap.size w w' ∧ e = .returned (.tuple #[.int .i64 0, .bool false]) := by
  have BL0 := Aside0.mk (Below.refl w.heap.size w)
  go_enter Try.func10, Try.ntmps10
  go_wp2_with (first
    | (go_at_call 14; refine (look_nil).mono ?_; rintro e w1 ⟨hb, rfl⟩; have BL := Aside0.mk (hb.alloc hb.size (.cells #[.int .i64 0, .int .i64 0, .int .u64 0] 38)); clear hb))
  go_ret2
  exact ⟨BL.out, rfl⟩
set_option maxRecDepth 100000 in
theorem drop_none {w : World} {p : Nat} {n : Int} {b1 b2 m : Nat} {D1 D2 : DataW Unit} (T : TabAt w p n b1 b2 m D1 D2) {j : Int} (hj : (Lit.int .i64 j).wf = true) (hh : has D1 (kk j) = false) :
    Calls Try.prog 10 #[.pointer (some ⟨p, 0, none⟩), .int .i64 j] w fun e w' => Below w.heap.size w w' ∧ e = .returned (.tuple #[.int .i64 0, .bool false]) := by
  have HT := Aside0.mk T
  have HJ := Aside0.mk hj
  have HH := Aside0.mk hh
  clear T hj hh
  go_enter Try.func10, Try.ntmps10
  go_wp2_with (first
    | (go_at_call 14; refine (look_calls HT.out HJ.out).mono ?_; rintro e w1 ⟨hb, a, b, c, rfl, hz⟩; rw [HH.out]; have BL := Aside0.mk (hb.alloc hb.size (.cells #[.int .i64 a, .int .i64 b, .int .u64 c] 38)); clear hb hz))
  go_ret2
  exact ⟨BL.out, rfl⟩
set_option maxRecDepth 100000 in
set_option maxHeartbeats 2000000 in
theorem drop_some {w : World} {p : Nat} {n : Int} {b1 b2 m : Nat} {D1 D2 : DataW Unit} (T : TabAt w p n b1 b2 m D1 D2) {j a b c : Int} (hj : (Lit.int .i64 j).wf = true) (hh : has D1 (kk j) = true) (hat : D1.atKey (kk j) (gd 0 0 0) = gd a b c) (hwb : (Lit.int .i64 b).wf = true) :
    Calls Try.prog 10 #[.pointer (some ⟨p, 0, none⟩), .int .i64 j] w fun e w' => e = .returned (.tuple #[.int .i64 b, .bool true]) ∧ TabAt w' p n b1 b2 m (D1.del (kk j)) (D2.del (kk b)) ∧ (∀ B, B ≤ p → B ≤ b1 → B ≤ b2 → Below B w w') ∧ w.heap.size ≤ w'.heap.size ∧ ∀ k, k < w.heap.size → k ≠ b1 → k ≠ b2 → w'.heap[k]? = w.heap[k]? := by
  have HT := Aside0.mk T
  have HJ := Aside0.mk hj
  have HH := Aside0.mk hh
  have HA := Aside0.mk hat
  have HB := Aside0.mk hwb
  clear T hj hh hat hwb
  go_enter Try.func10, Try.ntmps10
  go_wp2_with (first
    | (go_at_call 14; refine (look_calls HT.out HJ.out).mono ?_; rintro e w1 ⟨hb, a', b', c', rfl, hz⟩; obtain ⟨rfl, rfl, rfl⟩ := gd_inj (hz.symm.trans HA.out); rw [HH.out]; have T1 := Aside0.mk (HT.out.keep hb); have T2 := Aside0.mk (T1.out.keep ((Below.refl _ w1).alloc (Nat.le_refl _) (.cells #[.int .i64 a', .int .i64 b', .int .u64 c'] 38))); have hg := Aside0.mk (heap_alloc_last w1 (.cells #[.int .i64 a', .int .i64 b', .int .u64 c'] 38)); have BL := Aside0.mk (hb.alloc hb.size (.cells #[.int .i64 a', .int .i64 b', .int .u64 c'] 38)); have c1 := blk_cell T2.out.head 1; clear hb hz)
    | (refine wpList_delete_own _ rfl _ _ 59 3 rfl 38 keyI Try.underlying59 grantElem b1 m D1 rfl T2.out.all _ _ rfl (keyOf_i HJ.out) ?_; intro w3 ho ht; have HO := Aside0.mk ho; have HX := Aside0.mk ht; clear ho ht))
  have T3 := Aside0.mk (T2.out.turn1 (Nat.le_refl m) HO.out HX.out)
  have hlt := blk_lt T1.out.head
  have hl1 := T1.out.all.lt
  have hl2 := T1.out.of.lt
  have he := HX.out.grown.cell (a := ⟨w1.heap.size, 1, none⟩) (v := .int .i64 b') (blk_cell hg.out 1) (fun e => by have e2 : w1.heap.size = b1 := Option.some.inj e; omega)
  have BB3 := Aside0.mk (fun (B : Nat) (x : B ≤ p) (y : B ≤ b1) (z : B ≤ b2) => below_turned (BL.out.mono (show B ≤ w.heap.size by have := blk_lt HT.out.head; omega)) (by have := blk_lt T2.out.head; omega) HX.out y)
  have HL := Aside0.mk (show b2 ≠ w1.heap.size by omega)
  have S3 := Aside0.mk (show w.heap.size ≤ w3.heap.size from Nat.le_trans BL.out.size HX.out.grown.size)
  have FF3 := Aside0.mk (fun (k : Nat) (hk : k < w.heap.size) (n1 : k ≠ b1) => (HX.out.grown.block k (Nat.lt_of_lt_of_le hk BL.out.size) (fun e => n1 (Option.some.inj e))).trans (BL.out.block k hk))
  clear c1 hlt hl1 hl2
  refine start_ (n := 7) (S := fun w' => w'.cell? ⟨p, 0, none⟩ = some (.int .i64 n) ∧ w'.cell? ⟨p, 1, none⟩ = some (.map (some b1)) ∧ w'.cell? ⟨p, 2, none⟩ = some (.map (some b2)) ∧ w'.cell? ⟨w1.heap.size, 1, none⟩ = some (.int .i64 b')) (ds := []) #[false, false, false, false, false, false, false] (by kernel_rfl) rfl rfl ⟨(blk_cell T3.out.head 0), (blk_cell T3.out.head 1), (blk_cell T3.out.head 2), he⟩ (fun hHeld => ?_)
  refine pure_ (i := 0) (N := some 21) (v := ?_) (a' := ?_) #[true, false, false, false, false, false, false] rfl rfl (by kernel_rfl) (fun _ _ _ h => h) (Or.inl ⟨by rfl, ?_⟩) ?_ ?_
  rotate_left
  · intro w'
    go_simp
    with_reducible rfl
  rotate_left
  · simp only [Act.put, List.setIfInBounds_toArray, List.set_cons_zero, List.set_cons_succ, i64_w, i32_w]
    rfl
  refine pure_ (i := 1) (N := some 22) (v := ?_) (a' := ?_) #[true, true, false, false, false, false, false] rfl rfl (by kernel_rfl) (fun _ _ _ h => h) (Or.inl ⟨by rfl, ?_⟩) ?_ ?_
  rotate_left
  · intro w'
    go_simp
    with_reducible rfl
  rotate_left
  · simp only [Act.put, List.setIfInBounds_toArray, List.set_cons_zero, List.set_cons_succ, i64_w, i32_w]
    rfl
  refine pure_ (i := 2) (N := some 23) (v := ?_) (a' := ?_) #[true, true, true, false, false, false, false] rfl rfl (by kernel_rfl) (fun _ _ _ h => h) (Or.inl ⟨by rfl, ?_⟩) ?_ ?_
  rotate_left
  · intro w'
    go_simp
    with_reducible rfl
  rotate_left
  · simp only [Act.put, List.setIfInBounds_toArray, List.set_cons_zero, List.set_cons_succ, i64_w, i32_w]
    rfl
  refine pure_ (i := 4) (N := some 25) (v := ?_) (a' := ?_) #[true, true, true, false, true, false, false] rfl rfl (by kernel_rfl) (fun _ _ _ h => h) (Or.inl ⟨by rfl, ?_⟩) ?_ ?_
  rotate_left
  · intro w'
    go_simp
    with_reducible rfl
  rotate_left
  · simp only [Act.put, List.setIfInBounds_toArray, List.set_cons_zero, List.set_cons_succ, i64_w, i32_w]
    rfl
  refine take_ (i := 3) (N := some 24) (v := ?_) (a' := ?_) #[true, true, true, true, true, false, false] rfl rfl (by kernel_rfl) (fun _ _ _ h => h) (Or.inl ⟨by rfl, ?_⟩) hHeld ?_ ?_
  rotate_left
  · rintro w' ⟨s0, s1, s2, s3⟩
    go_simp
    with_reducible rfl
  rotate_left
  · simp only [Act.put, List.setIfInBounds_toArray, List.set_cons_zero, List.set_cons_succ, i64_w, i32_w]
    rfl
  refine take_ (i := 5) (N := some 26) (v := ?_) (a' := ?_) #[true, true, true, true, true, true, false] rfl rfl (by kernel_rfl) (fun _ _ _ h => h) (Or.inl ⟨by rfl, ?_⟩) hHeld ?_ ?_
  rotate_left
  · rintro w' ⟨s0, s1, s2, s3⟩
    go_simp
    with_reducible rfl
  rotate_left
  · simp only [Act.put, List.setIfInBounds_toArray, List.set_cons_zero, List.set_cons_succ, i64_w, i32_w]
    rfl
  refine one_ (i := 6) (N := none) #[true, true, true, true, true, true, true] rfl rfl (by kernel_rfl) (by decide) (fun K hK => ?_)
  obtain ⟨w4, hrun, ho, ht⟩ := T3.out.drew.of.drop keyI Try.underlying60 (keyOf_i HB.out) 0
  have hT' := Aside0.mk (T3.out.drew.turn2 (Nat.le_refl m) ho ht)
  have he' := ht.grown.cell (a := ⟨w1.heap.size, 1, none⟩) he (fun e => HL.out (Option.some.inj e).symm)
  have BB4 := Aside0.mk (fun (B : Nat) (x : B ≤ p) (y : B ≤ b1) (z : B ≤ b2) => below_turned (BB3.out B x y z).drew (by have := blk_lt T3.out.head; show B ≤ w3.heap.size; omega) ht z)
  have S4 := Aside0.mk (show w.heap.size ≤ w4.heap.size from Nat.le_trans S3.out ht.grown.size)
  have FF4 := Aside0.mk (fun (k : Nat) (hk : k < w.heap.size) (n1 : k ≠ b1) (n2 : k ≠ b2) => (ht.grown.block k (Nat.lt_of_lt_of_le hk S3.out) (fun e => n2 (Option.some.inj e))).trans (FF3.out k hk n1))
  refine value_ (w1 := w4) (v := .tuple #[]) (by rfl) rfl (exec_delete rfl hrun) ?_
  clear hrun ho ht
  refine hK.out _ _ ⟨(by have h := blk_cell hT'.out.head 0; exact h), (by have h := blk_cell hT'.out.head 1; exact h), (by have h := blk_cell hT'.out.head 2; exact h), (by first | assumption | exact he')⟩ (fun hHeld => ?_)
  clear hK K
  refine done_ (by kernel_rfl) ?_
  go_wp2
  go_ret2
  exact ⟨rfl, hT'.out, BB4.out, S4.out, FF4.out⟩
end Go.Proofs.Ytikbgoppmailjaa.H
