import Derived.Test.YtikbgoppmailjaaHLs6
/- Over: the leases that are over go: of nil, of none, of one that is over. -/
namespace Go.Proofs.Ytikbgoppmailjaa.H
open Go.RowKit Go.HK Go.Maps Go.WideShapes Go.ChangeShapes Go.Proofs.YtikbgoppmailjaaW.PrintWords Go.Proofs.YtikbgoppmailjaaW.PrintLast Go.Proofs.YtikbgoppmailjaaW.PrintMore
set_option linter.unusedVariables false
set_option linter.unusedSimpArgs false
set_option maxRecDepth 100000 in
theorem over_nil {w : World} {u : Int} : Calls Try.prog 12 #[.pointer none, .int .u64 u] w fun e w' => e = .returned (.slice none 0 0) ∧ Below w.heap.size w w' := by
  have BL := Aside0.mk ((Below.refl w.heap.size w).alloc (Nat.le_refl _) (.cells #[.int .u64 u] 28))
  go_enter Try.func12, Try.ntmps12
  go_wp2_with (first
    | (go_at_call 16; refine (list_nil).mono ?_; rintro e w1 ⟨rfl, rfl⟩)
    | (go_at_call 24; refine (delete_none).mono ?_; rintro e w1 ⟨rfl, rfl⟩)
    | (go_at_call 26; refine (sort_none).mono ?_; rintro e w1 ⟨rfl, rfl⟩))
  refine wp_loop_rounds 1 ?_
  rw [rounds_succ]
  go_wp2_with (go_at_call 29; refine (clone_none).mono ?_; rintro e w1 ⟨rfl, rfl⟩)
  go_ret
  exact ⟨rfl, BL.out⟩
set_option maxRecDepth 100000 in
theorem over_none {w : World} {p : Nat} {n : Int} {b1 b2 m : Nat} {D2 : DataW Unit} (T : TabAt w p n b1 b2 m (.map []) D2) {u : Int} : Calls Try.prog 12 #[.pointer (some ⟨p, 0, none⟩), .int .u64 u] w fun e w' => e = .returned (.slice none 0 0) ∧ Below w.heap.size w w' := by
  have BL := Aside0.mk ((Below.refl w.heap.size w).alloc (Nat.le_refl _) (.cells #[.int .u64 u] 28))
  have T1 := Aside0.mk (T.keep ((Below.refl w.heap.size w).alloc (Nat.le_refl _) (.cells #[.int .u64 u] 28)))
  clear T
  go_enter Try.func12, Try.ntmps12
  go_wp2_with (first
    | (go_at_call 16; refine (list_none T1.out).mono ?_; rintro e w1 ⟨rfl, hb⟩; have BL1 := Aside0.mk (BL.out.trans (hb.mono BL.out.size)); clear hb)
    | (go_at_call 24; refine (delete_none).mono ?_; rintro e w1 ⟨rfl, rfl⟩)
    | (go_at_call 26; refine (sort_none).mono ?_; rintro e w1 ⟨rfl, rfl⟩))
  refine wp_loop_rounds 1 ?_
  rw [rounds_succ]
  go_wp2_with (go_at_call 29; refine (clone_none).mono ?_; rintro e w1 ⟨rfl, rfl⟩)
  go_ret
  exact ⟨rfl, BL1.out⟩
theorem has_one {k : Lit} {d : DataW Unit} (hk : WideAt.IsKeyLit k) : has (DataW.map [(k, d)] : DataW Unit) k = true := has_put_same isMap_empty hk d
set_option maxRecDepth 100000 in
set_option maxHeartbeats 2000000 in
theorem over_one {w : World} {p : Nat} {n : Int} {b1 b2 m : Nat} {j b c : Int} {D2 : DataW Unit} (T : TabAt w p n b1 b2 m (.map [(kk j, gd j b c)]) D2) (hj : (Lit.int .i64 j).wf = true) (hb : (Lit.int .i64 b).wf = true) {u : Int} (hc : c ≤ u) :
    Calls Try.prog 12 #[.pointer (some ⟨p, 0, none⟩), .int .u64 u] w fun e w' => ∃ v, e = .returned v ∧ w'.ownsRow w.heap.size 38 3 v 1 [.int .i64 j, .int .i64 b, .int .u64 c] ∧ TabAt w' p n b1 b2 m ((DataW.map [(kk j, gd j b c)]).del (kk j)) (D2.del (kk b)) ∧ ∀ B, B ≤ p → B ≤ b1 → B ≤ b2 → Below B w w' := by
  have BL := Aside0.mk ((Below.refl w.heap.size w).alloc (Nat.le_refl _) (.cells #[.int .u64 u] 28))
  have T1 := Aside0.mk (T.keep ((Below.refl w.heap.size w).alloc (Nat.le_refl _) (.cells #[.int .u64 u] 28)))
  have Q1 := Aside0.mk (show (w.alloc (.cells #[.int .u64 u] 28)).cell? ⟨w.heap.size, 0, none⟩ = some (.int .u64 u) from by rw [blk_cell (heap_alloc_last _ _)]; rfl)
  have L1 := Aside0.mk (show w.heap.size < (w.alloc (.cells #[.int .u64 u] 28)).heap.size from by simp)
  have P1 := Aside0.mk (And.intro (blk_lt T.head) (And.intro T.all.lt T.of.lt))
  have HJ := Aside0.mk hj
  have HB := Aside0.mk hb
  have HC := Aside0.mk hc
  clear T hj hb hc
  go_enter Try.func12, Try.ntmps12
  go_wp2_with (first
    | (go_at_call 16; refine (list_one T1.out HJ.out).mono ?_; rintro e w2 ⟨v, rfl, hv, hb⟩; obtain ⟨g, cap, rfl, hg, c0, c1, c2⟩ := owns_one hv; have G2 := Aside0.mk hg; have C0 := Aside0.mk c0; have C1 := Aside0.mk c1; have C2 := Aside0.mk c2; have BL2 := Aside0.mk hb; have T2 := Aside0.mk (T1.out.keep hb); have Q2 := Aside0.mk ((hb.cell (p := ⟨w.heap.size, 0, none⟩) L1.out).trans Q1.out); have L2 := Aside0.mk (Nat.lt_of_lt_of_le L1.out hb.size); clear hv hb hg c0 c1 c2)
    | (go_at_call 24; refine (delete_one Q2.out L2.out HC.out C0.out C1.out C2.out).mono ?_; rintro e w3 ⟨hb, rfl⟩; have gl := World.block_lt_of_cell? _ _ C0.out; have D0 := Aside0.mk ((hb.cell (p := ⟨g, 0, none⟩) gl).trans C0.out); have E1 := Aside0.mk ((hb.cell (p := ⟨g, 1, none⟩) gl).trans C1.out); have E2 := Aside0.mk ((hb.cell (p := ⟨g, 2, none⟩) gl).trans C2.out); have BL3 := Aside0.mk hb; have T3 := Aside0.mk (T2.out.keep hb); have GL3 := Aside0.mk (Nat.lt_of_lt_of_le gl hb.size); clear hb gl)
    | (go_at_call 26; refine (sort_one).mono ?_; rintro e w4 ⟨rfl, rfl⟩))
  have d0 := D0.out
  have d1 := E1.out
  have d2 := E2.out
  have e1 : (w.alloc (.cells #[.int .u64 u] 28)).heap.size = w.heap.size + 1 := by simp
  have B4 := Aside0.mk (BL.out.trans ((BL2.out.mono (B' := w.heap.size) (by omega)).trans (BL3.out.mono (B' := w.heap.size) (by have := BL2.out.size; omega))))
  have B5 := Aside0.mk ((Below.refl w4.heap.size w4).alloc (Nat.le_refl _) (.cells #[.int .i64 j, .int .i64 b, .int .u64 c] 38))
  have T4 := Aside0.mk (T3.out.keep B5.out)
  have N4 := Aside0.mk (show g ≠ b1 ∧ g ≠ b2 by have h1 := P1.out; have h2 := G2.out; constructor <;> omega)
  clear e1
  refine wp_loop_rounds 2 ?_
  rw [rounds_succ]
  go_wp2_with (go_at_call 10; refine (drop_some T4.out HJ.out (has_one (keyI.1 (keyOf_i HJ.out))) (atKey_one (keyI.1 (keyOf_i HJ.out))) HB.out).mono ?_; rintro e w5 ⟨rfl, hT, hbl, hs, hf⟩; have T5 := Aside0.mk hT; have F5 := Aside0.mk hbl; have S5 := Aside0.mk hs; have hg := hf g (Nat.lt_of_lt_of_le GL3.out B5.out.size) N4.out.1 N4.out.2; have D5 := Aside0.mk ((World.cell?_of_block (a := ⟨g, 0, none⟩) hg).trans ((B5.out.cell (p := ⟨g, 0, none⟩) GL3.out).trans D0.out)); have E5 := Aside0.mk ((World.cell?_of_block (a := ⟨g, 1, none⟩) hg).trans ((B5.out.cell (p := ⟨g, 1, none⟩) GL3.out).trans E1.out)); have G5 := Aside0.mk ((World.cell?_of_block (a := ⟨g, 2, none⟩) hg).trans ((B5.out.cell (p := ⟨g, 2, none⟩) GL3.out).trans E2.out)); clear hT hbl hs hf hg)
  rw [rounds_succ]
  go_wp2_with (go_at_call 29; refine (clone_one D5.out E5.out G5.out).mono ?_; rintro e w6 ⟨v, rfl, hv, hb⟩; have V6 := Aside0.mk hv; have H6 := Aside0.mk hb; clear hv hb)
  go_ret
  have z4 := B4.out.size
  have z5 := B5.out.size
  have z6 := S5.out
  refine ⟨_, rfl, owns_base V6.out (by omega), T5.out.keep H6.out, fun B x y z => ?_⟩
  have h1 := P1.out
  exact (B4.out.mono (by omega)).trans ((B5.out.mono (by omega)).trans ((F5.out B x y z).trans (H6.out.mono (by omega))))
end Go.Proofs.Ytikbgoppmailjaa.H
