import Derived.Test.YtikbgoppmailjaaHLs7
/- The chapter's examples. -/
namespace Go.Proofs.Ytikbgoppmailjaa.H
open Go.RowKit Go.HK Go.Maps Go.WideShapes Go.ChangeShapes Go.Proofs.YtikbgoppmailjaaW.PrintWords Go.Proofs.YtikbgoppmailjaaW.PrintLast Go.Proofs.YtikbgoppmailjaaW.PrintMore
set_option linter.unusedVariables false
set_option linter.unusedSimpArgs false
theorem w7 : (Lit.int .i64 7).wf = true := by decide
theorem w1 : (Lit.int .i64 1).wf = true := by decide
theorem has_empty (k : Lit) : has (DataW.map [] : DataW Unit) k = false := rfl
theorem put_empty (k : Lit) (d : DataW Unit) : (DataW.map []).put k d = .map [(k, d)] := rfl
set_option maxRecDepth 100000 in
set_option maxHeartbeats 4000000 in
theorem wakes_calls {w : World} : Calls Try.prog 13 #[] w fun e w' => e = .returned (.bool true) ∧ Below w.heap.size w w' := by
  have hk7 := keyI.1 (keyOf_i w7)
  have hk1 := keyI.1 (keyOf_i w1)
  have K7 := Aside0.mk hk7
  clear hk7 hk1
  go_enter Try.func13, Try.ntmps13
  go_wp2_with (first
    | (go_at_call 9; refine (grant_new T4.out (j := 7) (u := 40) w7 (by omega) (by omega) (by unfold maxLen; omega) has_del_same).mono ?_; rintro e w5 ⟨rfl, hT, hbl, hs, hf⟩; have F5 := Aside0.mk hbl; have V0 := Aside0.mk ((World.cell?_of_block (a := ⟨g, 0, none⟩) (hf g GL.out N4.out.1 N4.out.2.1 N4.out.2.2)).trans C0.out); have V1 := Aside0.mk ((World.cell?_of_block (a := ⟨g, 1, none⟩) (hf g GL.out N4.out.1 N4.out.2.1 N4.out.2.2)).trans C1.out); have V2 := Aside0.mk ((World.cell?_of_block (a := ⟨g, 2, none⟩) (hf g GL.out N4.out.1 N4.out.2.1 N4.out.2.2)).trans C2.out); have v0 := V0.out; have v1 := V1.out; have v2 := V2.out; clear hT hbl hs hf)
    | (go_at_call 12; refine (over_one T2.out w1 w7 (by omega)).mono ?_; rintro e w4 ⟨v, rfl, hv, hT, hbl⟩; obtain ⟨g, cap, rfl, hg, c0, c1, c2⟩ := owns_one hv; have C0 := Aside0.mk c0; have C1 := Aside0.mk c1; have C2 := Aside0.mk c2; have GL := Aside0.mk (World.block_lt_of_cell? _ _ c0); have T4 := Aside0.mk hT; have F4 := Aside0.mk hbl; have N4 := Aside0.mk (show g ≠ w.heap.size + 2 ∧ g ≠ w.heap.size ∧ g ≠ w.heap.size + 1 from by have h1 := blk_lt T2.out.head; refine ⟨?_, ?_, ?_⟩ <;> omega); clear hv hT hbl hg c0 c1 c2)
    | (go_at_call 9; refine (grant_had T2.out (u := 30) w7 (has_one K7.out)).mono ?_; rintro e w3 ⟨rfl, rfl⟩; have DONE := Aside0.mk True.intro)
    | (go_at_call 9; refine (grant_new T1.out (j := 7) (u := 20) w7 (by omega) (by omega) (by unfold maxLen; omega) (has_empty _)).mono ?_; rintro e w2 ⟨rfl, hT, hbl, hs, hf⟩; have T2 := Aside0.mk hT; have F2 := Aside0.mk hbl; clear hT hbl hs hf)
    | (go_at_call 8; refine (new_calls w).mono ?_; rintro e w1' ⟨rfl, hT, hb, hs⟩; have T1 := Aside0.mk hT; have B1 := Aside0.mk hb; clear hT hb hs))
  go_ret
  exact ⟨rfl, B1.out.trans ((F2.out _ (by omega) (Nat.le_refl _) (by omega)).trans ((F4.out _ (by omega) (Nat.le_refl _) (by omega)).trans (F5.out _ (by omega) (Nat.le_refl _) (by omega))))⟩
end Go.Proofs.Ytikbgoppmailjaa.H
