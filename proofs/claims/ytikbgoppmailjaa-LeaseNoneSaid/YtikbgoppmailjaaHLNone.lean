import Derived.Test.YtikbgoppmailjaaHLs8
/- LeaseNone: of nil nothing is told; of a table without leases likewise. -/
namespace Go.Proofs.Ytikbgoppmailjaa.H
open Go.RowKit Go.HK Go.Maps Go.WideShapes Go.ChangeShapes Go.Proofs.YtikbgoppmailjaaW.PrintWords Go.Proofs.YtikbgoppmailjaaW.PrintLast Go.Proofs.YtikbgoppmailjaaW.PrintMore
set_option linter.unusedVariables false
set_option linter.unusedSimpArgs false
theorem lit_zero {k : Lit} {c : Int} (h : (DataW.map [] : DataW Unit).atKey k (.lit (.int .i64 0)) = .lit (.int .i64 c)) : c = 0 := by
  rw [atKey_of_not_has (has_empty _)] at h
  injection h with h
  injection h with _ h
  exact h.symm
set_option maxRecDepth 100000 in
set_option maxHeartbeats 4000000 in
theorem leaseNone_calls {w : World} {x0 x1 x2 : Int} (h0 : (Lit.int .i64 x0).wf = true) (h1 : (Lit.int .i64 x1).wf = true) (h2 : (Lit.int .u64 x2).wf = true) : Calls Try.prog 7 #[.int .i64 x0, .int .i64 x1, .int .u64 x2] w fun e w' => e = .returned (.bool true) ∧ Below w.heap.size w w' := by
  have WN := Aside0.mk h0
  have WJ := Aside0.mk h1
  clear h0 h1 h2
  go_enter Try.func7, Try.ntmps7
  go_wp2_with (first
    | (go_at_call 9; refine (grant_nil).mono ?_; rintro e z ⟨hz, rfl⟩; obtain rfl := hz.symm)
    | (go_at_call 8; refine (new_calls w).mono ?_; rintro e y0 ⟨rfl, hT, hb, hs⟩; have TT := Aside0.mk hT; have WW := Aside0.mk hb; clear hT hb hs))
  have hb := (Below.refl y0.heap.size y0).alloc (Nat.le_refl _) (.cells #[.pointer none, .pointer (some ⟨w.heap.size + 2, 0, none⟩)] 23)
  have T1 := Aside0.mk (TT.out.keep hb)
  have W1 := Aside0.mk (WW.out.trans (hb.mono WW.out.size))
  have R1 := Aside0.mk (heap_alloc_last y0 (.cells #[.pointer none, .pointer (some ⟨w.heap.size + 2, 0, none⟩)] 23))
  have r0 := blk_cell R1.out 0
  clear hb
  generalize y0.heap.size = r at R1 r0 ⊢
  refine wp_loop_rounds 3 ?_
  rw [rounds_succ]
  go_wp2_with (first
    | (go_at_call 15; refine (len_nil).mono ?_; rintro e z ⟨hz, rfl⟩; obtain rfl := hz.symm)
    | (go_at_call 16; refine (list_nil).mono ?_; rintro e y2 ⟨hz, rfl⟩; obtain rfl := hz.symm; have T2 := T1c; have R2 := R1c; have W2 := W1c)
    | (go_at_call 12; refine (over_nil).mono ?_; rintro e y1c ⟨rfl, hb⟩; have T1c := Aside0.mk (T1b.out.keep hb); have R1c := Aside0.mk ((hb.block _ (blk_lt R1b.out)).trans R1b.out); have W1c := Aside0.mk (W1b.out.trans (hb.mono W1b.out.size)); clear hb)
    | (go_at_call 10; refine (drop_nil).mono ?_; rintro e y1b ⟨hb, rfl⟩; have T1b := Aside0.mk (T1a.out.keep hb); have R1b := Aside0.mk ((hb.block _ (blk_lt R1a.out)).trans R1a.out); have W1b := Aside0.mk (W1a.out.trans (hb.mono W1a.out.size)); have X1b := Aside0.mk ((hb.block _ (blk_lt X1a.out)).trans X1a.out); have l0 := blk_cell X1b.out 0; have l1 := blk_cell X1b.out 1; have l2 := blk_cell X1b.out 2; clear hb)
    | (go_at_call 17; refine (of_nil).mono ?_; rintro e z ⟨hz, rfl⟩; obtain rfl := hz.symm)
    | (go_at_call 14; refine (look_nil).mono ?_; rintro e y1a ⟨hb0, rfl⟩; have hb := hb0.alloc hb0.size (.cells #[.int .i64 0, .int .i64 0, .int .u64 0] 38); have X1a := Aside0.mk (heap_alloc_last y1a (.cells #[.int .i64 0, .int .i64 0, .int .u64 0] 38)); have T1a := Aside0.mk (T1.out.keep hb); have R1a := Aside0.mk ((hb.block _ (blk_lt R1.out)).trans R1.out); have W1a := Aside0.mk (W1.out.trans (hb.mono W1.out.size)); clear hb hb0))
  have r1 := blk_cell R2.out 1
  rw [rounds_succ]
  go_wp2_with (first
    | (go_at_call 15; refine (len_calls T3.out).mono ?_; rintro e z ⟨hz, rfl⟩; obtain rfl := hz.symm)
    | (go_at_call 16; refine (list_none T2c.out).mono ?_; rintro e y3 ⟨rfl, hb⟩; have T3 := Aside0.mk (T2c.out.keep hb); have R3 := Aside0.mk ((hb.block _ (blk_lt R2c.out)).trans R2c.out); have W3 := Aside0.mk (W2c.out.trans (hb.mono W2c.out.size)); clear hb)
    | (go_at_call 12; refine (over_none T2b.out).mono ?_; rintro e y2c ⟨rfl, hb⟩; have T2c := Aside0.mk (T2b.out.keep hb); have R2c := Aside0.mk ((hb.block _ (blk_lt R2b.out)).trans R2b.out); have W2c := Aside0.mk (W2b.out.trans (hb.mono W2b.out.size)); clear hb)
    | (go_at_call 10; refine (drop_none T2a.out WN.out (has_empty _)).mono ?_; rintro e y2b ⟨hb, rfl⟩; have T2b := Aside0.mk (T2a.out.keep hb); have R2b := Aside0.mk ((hb.block _ (blk_lt R2a.out)).trans R2a.out); have W2b := Aside0.mk (W2a.out.trans (hb.mono W2a.out.size)); have X2b := Aside0.mk ((hb.block _ (blk_lt X2a.out)).trans X2a.out); have l0 := blk_cell X2b.out 0; have l1 := blk_cell X2b.out 1; have l2 := blk_cell X2b.out 2; clear hb)
    | (go_at_call 17; refine (of_calls T2a.out WJ.out).mono ?_; rintro e z ⟨hz, c, rfl, hat, hwc⟩; obtain rfl := hz.symm; obtain rfl := lit_zero hat; rw [has_empty]; clear hat hwc)
    | (go_at_call 14; refine (look_calls T2.out WN.out).mono ?_; rintro e y2a ⟨hb0, a, b, c, rfl, hat⟩; obtain ⟨rfl, rfl, rfl⟩ := gd_inj (hat.symm.trans (atKey_of_not_has (has_empty _) _)); rw [has_empty]; clear hat; have hb := hb0.alloc hb0.size (.cells #[.int .i64 0, .int .i64 0, .int .u64 0] 38); have X2a := Aside0.mk (heap_alloc_last y2a (.cells #[.int .i64 0, .int .i64 0, .int .u64 0] 38)); have T2a := Aside0.mk (T2.out.keep hb); have R2a := Aside0.mk ((hb.block _ (blk_lt R2.out)).trans R2.out); have W2a := Aside0.mk (W2.out.trans (hb.mono W2.out.size)); clear hb hb0))
  rw [rounds_succ]
  go_wp2_with (go_at_call 13; refine (wakes_calls).mono ?_; rintro e z ⟨rfl, hb⟩; have WZ := Aside0.mk (W3.out.trans (hb.mono W3.out.size)); clear hb)
  go_ret
  exact ⟨rfl, WZ.out⟩
end Go.Proofs.Ytikbgoppmailjaa.H
