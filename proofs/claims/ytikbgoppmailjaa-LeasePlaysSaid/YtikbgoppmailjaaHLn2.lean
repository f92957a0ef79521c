import Derived.Test.YtikbgoppmailjaaHLn1
import Derived.Test.YtikbgoppmailjaaHOpen
/- LeaseNumbers, for every list of acts; an act's kind. -/
namespace Go.Proofs.Ytikbgoppmailjaa.H
open Go.RowKit Go.HK Go.Maps Go.Lib Go.WideShapes Go.ChangeShapes Go.Proofs.YtikbgoppmailjaaW.PrintWords Go.Proofs.YtikbgoppmailjaaW.PrintLast Go.Proofs.YtikbgoppmailjaaW.PrintMore
set_option linter.unusedVariables false
set_option linter.unusedSimpArgs false
/-- An act: what is done, of which job, till when. -/
def actK : Kd (Int × Int × Int) := Kd.iso (Kd.pair (Kd.int .i64) (Kd.pair (Kd.int .i64) (Kd.int .u64))) id
theorem act_cells {w : World} {A : Option Addr} {l : List (Int × Int × Int)} (h : actK.C w A l.length l) (h0 : 0 < l.length) : ∃ a, A = some a ∧ ∀ i x, l[i]? = some x → w.cell? (a.add (i * 3 + 0)) = some (.int .i64 x.1) ∧ w.cell? (a.add (i * 3 + 1)) = some (.int .i64 x.2.1) ∧ w.cell? (a.add (i * 3 + 2)) = some (.int .u64 x.2.2) := by
  obtain ⟨a, ha, hc⟩ := h.2.2 h0
  refine ⟨a, ha, fun i x hx => ?_⟩
  obtain ⟨c, h1, ⟨c0, c1, e0, k0, c2, c3, e1, k1, k2⟩, h3⟩ := hc i x hx
  have q0 : c0 = [Value.int .i64 x.1] := k0
  have q1 : c2 = [Value.int .i64 x.2.1] := k1
  have q2 : c3 = [Value.int .u64 x.2.2] := k2
  subst e1 q0 q1 q2
  subst e0
  exact ⟨h3 0 _ rfl, h3 1 _ rfl, h3 2 _ rfl⟩
set_option maxRecDepth 100000 in
set_option maxHeartbeats 4000000 in
theorem num_none {w : World} {A : Option Addr} {cap : Nat} {num : Int} (hn : (Lit.int .i64 num).wf = true) : Calls Try.prog 3 #[.slice A 0 cap, .int .i64 num] w fun e w' => e = .returned (.bool true) ∧ Below w.heap.size w w' := by
  have WN := Aside0.mk hn
  clear hn
  go_enter Try.func3, Try.ntmps3
  go_wp2_with (go_at_call 8; refine (new_l w).mono ?_; rintro e w2 ⟨rfl, hT, hb, hs⟩; have T2 := Aside0.mk hT; have B2 := Aside0.mk hb; clear hT hb hs)
  refine wp_loop_rounds (0 + 1) ?_
  rw [rounds_succ]
  have NG : Aside0 (∀ g ∈ ([] : List G3), g.1 ≠ num) := ⟨fun g hg => (List.not_mem_nil hg).elim⟩
  by_cases c1 : 1 ≤ num
  · go_wp2_with (first
    | (go_at_call 13; refine (wakes_calls).mono ?_; rintro e z ⟨rfl, hb⟩; have WZ := Aside0.mk (B4.out.trans (hb.mono B4.out.size)); clear hb)
    | (go_at_call 10; refine (drop_l_none T3.out WN.out NG.out).mono ?_; rintro e w4 ⟨hb, rfl⟩; have B4 := Aside0.mk (B3.out.trans (hb.mono B3.out.size)); have X4 := Aside0.mk ((hb.block _ (blk_lt X3.out)).trans X3.out); have l0 := blk_cell X4.out 0; have l1 := blk_cell X4.out 1; have l2 := blk_cell X4.out 2; clear hb)
    | (go_at_call 14; refine (look_l_none T2.out WN.out NG.out).mono ?_; rintro e w3 ⟨hb0, rfl⟩; have hb := hb0.alloc hb0.size (.cells #[.int .i64 0, .int .i64 0, .int .u64 0] 38); have X3 := Aside0.mk (heap_alloc_last w3 (.cells #[.int .i64 0, .int .i64 0, .int .u64 0] 38)); have T3 := Aside0.mk (T2.out.keep hb); have B3 := Aside0.mk (B2.out.trans (hb.mono B2.out.size)); clear hb hb0))
    go_ret
    exact ⟨rfl, WZ.out⟩
  · go_wp2_with (first
    | (go_at_call 13; refine (wakes_calls).mono ?_; rintro e z ⟨rfl, hb⟩; have WZ := Aside0.mk (B4.out.trans (hb.mono B4.out.size)); clear hb)
    | (go_at_call 10; refine (drop_l_none T3.out WN.out NG.out).mono ?_; rintro e w4 ⟨hb, rfl⟩; have B4 := Aside0.mk (B3.out.trans (hb.mono B3.out.size)); have X4 := Aside0.mk ((hb.block _ (blk_lt X3.out)).trans X3.out); have l0 := blk_cell X4.out 0; have l1 := blk_cell X4.out 1; have l2 := blk_cell X4.out 2; clear hb)
    | (go_at_call 14; refine (look_l_none T2.out WN.out NG.out).mono ?_; rintro e w3 ⟨hb0, rfl⟩; have hb := hb0.alloc hb0.size (.cells #[.int .i64 0, .int .i64 0, .int .u64 0] 38); have X3 := Aside0.mk (heap_alloc_last w3 (.cells #[.int .i64 0, .int .i64 0, .int .u64 0] 38)); have T3 := Aside0.mk (T2.out.keep hb); have B3 := Aside0.mk (B2.out.trans (hb.mono B2.out.size)); clear hb hb0))
    go_ret
    exact ⟨rfl, WZ.out⟩
theorem leaseNumbers_calls {w : World} {A : Option Addr} {cap : Nat} {l : List (Int × Int × Int)} {num : Int} (hC : actK.C w A l.length l) (hm : l.length ≤ maxLen) (hw : ∀ x ∈ l, (Lit.int .i64 x.1).wf = true ∧ (Lit.int .i64 x.2.1).wf = true ∧ (Lit.int .u64 x.2.2).wf = true) (hn : (Lit.int .i64 num).wf = true) :
    Calls Try.prog 3 #[.slice A l.length cap, .int .i64 num] w fun e w' => e = .returned (.bool true) ∧ Below w.heap.size w w' := by
  by_cases h0 : 0 < l.length
  · obtain ⟨a, rfl, hc⟩ := act_cells hC h0
    refine num_some (fun i hi => ?_) hm hn
    obtain ⟨h1, h2, h3⟩ := hc i _ (List.getElem?_eq_getElem hi)
    exact ⟨_, _, _, h1, h2, h3, (hw _ (List.getElem_mem hi)).2.1⟩
  · obtain rfl : l = [] := List.length_eq_zero_iff.1 (by omega)
    exact num_none hn
end Go.Proofs.Ytikbgoppmailjaa.H
