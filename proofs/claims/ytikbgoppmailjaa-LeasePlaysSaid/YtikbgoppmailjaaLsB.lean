import Derived.Test.YtikbgoppmailjaaHLs5
import Derived.WalkSpells
import Derived.Deep.MidRow
import Derived.Lib.SliceRun
/- Over's parts: what deletes, sorts and clones rows of none or one. -/
namespace Go.Proofs.Ytikbgoppmailjaa.H
open Go.RowKit Go.HK Go.Maps Go.WideShapes Go.ChangeShapes Go.Proofs.YtikbgoppmailjaaW.PrintWords Go.Proofs.YtikbgoppmailjaaW.PrintLast Go.Proofs.YtikbgoppmailjaaW.PrintMore
set_option linter.unusedVariables false
set_option linter.unusedSimpArgs false
theorem owns_one {w : World} {B : Nat} {v : Value} {a b c : Int} (h : w.ownsRow B 38 3 v 1 [.int .i64 a, .int .i64 b, .int .u64 c]) : ∃ g cap, v = .slice (some ⟨g, 0, none⟩) 1 cap ∧ B ≤ g ∧ w.cell? ⟨g, 0, none⟩ = some (.int .i64 a) ∧ w.cell? ⟨g, 1, none⟩ = some (.int .i64 b) ∧ w.cell? ⟨g, 2, none⟩ = some (.int .u64 c) := by
  rcases h.2 with ⟨rfl, hz⟩ | ⟨g, cap, cur, rfl, hbase, hg, r1, r2, r3, r4⟩
  · exact absurd hz (by simp)
  · have key : ∀ i, i < 3 → cur[i]? = ([.int .i64 a, .int .i64 b, .int .u64 c] : List Value)[i]? := by
      intro i hi
      rw [← r4, List.getElem?_take_of_lt (by omega), Array.getElem?_toList]
    refine ⟨g, cap, rfl, hbase, ?_, ?_, ?_⟩
    · rw [blk_cell hg 0, key 0 (by omega)]; rfl
    · rw [blk_cell hg 1, key 1 (by omega)]; rfl
    · rw [blk_cell hg 2, key 2 (by omega)]; rfl
set_option maxRecDepth 100000 in
theorem late_calls {w : World} {q : Nat} {a b c now : Int} (hq : w.cell? ⟨q, 0, none⟩ = some (.int .u64 now)) (hl : q < w.heap.size) (hc : c ≤ now) :
    Calls Try.prog 25 #[gv a b c, .pointer (some ⟨q, 0, none⟩)] w fun e w' => e = .returned (.bool false) ∧ Below w.heap.size w w' := by
  have BL := Aside0.mk ((Below.refl w.heap.size w).alloc (Nat.le_refl _) (.cells #[.int .i64 a, .int .i64 b, .int .u64 c] 38))
  have hq2 : (w.alloc (.cells #[.int .i64 a, .int .i64 b, .int .u64 c] 38)).cell? ⟨q, 0, none⟩ = some (.int .u64 now) := by
    rw [World.cell?_alloc_lt _ _ _ hl]; exact hq
  go_enter Try.func25, Try.ntmps25
  go_wp2
  go_ret
  refine ⟨?_, BL.out⟩
  simp; omega
set_option maxRecDepth 100000 in
theorem index_none {w : World} {f : Value} : Calls Try.prog 32 #[.slice none 0 0, f] w fun e w' => w' = w ∧ e = .returned (.int .i64 (-1)) := by
  go_enter Try.func32, Try.ntmps32
  go_wp2
  refine wp_loop_rounds 1 ?_
  rw [rounds_succ]
  go_wp2
  go_ret
  exact ⟨rfl, rfl⟩
set_option maxRecDepth 100000 in
theorem index_one {w : World} {q g cap : Nat} {a b c now : Int} (hq : w.cell? ⟨q, 0, none⟩ = some (.int .u64 now)) (hl : q < w.heap.size) (hc : c ≤ now) (c0 : w.cell? ⟨g, 0, none⟩ = some (.int .i64 a)) (c1 : w.cell? ⟨g, 1, none⟩ = some (.int .i64 b)) (c2 : w.cell? ⟨g, 2, none⟩ = some (.int .u64 c)) :
    Calls Try.prog 32 #[.slice (some ⟨g, 0, none⟩) 1 cap, .func (.func 25) #[] #[.pointer (some ⟨q, 0, none⟩)]] w fun e w' => Below w.heap.size w w' ∧ e = .returned (.int .i64 (-1)) := by
  have HQ := Aside0.mk hq
  have HL := Aside0.mk hl
  have HC := Aside0.mk hc
  clear hq hl hc
  go_enter Try.func32, Try.ntmps32
  go_wp2
  refine wp_loop_rounds 2 ?_
  rw [rounds_succ]
  go_wp2_with (go_at_call 25; refine (late_calls HQ.out HL.out HC.out).mono ?_; rintro e w1 ⟨rfl, hb⟩; have BL := Aside0.mk hb; clear hb)
  rw [rounds_succ]
  go_wp2
  go_ret
  exact ⟨BL.out, rfl⟩
set_option maxRecDepth 100000 in
theorem delete_none {w : World} {f : Value} : Calls Try.prog 24 #[.slice none 0 0, f] w fun e w' => w' = w ∧ e = .returned (.slice none 0 0) := by
  go_enter Try.func24, Try.ntmps24
  go_wp2_with (go_at_call 32; refine (index_none).mono ?_; rintro e w1 ⟨rfl, rfl⟩)
  go_ret
  exact ⟨rfl, rfl⟩
set_option maxRecDepth 100000 in
theorem delete_one {w : World} {q g cap : Nat} {a b c now : Int} (hq : w.cell? ⟨q, 0, none⟩ = some (.int .u64 now)) (hl : q < w.heap.size) (hc : c ≤ now) (c0 : w.cell? ⟨g, 0, none⟩ = some (.int .i64 a)) (c1 : w.cell? ⟨g, 1, none⟩ = some (.int .i64 b)) (c2 : w.cell? ⟨g, 2, none⟩ = some (.int .u64 c)) :
    Calls Try.prog 24 #[.slice (some ⟨g, 0, none⟩) 1 cap, .func (.func 25) #[] #[.pointer (some ⟨q, 0, none⟩)]] w fun e w' => Below w.heap.size w w' ∧ e = .returned (.slice (some ⟨g, 0, none⟩) 1 cap) := by
  have HI := Aside0.mk (index_one (cap := cap) hq hl hc c0 c1 c2)
  clear hq hl hc c0 c1 c2
  go_enter Try.func24, Try.ntmps24
  go_wp2_with (go_at_call 32; refine HI.out.mono ?_; rintro e w1 ⟨hb, rfl⟩; have BL := Aside0.mk hb; clear hb)
  go_ret
  exact ⟨BL.out, rfl⟩
set_option maxRecDepth 100000 in
theorem insertion_short {w : World} {s f : Value} {n : Int} (h0 : 0 ≤ n) (h1 : n ≤ 1) : Calls Try.prog 38 #[s, .int .i64 0, .int .i64 n, f] w fun e w' => w' = w ∧ e = .returned (.tuple #[]) := by
  go_enter Try.func38, Try.ntmps38
  go_wp2
  refine wp_loop_rounds 1 ?_
  rw [rounds_succ]
  go_wp2
  go_end0
  exact ⟨rfl, rfl⟩
set_option maxRecDepth 100000 in
theorem stable_short {w : World} {s f : Value} {n : Int} (h0 : 0 ≤ n) (h1 : n ≤ 1) : Calls Try.prog 33 #[s, .int .i64 n, f] w fun e w' => w' = w ∧ e = .returned (.tuple #[]) := by
  go_enter Try.func33, Try.ntmps33
  go_wp2
  refine wp_loop_rounds 1 ?_
  rw [rounds_succ]
  go_wp2_with (go_at_call 38; refine (insertion_short h0 h1).mono ?_; rintro e w1 ⟨rfl, rfl⟩)
  refine wp_loop_rounds 1 ?_
  rw [rounds_succ]
  go_wp2
  go_end0
  exact ⟨rfl, rfl⟩
set_option maxRecDepth 100000 in
theorem sort_none {w : World} {f : Value} : Calls Try.prog 26 #[.slice none 0 0, f] w fun e w' => w' = w ∧ e = .returned (.tuple #[]) := by
  go_enter Try.func26, Try.ntmps26
  go_wp2_with (go_at_call 33; refine (stable_short (by omega) (by omega)).mono ?_; rintro e w1 ⟨rfl, rfl⟩)
  go_end0
  exact ⟨rfl, rfl⟩
set_option maxRecDepth 100000 in
theorem sort_one {w : World} {f : Value} {ad : Addr} {cap : Nat} : Calls Try.prog 26 #[.slice (some ad) 1 cap, f] w fun e w' => w' = w ∧ e = .returned (.tuple #[]) := by
  go_enter Try.func26, Try.ntmps26
  go_wp2_with (go_at_call 33; refine (stable_short (by omega) (by omega)).mono ?_; rintro e w1 ⟨rfl, rfl⟩)
  go_end0
  exact ⟨rfl, rfl⟩
theorem old_three {w : World} {g : Nat} {a b c : Int} {o : Obj} (c0 : w.cell? ⟨g, 0, none⟩ = some (.int .i64 a)) (c1 : w.cell? ⟨g, 1, none⟩ = some (.int .i64 b)) (c2 : w.cell? ⟨g, 2, none⟩ = some (.int .u64 c)) (j : Nat) (u : Value) (h : ([.int .i64 a, .int .i64 b, .int .u64 c] : List Value)[j]? = some u) : (w.alloc o).cell? ((⟨g, 0, none⟩ : Addr).add j) = some u := by
  have hl : g < w.heap.size := World.block_lt_of_cell? w _ c0
  rw [Addr.add_mid, World.cell?_alloc_lt _ _ _ hl]
  match j, h with
  | 0, h => rw [← h]; exact c0
  | 1, h => rw [← h]; exact c1
  | 2, h => rw [← h]; exact c2
  | k + 3, h => simp at h
set_option maxRecDepth 100000 in
theorem clone_none {w : World} : Calls Try.prog 29 #[.slice none 0 0] w fun e w' => w' = w ∧ e = .returned (.slice none 0 0) := by
  have hq : ∀ w, (binOp .eql 34 (.slice none 0 0) (.slice none 0 0)).run Try.prog w = .ok (.bool true) w := fun w => Lib.run_eql_slice_nil w 34 38 none 0 0 0 0 Try.underlying34
  go_enter Try.func29, Try.ntmps29
  go_wp2
  go_ret
  exact ⟨rfl, rfl⟩
set_option maxRecDepth 100000 in
theorem clone_one {w : World} {g cap : Nat} {a b c : Int} (c0 : w.cell? ⟨g, 0, none⟩ = some (.int .i64 a)) (c1 : w.cell? ⟨g, 1, none⟩ = some (.int .i64 b)) (c2 : w.cell? ⟨g, 2, none⟩ = some (.int .u64 c)) :
    Calls Try.prog 29 #[.slice (some ⟨g, 0, none⟩) 1 cap] w fun e w' => ∃ v, e = .returned v ∧ w'.ownsRow w.heap.size 38 3 v 1 [.int .i64 a, .int .i64 b, .int .u64 c] ∧ Below w.heap.size w w' := by
  obtain ⟨i0, hi, hz0, hz1, hz2⟩ := infoG
  have HI := Aside0.mk hi
  have HI0 := Aside0.mk hz0
  have HI1 := Aside0.mk hz1
  have HI2 := Aside0.mk hz2
  have HO := Aside0.mk (show (w.alloc (.cells #[] 38)).ownsRow w.heap.size 38 3 (.slice (some ⟨w.heap.size, 0, none⟩) 0 0) 0 [] from ⟨rfl, .inr ⟨w.heap.size, 0, #[], rfl, Nat.le_refl _, heap_alloc_last _ _, Nat.le_refl _, Nat.zero_le _, rfl, rfl⟩⟩)
  have HC := Aside0.mk (old_three (o := .cells #[] 38) c0 c1 c2)
  clear hi hz0 hz1 hz2 c0 c1 c2
  have hq : ∀ w, (binOp .eql 34 (.slice (some ⟨g, 0, none⟩) 1 cap) (.slice none 0 0)).run Try.prog w = .ok (.bool false) w := fun w => Lib.run_eql_slice_nil w 34 38 (some ⟨g, 0, none⟩) 1 cap 0 0 Try.underlying34
  go_enter Try.func29, Try.ntmps29
  go_wp2_with (at_builtin; refine wpList_append_own _ rfl _ _ 34 rfl w.heap.size 38 i0 (gv 0 0 0) 3 24 Try.underlying34 HI.out HI0.out HI1.out HI2.out rfl (by decide) (.slice (some ⟨w.heap.size, 0, none⟩) 0 0) 0 [] rfl HO.out ⟨g, 0, none⟩ 1 cap [.int .i64 a, .int .i64 b, .int .u64 c] rfl rfl HC.out (fun x hx => by simp at hx; rcases hx with rfl | rfl | rfl <;> rfl) (by unfold maxLen; omega) (by omega) (by simp) ?_; intro v' w3 hown' hgrow3 hnil3; have HO3 := Aside0.mk hown'; have HB3 := Aside0.mk (((Below.refl w.heap.size w).alloc (Nat.le_refl _) (.cells #[] 38)).grown hgrow3 (by simp) (fun k e => by have e2 : w.heap.size = k := Option.some.inj e; omega)); clear hown' hgrow3 hnil3)
  go_ret
  exact ⟨_, rfl, HO3.out, HB3.out⟩
end Go.Proofs.Ytikbgoppmailjaa.H
/- Over: the leases that are over go: of nil, of none, of one that is over. -/
namespace Go.Proofs.Ytikbgoppmailjaa.H
open Go.RowKit Go.HK Go.Maps Go.WideShapes Go.ChangeShapes Go.Proofs.YtikbgoppmailjaaW.PrintWords Go.Proofs.YtikbgoppmailjaaW.PrintLast Go.Proofs.YtikbgoppmailjaaW.PrintMore
set_option linter.unusedVariables false
set_option linter.unusedSimpArgs false
set_option maxRecDepth 100000 in
theorem over_nil {w : World} {u : Int} : Calls Try.prog 12 #[.pointer none, .int .u64 u] w fun e w' => e = .returned (.slice none 0 0) ∧ Below w.heap.size w w' := by
  have BL := Aside0.mk ((Below.refl w.heap.size w).alloc (Nat.le_refl _) (.cells #[.int .u64 u] 28))
  go_enter Try.func12, Try.ntmps12
  go_wp2_with (first
    | (go_at_call 16; refine (list_nil).mono ?_; rintro e w1 ⟨rfl, rfl⟩)
    | (go_at_call 24; refine (delete_none).mono ?_; rintro e w1 ⟨rfl, rfl⟩)
    | (go_at_call 26; refine (sort_none).mono ?_; rintro e w1 ⟨rfl, rfl⟩))
  refine wp_loop_rounds 1 ?_
  rw [rounds_succ]
  go_wp2_with (go_at_call 29; refine (clone_none).mono ?_; rintro e w1 ⟨rfl, rfl⟩)
  go_ret
  exact ⟨rfl, BL.out⟩
set_option maxRecDepth 100000 in
theorem over_none {w : World} {p : Nat} {n : Int} {b1 b2 m : Nat} {D2 : DataW Unit} (T : TabAt w p n b1 b2 m (.map []) D2) {u : Int} : Calls Try.prog 12 #[.pointer (some ⟨p, 0, none⟩), .int .u64 u] w fun e w' => e = .returned (.slice none 0 0) ∧ Below w.heap.size w w' := by
  have BL := Aside0.mk ((Below.refl w.heap.size w).alloc (Nat.le_refl _) (.cells #[.int .u64 u] 28))
  have T1 := Aside0.mk (T.keep ((Below.refl w.heap.size w).alloc (Nat.le_refl _) (.cells #[.int .u64 u] 28)))
  clear T
  go_enter Try.func12, Try.ntmps12
  go_wp2_with (first
    | (go_at_call 16; refine (list_none T1.out).mono ?_; rintro e w1 ⟨rfl, hb⟩; have BL1 := Aside0.mk (BL.out.trans (hb.mono BL.out.size)); clear hb)
    | (go_at_call 24; refine (delete_none).mono ?_; rintro e w1 ⟨rfl, rfl⟩)
    | (go_at_call 26; refine (sort_none).mono ?_; rintro e w1 ⟨rfl, rfl⟩))
  refine wp_loop_rounds 1 ?_
  rw [rounds_succ]
  go_wp2_with (go_at_call 29; refine (clone_none).mono ?_; rintro e w1 ⟨rfl, rfl⟩)
  go_ret
  exact ⟨rfl, BL1.out⟩
theorem has_one {k : Lit} {d : DataW Unit} (hk : WideAt.IsKeyLit k) : has (DataW.map [(k, d)] : DataW Unit) k = true := has_put_same isMap_empty hk d
set_option maxRecDepth 100000 in
set_option maxHeartbeats 2000000 in
theorem over_one {w : World} {p : Nat} {n : Int} {b1 b2 m : Nat} {j b c : Int} {D2 : DataW Unit} (T : TabAt w p n b1 b2 m (.map [(kk j, gd j b c)]) D2) (hj : (Lit.int .i64 j).wf = true) (hb : (Lit.int .i64 b).wf = true) {u : Int} (hc : c ≤ u) :
    Calls Try.prog 12 #[.pointer (some ⟨p, 0, none⟩), .int .u64 u] w fun e w' => ∃ v, e = .returned v ∧ w'.ownsRow w.heap.size 38 3 v 1 [.int .i64 j, .int .i64 b, .int .u64 c] ∧ TabAt w' p n b1 b2 m ((DataW.map [(kk j, gd j b c)]).del (kk j)) (D2.del (kk b)) ∧ ∀ B, B ≤ p → B ≤ b1 → B ≤ b2 → Below B w w' := by
  have BL := Aside0.mk ((Below.refl w.heap.size w).alloc (Nat.le_refl _) (.cells #[.int .u64 u] 28))
  have T1 := Aside0.mk (T.keep ((Below.refl w.heap.size w).alloc (Nat.le_refl _) (.cells #[.int .u64 u] 28)))
  have Q1 := Aside0.mk (show (w.alloc (.cells #[.int .u64 u] 28)).cell? ⟨w.heap.size, 0, none⟩ = some (.int .u64 u) from by rw [blk_cell (heap_alloc_last _ _)]; rfl)
  have L1 := Aside0.mk (show w.heap.size < (w.alloc (.cells #[.int .u64 u] 28)).heap.size from by simp)
  have P1 := Aside0.mk (And.intro (blk_lt T.head) (And.intro T.all.lt T.of.lt))
  have HJ := Aside0.mk hj
  have HB := Aside0.mk hb
  have HC := Aside0.mk hc
  clear T hj hb hc
  go_enter Try.func12, Try.ntmps12
  go_wp2_with (first
    | (go_at_call 16; refine (list_one T1.out HJ.out).mono ?_; rintro e w2 ⟨v, rfl, hv, hb⟩; obtain ⟨g, cap, rfl, hg, c0, c1, c2⟩ := owns_one hv; have G2 := Aside0.mk hg; have C0 := Aside0.mk c0; have C1 := Aside0.mk c1; have C2 := Aside0.mk c2; have BL2 := Aside0.mk hb; have T2 := Aside0.mk (T1.out.keep hb); have Q2 := Aside0.mk ((hb.cell (p := ⟨w.heap.size, 0, none⟩) L1.out).trans Q1.out); have L2 := Aside0.mk (Nat.lt_of_lt_of_le L1.out hb.size); clear hv hb hg c0 c1 c2)
    | (go_at_call 24; refine (delete_one Q2.out L2.out HC.out C0.out C1.out C2.out).mono ?_; rintro e w3 ⟨hb, rfl⟩; have gl := World.block_lt_of_cell? _ _ C0.out; have D0 := Aside0.mk ((hb.cell (p := ⟨g, 0, none⟩) gl).trans C0.out); have E1 := Aside0.mk ((hb.cell (p := ⟨g, 1, none⟩) gl).trans C1.out); have E2 := Aside0.mk ((hb.cell (p := ⟨g, 2, none⟩) gl).trans C2.out); have BL3 := Aside0.mk hb; have T3 := Aside0.mk (T2.out.keep hb); have GL3 := Aside0.mk (Nat.lt_of_lt_of_le gl hb.size); clear hb gl)
    | (go_at_call 26; refine (sort_one).mono ?_; rintro e w4 ⟨rfl, rfl⟩))
  have d0 := D0.out
  have d1 := E1.out
  have d2 := E2.out
  have e1 : (w.alloc (.cells #[.int .u64 u] 28)).heap.size = w.heap.size + 1 := by simp
  have B4 := Aside0.mk (BL.out.trans ((BL2.out.mono (B' := w.heap.size) (by omega)).trans (BL3.out.mono (B' := w.heap.size) (by have := BL2.out.size; omega))))
  have B5 := Aside0.mk ((Below.refl w4.heap.size w4).alloc (Nat.le_refl _) (.cells #[.int .i64 j, .int .i64 b, .int .u64 c] 38))
  have T4 := Aside0.mk (T3.out.keep B5.out)
  have N4 := Aside0.mk (show g ≠ b1 ∧ g ≠ b2 by have h1 := P1.out; have h2 := G2.out; constructor <;> omega)
  clear e1
  refine wp_loop_rounds 2 ?_
  rw [rounds_succ]
  go_wp2_with (go_at_call 10; refine (drop_some T4.out HJ.out (has_one (keyI.1 (keyOf_i HJ.out))) (atKey_one (keyI.1 (keyOf_i HJ.out))) HB.out).mono ?_; rintro e w5 ⟨rfl, hT, hbl, hs, hf⟩; have T5 := Aside0.mk hT; have F5 := Aside0.mk hbl; have S5 := Aside0.mk hs; have hg := hf g (Nat.lt_of_lt_of_le GL3.out B5.out.size) N4.out.1 N4.out.2; have D5 := Aside0.mk ((World.cell?_of_block (a := ⟨g, 0, none⟩) hg).trans ((B5.out.cell (p := ⟨g, 0, none⟩) GL3.out).trans D0.out)); have E5 := Aside0.mk ((World.cell?_of_block (a := ⟨g, 1, none⟩) hg).trans ((B5.out.cell (p := ⟨g, 1, none⟩) GL3.out).trans E1.out)); have G5 := Aside0.mk ((World.cell?_of_block (a := ⟨g, 2, none⟩) hg).trans ((B5.out.cell (p := ⟨g, 2, none⟩) GL3.out).trans E2.out)); clear hT hbl hs hf hg)
  rw [rounds_succ]
  go_wp2_with (go_at_call 29; refine (clone_one D5.out E5.out G5.out).mono ?_; rintro e w6 ⟨v, rfl, hv, hb⟩; have V6 := Aside0.mk hv; have H6 := Aside0.mk hb; clear hv hb)
  go_ret
  have z4 := B4.out.size
  have z5 := B5.out.size
  have z6 := S5.out
  refine ⟨_, rfl, owns_base V6.out (by omega), T5.out.keep H6.out, fun B x y z => ?_⟩
  have h1 := P1.out
  exact (B4.out.mono (by omega)).trans ((B5.out.mono (by omega)).trans ((F5.out B x y z).trans (H6.out.mono (by omega))))
end Go.Proofs.Ytikbgoppmailjaa.H
/- The chapter's examples. -/
namespace Go.Proofs.Ytikbgoppmailjaa.H
open Go.RowKit Go.HK Go.Maps Go.WideShapes Go.ChangeShapes Go.Proofs.YtikbgoppmailjaaW.PrintWords Go.Proofs.YtikbgoppmailjaaW.PrintLast Go.Proofs.YtikbgoppmailjaaW.PrintMore
set_option linter.unusedVariables false
set_option linter.unusedSimpArgs false
theorem w7 : (Lit.int .i64 7).wf = true := by decide
theorem w1 : (Lit.int .i64 1).wf = true := by decide
theorem has_empty (k : Lit) : has (DataW.map [] : DataW Unit) k = false := rfl
theorem put_empty (k : Lit) (d : DataW Unit) : (DataW.map []).put k d = .map [(k, d)] := rfl
set_option maxRecDepth 100000 in
set_option maxHeartbeats 4000000 in
theorem wakes_calls {w : World} : Calls Try.prog 13 #[] w fun e w' => e = .returned (.bool true) ∧ Below w.heap.size w w' := by
  have hk7 := keyI.1 (keyOf_i w7)
  have hk1 := keyI.1 (keyOf_i w1)
  have K7 := Aside0.mk hk7
  clear hk7 hk1
  go_enter Try.func13, Try.ntmps13
  go_wp2_with (first
    | (go_at_call 9; refine (grant_new T4.out (j := 7) (u := 40) w7 (by omega) (by omega) (by unfold maxLen; omega) has_del_same).mono ?_; rintro e w5 ⟨rfl, hT, hbl, hs, hf⟩; have F5 := Aside0.mk hbl; have V0 := Aside0.mk ((World.cell?_of_block (a := ⟨g, 0, none⟩) (hf g GL.out N4.out.1 N4.out.2.1 N4.out.2.2)).trans C0.out); have V1 := Aside0.mk ((World.cell?_of_block (a := ⟨g, 1, none⟩) (hf g GL.out N4.out.1 N4.out.2.1 N4.out.2.2)).trans C1.out); have V2 := Aside0.mk ((World.cell?_of_block (a := ⟨g, 2, none⟩) (hf g GL.out N4.out.1 N4.out.2.1 N4.out.2.2)).trans C2.out); have v0 := V0.out; have v1 := V1.out; have v2 := V2.out; clear hT hbl hs hf)
    | (go_at_call 12; refine (over_one T2.out w1 w7 (by omega)).mono ?_; rintro e w4 ⟨v, rfl, hv, hT, hbl⟩; obtain ⟨g, cap, rfl, hg, c0, c1, c2⟩ := owns_one hv; have C0 := Aside0.mk c0; have C1 := Aside0.mk c1; have C2 := Aside0.mk c2; have GL := Aside0.mk (World.block_lt_of_cell? _ _ c0); have T4 := Aside0.mk hT; have F4 := Aside0.mk hbl; have N4 := Aside0.mk (show g ≠ w.heap.size + 2 ∧ g ≠ w.heap.size ∧ g ≠ w.heap.size + 1 from by have h1 := blk_lt T2.out.head; refine ⟨?_, ?_, ?_⟩ <;> omega); clear hv hT hbl hg c0 c1 c2)
    | (go_at_call 9; refine (grant_had T2.out (u := 30) w7 (has_one K7.out)).mono ?_; rintro e w3 ⟨rfl, rfl⟩; have DONE := Aside0.mk True.intro)
    | (go_at_call 9; refine (grant_new T1.out (j := 7) (u := 20) w7 (by omega) (by omega) (by unfold maxLen; omega) (has_empty _)).mono ?_; rintro e w2 ⟨rfl, hT, hbl, hs, hf⟩; have T2 := Aside0.mk hT; have F2 := Aside0.mk hbl; clear hT hbl hs hf)
    | (go_at_call 8; refine (new_calls w).mono ?_; rintro e w1' ⟨rfl, hT, hb, hs⟩; have T1 := Aside0.mk hT; have B1 := Aside0.mk hb; clear hT hb hs))
  go_ret
  exact ⟨rfl, B1.out.trans ((F2.out _ (by omega) (Nat.le_refl _) (by omega)).trans ((F4.out _ (by omega) (Nat.le_refl _) (by omega)).trans (F5.out _ (by omega) (Nat.le_refl _) (by omega))))⟩
end Go.Proofs.Ytikbgoppmailjaa.H
