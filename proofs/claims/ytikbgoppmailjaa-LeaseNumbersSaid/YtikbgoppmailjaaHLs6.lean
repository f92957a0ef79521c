import Derived.Test.YtikbgoppmailjaaHLs5
import Derived.WalkSpells
import Derived.Deep.MidRow
import Derived.Lib.SliceRun
/- Over's parts: what deletes, sorts and clones rows of none or one. -/
namespace Go.Proofs.Ytikbgoppmailjaa.H
open Go.RowKit Go.HK Go.Maps Go.WideShapes Go.ChangeShapes Go.Proofs.YtikbgoppmailjaaW.PrintWords Go.Proofs.YtikbgoppmailjaaW.PrintLast Go.Proofs.YtikbgoppmailjaaW.PrintMore
set_option linter.unusedVariables false
set_option linter.unusedSimpArgs false
theorem owns_one {w : World} {B : Nat} {v : Value} {a b c : Int} (h : w.ownsRow B 38 3 v 1 [.int .i64 a, .int .i64 b, .int .u64 c]) : ∃ g cap, v = .slice (some ⟨g, 0, none⟩) 1 cap ∧ B ≤ g ∧ w.cell? ⟨g, 0, none⟩ = some (.int .i64 a) ∧ w.cell? ⟨g, 1, none⟩ = some (.int .i64 b) ∧ w.cell? ⟨g, 2, none⟩ = some (.int .u64 c) := by
  rcases h.2 with ⟨rfl, hz⟩ | ⟨g, cap, cur, rfl, hbase, hg, r1, r2, r3, r4⟩
  · exact absurd hz (by simp)
  · have key : ∀ i, i < 3 → cur[i]? = ([.int .i64 a, .int .i64 b, .int .u64 c] : List Value)[i]? := by
      intro i hi
      rw [← r4, List.getElem?_take_of_lt (by omega), Array.getElem?_toList]
    refine ⟨g, cap, rfl, hbase, ?_, ?_, ?_⟩
    · rw [blk_cell hg 0, key 0 (by omega)]; rfl
    · rw [blk_cell hg 1, key 1 (by omega)]; rfl
    · rw [blk_cell hg 2, key 2 (by omega)]; rfl
set_option maxRecDepth 100000 in
theorem late_calls {w : World} {q : Nat} {a b c now : Int} (hq : w.cell? ⟨q, 0, none⟩ = some (.int .u64 now)) (hl : q < w.heap.size) (hc : c ≤ now) :
    Calls Try.prog 25 #[gv a b c, .pointer (some ⟨q, 0, none⟩)] w fun e w' => e = .returned (.bool false) ∧ Below w.heap.size w w' := by
  have BL := Aside0.mk ((Below.refl w.heap.size w).alloc (Nat.le_refl _) (.cells #[.int .i64 a, .int .i64 b, .int .u64 c] 38))
  have hq2 : (w.alloc (.cells #[.int .i64 a, .int .i64 b, .int .u64 c] 38)).cell? ⟨q, 0, none⟩ = some (.int .u64 now) := by
    rw [World.cell?_alloc_lt _ _ _ hl]; exact hq
  go_enter Try.func25, Try.ntmps25
  go_wp2
  go_ret
  refine ⟨?_, BL.out⟩
  simp; omega
set_option maxRecDepth 100000 in
theorem index_none {w : World} {f : Value} : Calls Try.prog 32 #[.slice none 0 0, f] w fun e w' => w' = w ∧ e = .returned (.int .i64 (-1)) := by
  go_enter Try.func32, Try.ntmps32
  go_wp2
  refine wp_loop_rounds 1 ?_
  rw [rounds_succ]
  go_wp2
  go_ret
  exact ⟨rfl, rfl⟩
set_option maxRecDepth 100000 in
theorem index_one {w : World} {q g cap : Nat} {a b c now : Int} (hq : w.cell? ⟨q, 0, none⟩ = some (.int .u64 now)) (hl : q < w.heap.size) (hc : c ≤ now) (c0 : w.cell? ⟨g, 0, none⟩ = some (.int .i64 a)) (c1 : w.cell? ⟨g, 1, none⟩ = some (.int .i64 b)) (c2 : w.cell? ⟨g, 2, none⟩ = some (.int .u64 c)) :
    Calls Try.prog 32 #[.slice (some ⟨g, 0, none⟩) 1 cap, .func (.func 25) #[] #[.pointer (some ⟨q, 0, none⟩)]] w fun e w' => Below w.heap.size w w' ∧ e = .returned (.int .i64 (-1)) := by
  have HQ := Aside0.mk hq
  have HL := Aside0.mk hl
  have HC := Aside0.mk hc
  clear hq hl hc
  go_enter Try.func32, Try.ntmps32
  go_wp2
  refine wp_loop_rounds 2 ?_
  rw [rounds_succ]
  go_wp2_with (go_at_call 25; refine (late_calls HQ.out HL.out HC.out).mono ?_; rintro e w1 ⟨rfl, hb⟩; have BL := Aside0.mk hb; clear hb)
  rw [rounds_succ]
  go_wp2
  go_ret
  exact ⟨BL.out, rfl⟩
set_option maxRecDepth 100000 in
theorem delete_none {w : World} {f : Value} : Calls Try.prog 24 #[.slice none 0 0, f] w fun e w' => w' = w ∧ e = .returned (.slice none 0 0) := by
  go_enter Try.func24, Try.ntmps24
  go_wp2_with (go_at_call 32; refine (index_none).mono ?_; rintro e w1 ⟨rfl, rfl⟩)
  go_ret
  exact ⟨rfl, rfl⟩
set_option maxRecDepth 100000 in
theorem delete_one {w : World} {q g cap : Nat} {a b c now : Int} (hq : w.cell? ⟨q, 0, none⟩ = some (.int .u64 now)) (hl : q < w.heap.size) (hc : c ≤ now) (c0 : w.cell? ⟨g, 0, none⟩ = some (.int .i64 a)) (c1 : w.cell? ⟨g, 1, none⟩ = some (.int .i64 b)) (c2 : w.cell? ⟨g, 2, none⟩ = some (.int .u64 c)) :
    Calls Try.prog 24 #[.slice (some ⟨g, 0, none⟩) 1 cap, .func (.func 25) #[] #[.pointer (some ⟨q, 0, none⟩)]] w fun e w' => Below w.heap.size w w' ∧ e = .returned (.slice (some ⟨g, 0, none⟩) 1 cap) := by
  have HI := Aside0.mk (index_one (cap := cap) hq hl hc c0 c1 c2)
  clear hq hl hc c0 c1 c2
  go_enter Try.func24, Try.ntmps24
  go_wp2_with (go_at_call 32; refine HI.out.mono ?_; rintro e w1 ⟨hb, rfl⟩; have BL := Aside0.mk hb; clear hb)
  go_ret
  exact ⟨BL.out, rfl⟩
set_option maxRecDepth 100000 in
theorem insertion_short {w : World} {s f : Value} {n : Int} (h0 : 0 ≤ n) (h1 : n ≤ 1) : Calls Try.prog 38 #[s, .int .i64 0, .int .i64 n, f] w fun e w' => w' = w ∧ e = .returned (.tuple #[]) := by
  go_enter Try.func38, Try.ntmps38
  go_wp2
  refine wp_loop_rounds 1 ?_
  rw [rounds_succ]
  go_wp2
  go_end0
  exact ⟨rfl, rfl⟩
set_option maxRecDepth 100000 in
theorem stable_short {w : World} {s f : Value} {n : Int} (h0 : 0 ≤ n) (h1 : n ≤ 1) : Calls Try.prog 33 #[s, .int .i64 n, f] w fun e w' => w' = w ∧ e = .returned (.tuple #[]) := by
  go_enter Try.func33, Try.ntmps33
  go_wp2
  refine wp_loop_rounds 1 ?_
  rw [rounds_succ]
  go_wp2_with (go_at_call 38; refine (insertion_short h0 h1).mono ?_; rintro e w1 ⟨rfl, rfl⟩)
  refine wp_loop_rounds 1 ?_
  rw [rounds_succ]
  go_wp2
  go_end0
  exact ⟨rfl, rfl⟩
set_option maxRecDepth 100000 in
theorem sort_none {w : World} {f : Value} : Calls Try.prog 26 #[.slice none 0 0, f] w fun e w' => w' = w ∧ e = .returned (.tuple #[]) := by
  go_enter Try.func26, Try.ntmps26
  go_wp2_with (go_at_call 33; refine (stable_short (by omega) (by omega)).mono ?_; rintro e w1 ⟨rfl, rfl⟩)
  go_end0
  exact ⟨rfl, rfl⟩
set_option maxRecDepth 100000 in
theorem sort_one {w : World} {f : Value} {ad : Addr} {cap : Nat} : Calls Try.prog 26 #[.slice (some ad) 1 cap, f] w fun e w' => w' = w ∧ e = .returned (.tuple #[]) := by
  go_enter Try.func26, Try.ntmps26
  go_wp2_with (go_at_call 33; refine (stable_short (by omega) (by omega)).mono ?_; rintro e w1 ⟨rfl, rfl⟩)
  go_end0
  exact ⟨rfl, rfl⟩
theorem old_three {w : World} {g : Nat} {a b c : Int} {o : Obj} (c0 : w.cell? ⟨g, 0, none⟩ = some (.int .i64 a)) (c1 : w.cell? ⟨g, 1, none⟩ = some (.int .i64 b)) (c2 : w.cell? ⟨g, 2, none⟩ = some (.int .u64 c)) (j : Nat) (u : Value) (h : ([.int .i64 a, .int .i64 b, .int .u64 c] : List Value)[j]? = some u) : (w.alloc o).cell? ((⟨g, 0, none⟩ : Addr).add j) = some u := by
  have hl : g < w.heap.size := World.block_lt_of_cell? w _ c0
  rw [Addr.add_mid, World.cell?_alloc_lt _ _ _ hl]
  match j, h with
  | 0, h => rw [← h]; exact c0
  | 1, h => rw [← h]; exact c1
  | 2, h => rw [← h]; exact c2
  | k + 3, h => simp at h
set_option maxRecDepth 100000 in
theorem clone_none {w : World} : Calls Try.prog 29 #[.slice none 0 0] w fun e w' => w' = w ∧ e = .returned (.slice none 0 0) := by
  have hq : ∀ w, (binOp .eql 34 (.slice none 0 0) (.slice none 0 0)).run Try.prog w = .ok (.bool true) w := fun w => Lib.run_eql_slice_nil w 34 38 none 0 0 0 0 Try.underlying34
  go_enter Try.func29, Try.ntmps29
  go_wp2
  go_ret
  exact ⟨rfl, rfl⟩
set_option maxRecDepth 100000 in
theorem clone_one {w : World} {g cap : Nat} {a b c : Int} (c0 : w.cell? ⟨g, 0, none⟩ = some (.int .i64 a)) (c1 : w.cell? ⟨g, 1, none⟩ = some (.int .i64 b)) (c2 : w.cell? ⟨g, 2, none⟩ = some (.int .u64 c)) :
    Calls Try.prog 29 #[.slice (some ⟨g, 0, none⟩) 1 cap] w fun e w' => ∃ v, e = .returned v ∧ w'.ownsRow w.heap.size 38 3 v 1 [.int .i64 a, .int .i64 b, .int .u64 c] ∧ Below w.heap.size w w' := by
  obtain ⟨i0, hi, hz0, hz1, hz2⟩ := infoG
  have HI := Aside0.mk hi
  have HI0 := Aside0.mk hz0
  have HI1 := Aside0.mk hz1
  have HI2 := Aside0.mk hz2
  have HO := Aside0.mk (show (w.alloc (.cells #[] 38)).ownsRow w.heap.size 38 3 (.slice (some ⟨w.heap.size, 0, none⟩) 0 0) 0 [] from ⟨rfl, .inr ⟨w.heap.size, 0, #[], rfl, Nat.le_refl _, heap_alloc_last _ _, Nat.le_refl _, Nat.zero_le _, rfl, rfl⟩⟩)
  have HC := Aside0.mk (old_three (o := .cells #[] 38) c0 c1 c2)
  clear hi hz0 hz1 hz2 c0 c1 c2
  have hq : ∀ w, (binOp .eql 34 (.slice (some ⟨g, 0, none⟩) 1 cap) (.slice none 0 0)).run Try.prog w = .ok (.bool false) w := fun w => Lib.run_eql_slice_nil w 34 38 (some ⟨g, 0, none⟩) 1 cap 0 0 Try.underlying34
  go_enter Try.func29, Try.ntmps29
  go_wp2_with (at_builtin; refine wpList_append_own _ rfl _ _ 34 rfl w.heap.size 38 i0 (gv 0 0 0) 3 24 Try.underlying34 HI.out HI0.out HI1.out HI2.out rfl (by decide) (.slice (some ⟨w.heap.size, 0, none⟩) 0 0) 0 [] rfl HO.out ⟨g, 0, none⟩ 1 cap [.int .i64 a, .int .i64 b, .int .u64 c] rfl rfl HC.out (fun x hx => by simp at hx; rcases hx with rfl | rfl | rfl <;> rfl) (by unfold maxLen; omega) (by omega) (by simp) ?_; intro v' w3 hown' hgrow3 hnil3; have HO3 := Aside0.mk hown'; have HB3 := Aside0.mk (((Below.refl w.heap.size w).alloc (Nat.le_refl _) (.cells #[] 38)).grown hgrow3 (by simp) (fun k e => by have e2 : w.heap.size = k := Option.some.inj e; omega)); clear hown' hgrow3 hnil3)
  go_ret
  exact ⟨_, rfl, HO3.out, HB3.out⟩
end Go.Proofs.Ytikbgoppmailjaa.H
