import Derived.Test.YtikbgoppmailjaaHLs14
/- DeleteFunc over a row of leases: what lasts no longer stays, in its order. -/
namespace Go.Proofs.Ytikbgoppmailjaa.H
open Go.RowKit Go.HK Go.Maps Go.WideShapes Go.ChangeShapes Go.Proofs.YtikbgoppmailjaaW.PrintWords Go.Proofs.YtikbgoppmailjaaW.PrintLast Go.Proofs.YtikbgoppmailjaaW.PrintMore
set_option linter.unusedVariables false
set_option linter.unusedSimpArgs false
def due (now : Int) (x : G3) : Bool := decide (x.2.2 ≤ now)
theorem due_step {now : Int} {f h : Nat → G3} {i j : Nat} (H : (List.range i).map h = ((List.range j).map f).filter (due now)) (hj : h j = f j) (hij : i ≤ j) :
    (due now (f j) = true → (List.range (i + 1)).map (upd h i (h j)) = ((List.range (j + 1)).map f).filter (due now)) ∧ (due now (f j) = false → (List.range i).map h = ((List.range (j + 1)).map f).filter (due now)) := by
  constructor
  · intro e
    rw [List.range_succ, List.range_succ, List.map_append, List.map_append, List.filter_append, ← H]
    congr 1
    · apply List.map_congr_left
      intro k hk
      have := List.mem_range.1 hk
      unfold upd
      rw [if_neg (by omega)]
    · simp [upd, e, hj]
  · intro e
    rw [List.range_succ, List.map_append, List.filter_append, ← H]
    simp [e]
set_option maxRecDepth 100000 in
set_option maxHeartbeats 4000000 in
theorem delete_end {w : World} {q g L cap i : Nat} {K : Act → World → Prop} {R : Ending → World → Prop} {N z : Nat} {r0 r1 c2 r4 body rt : Code} {x2 x3 x7 x8 x9 x10 x11 x12 x13 x14 x15 x16 x17 x18 x19 x20 x21 x22 x23 x24 x25 x26 x27 x28 x29 x30 x31 x32 x33 x34 x35 x36 x37 x38 x39 x40 x41 : Value} (hB : Try.f24.body = some (.seq r0 (.seq r1 (.seq c2 (.seq (.seq r4 (.block z (.loop body))) rt))))) (hl : L ≤ 100000) (cont : ∀ (y2 y3 y7 y8 y9 y10 y11 y12 y13 y14 y15 y16 y17 y18 y19 y20 y21 y22 y23 y24 y25 y26 y27 y28 y29 y30 y31 y32 y33 y34 y35 y36 y37 y38 y39 y40 y41 : Value), K ⟨#[.slice (some ⟨g, 0, none⟩) L cap, .func (.func 25) #[] #[.pointer (some ⟨q, 0, none⟩)], y2, y3, .slice none 0 0, .int .i64 i, .int .i64 L, y7, y8, y9, y10, y11, y12, y13, y14, y15, y16, y17, y18, y19, y20, y21, y22, y23, y24, y25, y26, y27, y28, y29, y30, y31, y32, y33, y34, y35, y36, y37, y38, y39, y40, y41], []⟩ w) :
    Code.rounds Try.prog body (Exit.inBlock 0 (Exit.then K (bodyPost Try.prog Try.f24 R))) (N + 1) ⟨#[.slice (some ⟨g, 0, none⟩) L cap, .func (.func 25) #[] #[.pointer (some ⟨q, 0, none⟩)], x2, x3, .slice none 0 0, .int .i64 i, .int .i64 L, x7, x8, x9, x10, x11, x12, x13, x14, x15, x16, x17, x18, x19, x20, x21, x22, x23, x24, x25, x26, x27, x28, x29, x30, x31, x32, x33, x34, x35, x36, x37, x38, x39, x40, x41], []⟩ w := by
  have hbody := delete_body rfl hB
  clear hB
  subst hbody
  have hcont := Aside0.mk cont
  clear cont
  rw [rounds_succ]
  go_wp2
  exact hcont.out _ _ _ _ _ _ _ _ _ _ _ _ _ _ _ _ _ _ _ _ _ _ _ _ _ _ _ _ _ _ _ _ _ _ _ _ _
set_option maxRecDepth 100000 in
set_option maxHeartbeats 4000000 in
theorem delete_loop {w0 : World} {q g L cap : Nat} {now : Int} {f : Nat → G3} {K : Act → World → Prop} {R : Ending → World → Prop} {z : Nat} {r0 r1 c2 r4 body rt : Code} (hB : Try.f24.body = some (.seq r0 (.seq r1 (.seq c2 (.seq (.seq r4 (.block z (.loop body))) rt))))) (HQ : w0.cell? ⟨q, 0, none⟩ = some (.int .u64 now)) (hq : q ≠ g) (hl : L ≤ 100000)
    (hK : ∀ (w' : World) (i : Nat) (h : Nat → G3) (y2 y3 y7 y8 y9 y10 y11 y12 y13 y14 y15 y16 y17 y18 y19 y20 y21 y22 y23 y24 y25 y26 y27 y28 y29 y30 y31 y32 y33 y34 y35 y36 y37 y38 y39 y40 y41 : Value), i ≤ L → RowF w' g L h → w0.grownBy w' (some g) → (List.range i).map h = ((List.range L).map f).filter (due now) → K ⟨#[.slice (some ⟨g, 0, none⟩) L cap, .func (.func 25) #[] #[.pointer (some ⟨q, 0, none⟩)], y2, y3, .slice none 0 0, .int .i64 i, .int .i64 L, y7, y8, y9, y10, y11, y12, y13, y14, y15, y16, y17, y18, y19, y20, y21, y22, y23, y24, y25, y26, y27, y28, y29, y30, y31, y32, y33, y34, y35, y36, y37, y38, y39, y40, y41], []⟩ w') :
    ∀ (d i j : Nat) (w : World) (h : Nat → G3) {y2 y3 y7 y8 y9 y10 y11 y12 y13 y14 y15 y16 y17 y18 y19 y20 y21 y22 y23 y24 y25 y26 y27 y28 y29 y30 y31 y32 y33 y34 y35 y36 y37 y38 y39 y40 y41 : Value}, j + d = L → i ≤ j → RowF w g L h → w0.grownBy w (some g) → (∀ k, j ≤ k → k < L → h k = f k) → (List.range i).map h = ((List.range j).map f).filter (due now) → Code.rounds Try.prog body (Exit.inBlock 0 (Exit.then K (bodyPost Try.prog Try.f24 R))) (d + 1) ⟨#[.slice (some ⟨g, 0, none⟩) L cap, .func (.func 25) #[] #[.pointer (some ⟨q, 0, none⟩)], y2, y3, .slice none 0 0, .int .i64 i, .int .i64 j, y7, y8, y9, y10, y11, y12, y13, y14, y15, y16, y17, y18, y19, y20, y21, y22, y23, y24, y25, y26, y27, y28, y29, y30, y31, y32, y33, y34, y35, y36, y37, y38, y39, y40, y41], []⟩ w := by
  intro d
  induction d with
  | zero =>
    intro i j w h y2 y3 y7 y8 y9 y10 y11 y12 y13 y14 y15 y16 y17 y18 y19 y20 y21 y22 y23 y24 y25 y26 y27 y28 y29 y30 y31 y32 y33 y34 y35 y36 y37 y38 y39 y40 y41 hd hij HF HG HE H
    obtain rfl : j = L := by omega
    exact delete_end hB hl (fun y2 y3 y7 y8 y9 y10 y11 y12 y13 y14 y15 y16 y17 y18 y19 y20 y21 y22 y23 y24 y25 y26 y27 y28 y29 y30 y31 y32 y33 y34 y35 y36 y37 y38 y39 y40 y41 => hK w i h y2 y3 y7 y8 y9 y10 y11 y12 y13 y14 y15 y16 y17 y18 y19 y20 y21 y22 y23 y24 y25 y26 y27 y28 y29 y30 y31 y32 y33 y34 y35 y36 y37 y38 y39 y40 y41 hij HF HG H)
  | succ d ih =>
    intro i j w h y2 y3 y7 y8 y9 y10 y11 y12 y13 y14 y15 y16 y17 y18 y19 y20 y21 y22 y23 y24 y25 y26 y27 y28 y29 y30 y31 y32 y33 y34 y35 y36 y37 y38 y39 y40 y41 hd hij HF HG HE H
    have hj : j < L := by omega
    have hQ := HG.cell (a := ⟨q, 0, none⟩) HQ (fun e => hq (Option.some.inj e))
    have hfj := HE j (Nat.le_refl _) hj
    obtain ⟨s1, s2⟩ := due_step H hfj hij
    by_cases c : now < (h j).2.2
    · refine delete_drop hB ⟨hQ⟩ ⟨HF⟩ hij hj hl c (fun w' y2 y3 y7 y8 y9 y10 y11 y12 y13 y14 y15 y16 y17 y18 y19 y20 y21 y22 y23 y24 y25 y26 y27 y28 y29 y30 y31 y32 y33 y34 y35 y36 y37 y38 y39 y40 y41 hr hg => ih i (j + 1) w' h (by omega) (by omega) hr (grown_trans HG hg) (fun k h1 h2 => HE k (by omega) h2) (s2 ?_))
      rw [hfj] at c
      simp only [due, decide_eq_false_iff_not]
      omega
    · refine delete_keep hB ⟨hQ⟩ ⟨HF⟩ hij hj hl (by omega) (fun w' y2 y3 y7 y8 y9 y10 y11 y12 y13 y14 y15 y16 y17 y18 y19 y20 y21 y22 y23 y24 y25 y26 y27 y28 y29 y30 y31 y32 y33 y34 y35 y36 y37 y38 y39 y40 y41 hr hg => ih (i + 1) (j + 1) w' _ (by omega) (by omega) hr (grown_trans HG hg) (fun k h1 h2 => ?_) (s1 ?_))
      · unfold upd
        rw [if_neg (by omega)]
        exact HE k (by omega) h2
      · rw [hfj] at c
        simp only [due, decide_eq_true_eq]
        omega
set_option maxRecDepth 100000 in
set_option maxHeartbeats 4000000 in
theorem delete_calls {w : World} {q g L cap : Nat} {now : Int} {f : Nat → G3} (HQ : w.cell? ⟨q, 0, none⟩ = some (.int .u64 now)) (HF : RowF w g L f) (hq : q ≠ g) (hl : L ≤ 100000) (hcap : L ≤ cap) :
    Calls Try.prog 24 #[.slice (some ⟨g, 0, none⟩) L cap, .func (.func 25) #[] #[.pointer (some ⟨q, 0, none⟩)]] w fun e w' => ∃ (i : Nat) (h : Nat → G3), e = .returned (.slice (some ⟨g, 0, none⟩) i cap) ∧ i ≤ L ∧ RowF w' g i h ∧ w.grownBy w' (some g) ∧ (List.range i).map h = ((List.range L).map f).filter (due now) := by
  have Q := Aside0.mk HQ
  have F := Aside0.mk HF
  clear HQ HF
  go_enter Try.func24, Try.ntmps24
  go_wp2_with (go_at_call 32; refine (index_calls Q.out F.out hl).mono ?_; rintro e w1 ⟨hb, hc⟩; have B1 := Aside0.mk hb; clear hb; rcases hc with ⟨rfl, h1⟩ | ⟨k, hk, rfl, h1, h2⟩)
  · go_ret
    refine ⟨L, f, rfl, Nat.le_refl _, F.out.keep B1.out, below_grown _ B1.out, ?_⟩
    rw [List.filter_eq_self.2]
    intro x hx
    obtain ⟨j, hj, rfl⟩ := List.mem_map.1 hx
    have := h1 j (List.mem_range.1 hj)
    simpa [due] using this
  · refine wp_loop_rounds (L - (k + 1) + 1) ?_
    refine delete_loop (f := f) rfl Q.out hq hl ?_ (L - (k + 1)) k (k + 1) w1 f (by omega) (by omega) (F.out.keep B1.out) (below_grown _ B1.out) (fun _ _ _ => rfl) ?_
    · intro w' i h y2 y3 y7 y8 y9 y10 y11 y12 y13 y14 y15 y16 y17 y18 y19 y20 y21 y22 y23 y24 y25 y26 y27 y28 y29 y30 y31 y32 y33 y34 y35 y36 y37 y38 y39 y40 y41 hi hr hg H
      have HI := Aside0.mk hi
      have HR := Aside0.mk hr
      have HG := Aside0.mk hg
      have HH := Aside0.mk H
      by_cases hc : i < cap
      · obtain ⟨w5, hrun, hF5, hg5⟩ := row_clear hr hi (cap - i) 0
        rw [Nat.mul_comm 3 i] at hrun
        have RC := Aside0.mk hrun
        have F5 := Aside0.mk hF5
        have G5 := Aside0.mk (grown_trans hg hg5)
        clear hr hg H hrun hF5 hg5
        go_wp2_with (first
          | (refine Great.wpList_runTo rfl none rfl (.tuple #[]) w5 (exec_clear rfl RC.out) ?_))
        go_ret
        exact ⟨i, h, rfl, hi, F5.out, G5.out, HH.out⟩
      · have e0 : L - i = 0 := by omega
        have RC := Aside0.mk (show (Builtin.clear_ #[34] 0 #[.slice (some ⟨g, 0, none⟩) 0 0]).run Try.prog w' = .ok (.tuple #[]) w' from by simp [Builtin.clear_, run_underlying Try.underlying34])
        have e1 : i = L := by omega
        have F5 := Aside0.mk (show RowF w' g i h from e1 ▸ hr)
        have e2 : cap = i := by omega
        subst e2
        clear hr hg H e0 e1
        go_wp2_with (first
          | (refine Great.wpList_runTo rfl none rfl (.tuple #[]) w' (exec_clear rfl RC.out) ?_))
        go_ret
        exact ⟨_, h, rfl, hi, F5.out, HG.out, HH.out⟩
    · rw [List.range_succ, List.map_append, List.filter_append, List.filter_eq_self.2]
      · have e : due now (f k) = false := by simp only [due, decide_eq_false_iff_not]; omega
        simp [e]
      · intro x hx
        obtain ⟨j, hj, rfl⟩ := List.mem_map.1 hx
        have := h2 j (List.mem_range.1 hj)
        simpa [due] using this
end Go.Proofs.Ytikbgoppmailjaa.H
