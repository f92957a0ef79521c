import Derived.Test.YtikbgoppmailjaaHLs11
import Derived.LoopN
/- IndexFunc over a row of leases: the first that lasts longer. -/
namespace Go.Proofs.Ytikbgoppmailjaa.H
open Go.RowKit Go.HK Go.Maps Go.WideShapes Go.ChangeShapes Go.Proofs.YtikbgoppmailjaaW.PrintWords Go.Proofs.YtikbgoppmailjaaW.PrintLast Go.Proofs.YtikbgoppmailjaaW.PrintMore
set_option linter.unusedVariables false
set_option linter.unusedSimpArgs false
theorem exec_indexAddr {P : Program} {ρ : Operand → Value} {o : Oper} {t : TypeId} {a x : Operand} (ho : o.op = .indexAddr t a x) {w w' : World} {v : Value} (h : (Instr.indexAt t (ρ a) (ρ x)).run P w = .ok v w') : (execOp ρ o).run P w = .ok (.value v) w' := by
  unfold execOp
  rw [ho]
  simp only [Sem.run_bind, h, Result.andThen]
  rfl
theorem exec_load {P : Program} {ρ : Operand → Value} {o : Oper} {t : TypeId} {a : Operand} (ho : o.op = .load t a) {w w' : World} {v : Value} (h : (Instr.loadAt t (ρ a)).run P w = .ok v w') : (execOp ρ o).run P w = .ok (.value v) w' := by
  unfold execOp
  rw [ho]
  simp only [Sem.run_bind, h, Result.andThen]
  rfl
set_option maxRecDepth 100000 in
theorem late_any {w : World} {q : Nat} {a b c now : Int} (hq : w.cell? ⟨q, 0, none⟩ = some (.int .u64 now)) :
    Calls Try.prog 25 #[gv a b c, .pointer (some ⟨q, 0, none⟩)] w fun e w' => e = .returned (.bool (decide (now < c))) ∧ Below w.heap.size w w' := by
  have BL := Aside0.mk ((Below.refl w.heap.size w).alloc (Nat.le_refl _) (.cells #[.int .i64 a, .int .i64 b, .int .u64 c] 38))
  have hq2 : (w.alloc (.cells #[.int .i64 a, .int .i64 b, .int .u64 c] 38)).cell? ⟨q, 0, none⟩ = some (.int .u64 now) := by
    rw [World.cell?_alloc_lt _ _ _ (World.block_lt_of_cell? w _ hq)]; exact hq
  go_enter Try.func25, Try.ntmps25
  go_wp2
  go_ret
  exact ⟨rfl, BL.out⟩
theorem index_body {r0 r1 body rt r0' r1' body' rt' : Code} {z z' : Nat} (h : Try.f32.body = some (.seq r0 (.seq (.seq r1 (.block z (.loop body))) rt))) (h' : Try.f32.body = some (.seq r0' (.seq (.seq r1' (.block z' (.loop body'))) rt'))) : body' = body := by
  rw [h] at h'
  injection h' with h'
  injection h' with _ h'
  injection h' with h1 _
  injection h1 with _ h1
  injection h1 with _ h1
  injection h1 with h1
  exact h1.symm
set_option maxRecDepth 100000 in
set_option maxHeartbeats 4000000 in
theorem index_next {w0 w : World} {q g L cap : Nat} {now : Int} {f : Nat → G3} {K : Act → World → Prop} {R : Ending → World → Prop} {N z : Nat} {r0 r1 body rt : Code} {i : Nat} {x2 x3 x5 x6 x9 x10 x11 x12 x13 x14 x15 x16 x17 x18 : Value} (hB : Try.f32.body = some (.seq r0 (.seq (.seq r1 (.block z (.loop body))) rt))) (HQ : Aside0 (w0.cell? ⟨q, 0, none⟩ = some (.int .u64 now))) (HF : Aside0 (RowF w0 g L f)) (HB : Aside0 (Below w0.heap.size w0 w)) (hi : i < L) (hl : L ≤ 100000) (hd : (f i).2.2 ≤ now)
    (cont : ∀ (w' : World) (y2 y3 y5 y6 y9 y10 y11 y12 y13 y14 y15 y16 y17 y18 : Value), Below w0.heap.size w0 w' → Code.rounds Try.prog body (Exit.inBlock 0 (Exit.then K (bodyPost Try.prog Try.f32 R))) N ⟨#[.slice (some ⟨g, 0, none⟩) L cap, .func (.func 25) #[] #[.pointer (some ⟨q, 0, none⟩)], y2, y3, .int .i64 0, y5, y6, .int .i64 L, .int .i64 (i + 1), y9, y10, y11, y12, y13, y14, y15, y16, y17, y18], []⟩ w') :
    Code.rounds Try.prog body (Exit.inBlock 0 (Exit.then K (bodyPost Try.prog Try.f32 R))) (N + 1) ⟨#[.slice (some ⟨g, 0, none⟩) L cap, .func (.func 25) #[] #[.pointer (some ⟨q, 0, none⟩)], x2, x3, .int .i64 0, x5, x6, .int .i64 L, .int .i64 i, x9, x10, x11, x12, x13, x14, x15, x16, x17, x18], []⟩ w := by
  have hbody := index_body rfl hB
  clear hB
  subst hbody
  have F2 := Aside0.mk (HF.out.keep HB.out)
  have Q2 := Aside0.mk ((HB.out.cell (p := ⟨q, 0, none⟩) (World.block_lt_of_cell? w0 _ HQ.out)).trans HQ.out)
  have IX := Aside0.mk (fun (v : World) => row_index (w := v) (g := g) (cap := cap) hi)
  have DD : decide (now < (f i).2.2) = false := by simp; omega
  have hcont := Aside0.mk cont
  clear cont
  rw [rounds_succ]
  go_upto_region 3 with fail
  go_upto_region 99 with (first
    | (go_at_call 25; refine (late_any Q2.out).mono ?_; rintro e w1 ⟨rfl, hb⟩; have B1 := Aside0.mk (HB.out.trans (hb.mono HB.out.size)); clear hb; rw [DD])
    | (refine Great.wpList_readTo rfl (some 14) rfl (.pointer (some ⟨g, 3 * i, none⟩)) (exec_indexAddr rfl (IX.out _)) ?_)
    | (refine Great.wpList_readTo rfl (some 15) rfl (gx (f i)) (exec_load rfl (row_load F2.out hi)) ?_))
  exact hcont.out _ _ _ _ _ _ _ _ _ _ _ _ _ _ _ B1.out
set_option maxRecDepth 100000 in
set_option maxHeartbeats 4000000 in
theorem index_hit {w0 w : World} {q g L cap : Nat} {now : Int} {f : Nat → G3} {K : Act → World → Prop} {R : Ending → World → Prop} {N z : Nat} {r0 r1 body rt : Code} {i : Nat} {x2 x3 x5 x6 x9 x10 x11 x12 x13 x14 x15 x16 x17 x18 : Value} (hB : Try.f32.body = some (.seq r0 (.seq (.seq r1 (.block z (.loop body))) rt))) (HQ : Aside0 (w0.cell? ⟨q, 0, none⟩ = some (.int .u64 now))) (HF : Aside0 (RowF w0 g L f)) (HB : Aside0 (Below w0.heap.size w0 w)) (hi : i < L) (hl : L ≤ 100000) (hd : now < (f i).2.2)
    (cont : ∀ (w' : World), Below w0.heap.size w0 w' → R (.returned (.int .i64 i)) w') :
    Code.rounds Try.prog body (Exit.inBlock 0 (Exit.then K (bodyPost Try.prog Try.f32 R))) (N + 1) ⟨#[.slice (some ⟨g, 0, none⟩) L cap, .func (.func 25) #[] #[.pointer (some ⟨q, 0, none⟩)], x2, x3, .int .i64 0, x5, x6, .int .i64 L, .int .i64 i, x9, x10, x11, x12, x13, x14, x15, x16, x17, x18], []⟩ w := by
  have hbody := index_body rfl hB
  clear hB
  subst hbody
  have F2 := Aside0.mk (HF.out.keep HB.out)
  have Q2 := Aside0.mk ((HB.out.cell (p := ⟨q, 0, none⟩) (World.block_lt_of_cell? w0 _ HQ.out)).trans HQ.out)
  have IX := Aside0.mk (fun (v : World) => row_index (w := v) (g := g) (cap := cap) hi)
  have DD : decide (now < (f i).2.2) = true := by simp; omega
  have hcont := Aside0.mk cont
  clear cont
  rw [rounds_succ]
  go_upto_region 3 with fail
  go_upto_region 99 with (first
    | (go_at_call 25; refine (late_any Q2.out).mono ?_; rintro e w1 ⟨rfl, hb⟩; have B1 := Aside0.mk (HB.out.trans (hb.mono HB.out.size)); clear hb; rw [DD])
    | (refine Great.wpList_readTo rfl (some 14) rfl (.pointer (some ⟨g, 3 * i, none⟩)) (exec_indexAddr rfl (IX.out _)) ?_)
    | (refine Great.wpList_readTo rfl (some 15) rfl (gx (f i)) (exec_load rfl (row_load F2.out hi)) ?_))
  exact hcont.out _ B1.out
set_option maxRecDepth 100000 in
set_option maxHeartbeats 4000000 in
theorem index_end {w : World} {q g L cap : Nat} {K : Act → World → Prop} {R : Ending → World → Prop} {N z : Nat} {r0 r1 body rt : Code} {x2 x3 x5 x6 x9 x10 x11 x12 x13 x14 x15 x16 x17 x18 : Value} (hB : Try.f32.body = some (.seq r0 (.seq (.seq r1 (.block z (.loop body))) rt))) (hl : L ≤ 100000) (cont : ∀ (y2 y3 y5 y6 y9 y10 y11 y12 y13 y14 y15 y16 y17 y18 : Value), K ⟨#[.slice (some ⟨g, 0, none⟩) L cap, .func (.func 25) #[] #[.pointer (some ⟨q, 0, none⟩)], y2, y3, .int .i64 0, y5, y6, .int .i64 L, .int .i64 L, y9, y10, y11, y12, y13, y14, y15, y16, y17, y18], []⟩ w) :
    Code.rounds Try.prog body (Exit.inBlock 0 (Exit.then K (bodyPost Try.prog Try.f32 R))) (N + 1) ⟨#[.slice (some ⟨g, 0, none⟩) L cap, .func (.func 25) #[] #[.pointer (some ⟨q, 0, none⟩)], x2, x3, .int .i64 0, x5, x6, .int .i64 L, .int .i64 L, x9, x10, x11, x12, x13, x14, x15, x16, x17, x18], []⟩ w := by
  have hbody := index_body rfl hB
  clear hB
  subst hbody
  have hcont := Aside0.mk cont
  clear cont
  rw [rounds_succ]
  go_wp2
  exact hcont.out _ _ _ _ _ _ _ _ _ _ _ _ _ _
set_option maxRecDepth 100000 in
set_option maxHeartbeats 4000000 in
theorem index_loop {w0 : World} {q g L cap : Nat} {now : Int} {f : Nat → G3} {K : Act → World → Prop} {R : Ending → World → Prop} {z : Nat} {r0 r1 body rt : Code} (hB : Try.f32.body = some (.seq r0 (.seq (.seq r1 (.block z (.loop body))) rt))) (HQ : w0.cell? ⟨q, 0, none⟩ = some (.int .u64 now)) (HF : RowF w0 g L f) (hl : L ≤ 100000)
    (hR : ∀ (w' : World) (i : Nat), i < L → now < (f i).2.2 → (∀ j, j < i → (f j).2.2 ≤ now) → Below w0.heap.size w0 w' → R (.returned (.int .i64 i)) w')
    (hK : ∀ (w' : World) (y2 y3 y5 y6 y9 y10 y11 y12 y13 y14 y15 y16 y17 y18 : Value), (∀ j, j < L → (f j).2.2 ≤ now) → Below w0.heap.size w0 w' → K ⟨#[.slice (some ⟨g, 0, none⟩) L cap, .func (.func 25) #[] #[.pointer (some ⟨q, 0, none⟩)], y2, y3, .int .i64 0, y5, y6, .int .i64 L, .int .i64 L, y9, y10, y11, y12, y13, y14, y15, y16, y17, y18], []⟩ w') :
    ∀ (d i : Nat) (w : World) {y2 y3 y5 y6 y9 y10 y11 y12 y13 y14 y15 y16 y17 y18 : Value}, i + d = L → (∀ j, j < i → (f j).2.2 ≤ now) → Below w0.heap.size w0 w → Code.rounds Try.prog body (Exit.inBlock 0 (Exit.then K (bodyPost Try.prog Try.f32 R))) (d + 1) ⟨#[.slice (some ⟨g, 0, none⟩) L cap, .func (.func 25) #[] #[.pointer (some ⟨q, 0, none⟩)], y2, y3, .int .i64 0, y5, y6, .int .i64 L, .int .i64 i, y9, y10, y11, y12, y13, y14, y15, y16, y17, y18], []⟩ w := by
  intro d
  induction d with
  | zero =>
    intro i w y2 y3 y5 y6 y9 y10 y11 y12 y13 y14 y15 y16 y17 y18 hd H HB
    obtain rfl : i = L := by omega
    exact index_end hB hl (fun y2 y3 y5 y6 y9 y10 y11 y12 y13 y14 y15 y16 y17 y18 => hK w y2 y3 y5 y6 y9 y10 y11 y12 y13 y14 y15 y16 y17 y18 H HB)
  | succ d ih =>
    intro i w y2 y3 y5 y6 y9 y10 y11 y12 y13 y14 y15 y16 y17 y18 hd H HB
    have hi : i < L := by omega
    by_cases c : now < (f i).2.2
    · exact index_hit hB ⟨HQ⟩ ⟨HF⟩ ⟨HB⟩ hi hl c (fun w' hb => hR w' i hi c H hb)
    · refine index_next hB ⟨HQ⟩ ⟨HF⟩ ⟨HB⟩ hi hl (by omega) (fun w' y2 y3 y5 y6 y9 y10 y11 y12 y13 y14 y15 y16 y17 y18 hb => ih (i + 1) w' (by omega) (fun j hj => ?_) hb)
      by_cases e : j = i
      · subst e; omega
      · exact H j (by omega)
set_option maxRecDepth 100000 in
set_option maxHeartbeats 4000000 in
theorem index_calls {w : World} {q g L cap : Nat} {now : Int} {f : Nat → G3} (HQ : w.cell? ⟨q, 0, none⟩ = some (.int .u64 now)) (HF : RowF w g L f) (hl : L ≤ 100000) :
    Calls Try.prog 32 #[.slice (some ⟨g, 0, none⟩) L cap, .func (.func 25) #[] #[.pointer (some ⟨q, 0, none⟩)]] w fun e w' => Below w.heap.size w w' ∧ ((e = .returned (.int .i64 (-1)) ∧ ∀ j, j < L → (f j).2.2 ≤ now) ∨ ∃ i : Nat, i < L ∧ e = .returned (.int .i64 i) ∧ now < (f i).2.2 ∧ ∀ j, j < i → (f j).2.2 ≤ now) := by
  have Q := Aside0.mk HQ
  have F := Aside0.mk HF
  clear HQ HF
  go_enter Try.func32, Try.ntmps32
  go_wp2
  refine wp_loop_rounds (L + 1) ?_
  refine index_loop rfl Q.out F.out hl (fun w' i hi h1 h2 hb => ⟨hb, .inr ⟨i, hi, rfl, h1, h2⟩⟩) ?_ L 0 w (by omega) (fun j hj => by omega) (Below.refl _ _)
  intro w' y2 y3 y5 y6 y9 y10 y11 y12 y13 y14 y15 y16 y17 y18 h hb
  have HH := Aside0.mk h
  have BB := Aside0.mk hb
  clear h hb
  go_wp2
  go_ret
  exact ⟨BB.out, .inl ⟨rfl, HH.out⟩⟩
end Go.Proofs.Ytikbgoppmailjaa.H
