import Derived.Test.YtikbgoppmailjaaHLs13
/- DeleteFunc over a row of leases: what lasts no longer stays, in its order. -/
namespace Go.Proofs.Ytikbgoppmailjaa.H
open Go.RowKit Go.HK Go.Maps Go.WideShapes Go.ChangeShapes Go.Proofs.YtikbgoppmailjaaW.PrintWords Go.Proofs.YtikbgoppmailjaaW.PrintLast Go.Proofs.YtikbgoppmailjaaW.PrintMore
set_option linter.unusedVariables false
set_option linter.unusedSimpArgs false
theorem exec_clear {P : Program} {ρ : Operand → Value} {o : Oper} {t : TypeId} {x : Operand} (ho : o.op = Op.call { callee := Callee.builtin Builtin.clear, args := #[x], argTypes := #[t] }) {w w' : World} {v : Value} (h : (Builtin.clear_ #[t] o.type #[ρ x]).run P w = .ok v w') : (execOp ρ o).run P w = .ok (.value v) w' := by
  unfold execOp
  simp [ho, resolve, invoke, builtin, h, Result.andThen]
theorem delete_body {r0 r1 c2 r4 body rt r0' r1' c2' r4' body' rt' : Code} {z z' : Nat} (h : Try.f24.body = some (.seq r0 (.seq r1 (.seq c2 (.seq (.seq r4 (.block z (.loop body))) rt))))) (h' : Try.f24.body = some (.seq r0' (.seq r1' (.seq c2' (.seq (.seq r4' (.block z' (.loop body'))) rt'))))) : body' = body := by
  rw [h] at h'
  injection h' with h'
  injection h' with _ h'
  injection h' with _ h'
  injection h' with _ h'
  injection h' with h1 _
  injection h1 with _ h1
  injection h1 with _ h1
  injection h1 with h1
  exact h1.symm
set_option maxRecDepth 100000 in
set_option maxHeartbeats 4000000 in
theorem delete_drop {w : World} {q g L cap i j : Nat} {now : Int} {f : Nat → G3} {K : Act → World → Prop} {R : Ending → World → Prop} {N z : Nat} {r0 r1 c2 r4 body rt : Code} {x2 x3 x7 x8 x9 x10 x11 x12 x13 x14 x15 x16 x17 x18 x19 x20 x21 x22 x23 x24 x25 x26 x27 x28 x29 x30 x31 x32 x33 x34 x35 x36 x37 x38 x39 x40 x41 : Value} (hB : Try.f24.body = some (.seq r0 (.seq r1 (.seq c2 (.seq (.seq r4 (.block z (.loop body))) rt))))) (HQ : Aside0 (w.cell? ⟨q, 0, none⟩ = some (.int .u64 now))) (HF : Aside0 (RowF w g L f)) (hij : i ≤ j) (hi : j < L) (hl : L ≤ 100000) (hd : now < (f j).2.2)
    (cont : ∀ (w' : World) (y2 y3 y7 y8 y9 y10 y11 y12 y13 y14 y15 y16 y17 y18 y19 y20 y21 y22 y23 y24 y25 y26 y27 y28 y29 y30 y31 y32 y33 y34 y35 y36 y37 y38 y39 y40 y41 : Value), RowF w' g L f → w.grownBy w' (some g) → Code.rounds Try.prog body (Exit.inBlock 0 (Exit.then K (bodyPost Try.prog Try.f24 R))) N ⟨#[.slice (some ⟨g, 0, none⟩) L cap, .func (.func 25) #[] #[.pointer (some ⟨q, 0, none⟩)], y2, y3, .slice none 0 0, .int .i64 i, .int .i64 (j + 1), y7, y8, y9, y10, y11, y12, y13, y14, y15, y16, y17, y18, y19, y20, y21, y22, y23, y24, y25, y26, y27, y28, y29, y30, y31, y32, y33, y34, y35, y36, y37, y38, y39, y40, y41], []⟩ w') :
    Code.rounds Try.prog body (Exit.inBlock 0 (Exit.then K (bodyPost Try.prog Try.f24 R))) (N + 1) ⟨#[.slice (some ⟨g, 0, none⟩) L cap, .func (.func 25) #[] #[.pointer (some ⟨q, 0, none⟩)], x2, x3, .slice none 0 0, .int .i64 i, .int .i64 j, x7, x8, x9, x10, x11, x12, x13, x14, x15, x16, x17, x18, x19, x20, x21, x22, x23, x24, x25, x26, x27, x28, x29, x30, x31, x32, x33, x34, x35, x36, x37, x38, x39, x40, x41], []⟩ w := by
  have hbody := delete_body rfl hB
  clear hB
  subst hbody
  obtain ⟨a, b, c, hx⟩ : ∃ a b c, f j = (a, b, c) := ⟨_, _, _, rfl⟩
  have LD := Aside0.mk (show (Instr.loadAt 38 (.pointer (some ⟨g, 3 * j, none⟩))).run Try.prog w = .ok (gv a b c) w from by have h := row_load HF.out hi; rw [hx] at h; exact h)
  have IJ := Aside0.mk (fun (v : World) => row_index (w := v) (g := g) (cap := cap) hi)
  have BA := Aside0.mk ((Below.refl w.heap.size w).alloc (Nat.le_refl _) (.cells #[.int .i64 a, .int .i64 b, .int .u64 c] 38))
  have XA := Aside0.mk (heap_alloc_last w (.cells #[.int .i64 a, .int .i64 b, .int .u64 c] 38))
  have QA := Aside0.mk (show (w.alloc (.cells #[.int .i64 a, .int .i64 b, .int .u64 c] 38)).cell? ⟨q, 0, none⟩ = some (.int .u64 now) from by rw [World.cell?_alloc_lt _ _ _ (World.block_lt_of_cell? w _ HQ.out)]; exact HQ.out)
  have DD : decide (now < c) = true := by rw [hx] at hd; simpa using hd
  have hcont := Aside0.mk cont
  clear cont hd hx
  rw [rounds_succ]
  go_upto_region 7 with fail
  go_upto_region 99 with (first
    | (go_at_call 25; refine (late_any QA.out).mono ?_; rintro e w2 ⟨rfl, hb⟩; have B2 := Aside0.mk (BA.out.trans (hb.mono BA.out.size)); have X2 := Aside0.mk ((hb.block _ (blk_lt XA.out)).trans XA.out); have k0 := blk_cell X2.out 0; have k1 := blk_cell X2.out 1; have k2 := blk_cell X2.out 2; clear hb; rw [DD])
    | (refine Great.wpList_readTo rfl (some 24) rfl (.pointer (some ⟨g, 3 * j, none⟩)) (exec_indexAddr rfl (IJ.out _)) ?_)
    | (refine Great.wpList_readTo rfl (some 25) rfl (gv a b c) (exec_load rfl LD.out) ?_))
  exact hcont.out _ _ _ _ _ _ _ _ _ _ _ _ _ _ _ _ _ _ _ _ _ _ _ _ _ _ _ _ _ _ _ _ _ _ _ _ _ _ (HF.out.keep B2.out) (below_grown _ B2.out)
set_option maxRecDepth 100000 in
set_option maxHeartbeats 4000000 in
theorem delete_keep {w : World} {q g L cap i j : Nat} {now : Int} {f : Nat → G3} {K : Act → World → Prop} {R : Ending → World → Prop} {N z : Nat} {r0 r1 c2 r4 body rt : Code} {x2 x3 x7 x8 x9 x10 x11 x12 x13 x14 x15 x16 x17 x18 x19 x20 x21 x22 x23 x24 x25 x26 x27 x28 x29 x30 x31 x32 x33 x34 x35 x36 x37 x38 x39 x40 x41 : Value} (hB : Try.f24.body = some (.seq r0 (.seq r1 (.seq c2 (.seq (.seq r4 (.block z (.loop body))) rt))))) (HQ : Aside0 (w.cell? ⟨q, 0, none⟩ = some (.int .u64 now))) (HF : Aside0 (RowF w g L f)) (hij : i ≤ j) (hi : j < L) (hl : L ≤ 100000) (hd : (f j).2.2 ≤ now)
    (cont : ∀ (w' : World) (y2 y3 y7 y8 y9 y10 y11 y12 y13 y14 y15 y16 y17 y18 y19 y20 y21 y22 y23 y24 y25 y26 y27 y28 y29 y30 y31 y32 y33 y34 y35 y36 y37 y38 y39 y40 y41 : Value), RowF w' g L (upd f i (f j)) → w.grownBy w' (some g) → Code.rounds Try.prog body (Exit.inBlock 0 (Exit.then K (bodyPost Try.prog Try.f24 R))) N ⟨#[.slice (some ⟨g, 0, none⟩) L cap, .func (.func 25) #[] #[.pointer (some ⟨q, 0, none⟩)], y2, y3, .slice none 0 0, .int .i64 (i + 1), .int .i64 (j + 1), y7, y8, y9, y10, y11, y12, y13, y14, y15, y16, y17, y18, y19, y20, y21, y22, y23, y24, y25, y26, y27, y28, y29, y30, y31, y32, y33, y34, y35, y36, y37, y38, y39, y40, y41], []⟩ w') :
    Code.rounds Try.prog body (Exit.inBlock 0 (Exit.then K (bodyPost Try.prog Try.f24 R))) (N + 1) ⟨#[.slice (some ⟨g, 0, none⟩) L cap, .func (.func 25) #[] #[.pointer (some ⟨q, 0, none⟩)], x2, x3, .slice none 0 0, .int .i64 i, .int .i64 j, x7, x8, x9, x10, x11, x12, x13, x14, x15, x16, x17, x18, x19, x20, x21, x22, x23, x24, x25, x26, x27, x28, x29, x30, x31, x32, x33, x34, x35, x36, x37, x38, x39, x40, x41], []⟩ w := by
  have hbody := delete_body rfl hB
  clear hB
  subst hbody
  obtain ⟨a, b, c, hx⟩ : ∃ a b c, f j = (a, b, c) := ⟨_, _, _, rfl⟩
  have LD := Aside0.mk (show (Instr.loadAt 38 (.pointer (some ⟨g, 3 * j, none⟩))).run Try.prog w = .ok (gv a b c) w from by have h := row_load HF.out hi; rw [hx] at h; exact h)
  have IJ := Aside0.mk (fun (v : World) => row_index (w := v) (g := g) (cap := cap) hi)
  have BA := Aside0.mk ((Below.refl w.heap.size w).alloc (Nat.le_refl _) (.cells #[.int .i64 a, .int .i64 b, .int .u64 c] 38))
  have XA := Aside0.mk (heap_alloc_last w (.cells #[.int .i64 a, .int .i64 b, .int .u64 c] 38))
  have QA := Aside0.mk (show (w.alloc (.cells #[.int .i64 a, .int .i64 b, .int .u64 c] 38)).cell? ⟨q, 0, none⟩ = some (.int .u64 now) from by rw [World.cell?_alloc_lt _ _ _ (World.block_lt_of_cell? w _ HQ.out)]; exact HQ.out)
  have DD : decide (now < c) = false := by rw [hx] at hd; simp at hd ⊢; omega
  have hcont := Aside0.mk cont
  have hiL : i < L := by omega
  have II := Aside0.mk (fun (v : World) => row_index (w := v) (g := g) (cap := cap) hiL)
  have HX := Aside0.mk hx
  clear cont hd hx
  rw [rounds_succ]
  go_upto_region 7 with fail
  go_upto_region 99 with (first
    | (go_at_call 25; refine (late_any QA.out).mono ?_; rintro e w2 ⟨rfl, hb⟩; have B2 := Aside0.mk (BA.out.trans (hb.mono BA.out.size)); have X2 := Aside0.mk ((hb.block _ (blk_lt XA.out)).trans XA.out); have k0 := blk_cell X2.out 0; have k1 := blk_cell X2.out 1; have k2 := blk_cell X2.out 2; clear hb; rw [DD])
    | (refine Great.wpList_readTo rfl (some 24) rfl (.pointer (some ⟨g, 3 * j, none⟩)) (exec_indexAddr rfl (IJ.out _)) ?_)
    | (refine Great.wpList_readTo rfl (some 25) rfl (gv a b c) (exec_load rfl LD.out) ?_)
    | (refine Great.wpList_readTo rfl (some 33) rfl (.pointer (some ⟨g, 3 * i, none⟩)) (exec_indexAddr rfl (II.out _)) ?_; obtain ⟨w3, hrun, hF, hg⟩ := row_store (HF.out.keep B2.out) hiL (a, b, c); have ST := Aside0.mk hrun; have F3 := Aside0.mk hF; have G3 := Aside0.mk (grown_trans (below_grown (some g) B2.out) hg); clear hrun hF hg)
    | (refine wpList_doTo rfl w3 (exec_store rfl ST.out) ?_))
  exact hcont.out _ _ _ _ _ _ _ _ _ _ _ _ _ _ _ _ _ _ _ _ _ _ _ _ _ _ _ _ _ _ _ _ _ _ _ _ _ _ (HX.out ▸ F3.out) G3.out
end Go.Proofs.Ytikbgoppmailjaa.H
