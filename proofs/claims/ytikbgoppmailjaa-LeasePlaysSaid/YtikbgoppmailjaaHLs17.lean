import Derived.Test.YtikbgoppmailjaaHLs16
import Derived.LoopN
/- Over's loop: each lease of the row is dropped. -/
namespace Go.Proofs.Ytikbgoppmailjaa.H
open Go.RowKit Go.HK Go.Maps Go.WideShapes Go.ChangeShapes Go.Proofs.YtikbgoppmailjaaW.PrintWords Go.Proofs.YtikbgoppmailjaaW.PrintLast Go.Proofs.YtikbgoppmailjaaW.PrintMore
set_option linter.unusedVariables false
set_option linter.unusedSimpArgs false
/-- The sort that Over calls lays a row's leases as P tells. (Not proved here: a premise.) -/
def SortP (P : List G3 → List G3 → Prop) : Prop := ∀ (w : World) (g L cap : Nat) (f : Nat → G3), RowF w g L f → L ≤ 100 → Calls Try.prog 26 #[.slice (some ⟨g, 0, none⟩) L cap, .func (.func 27) #[] #[]] w fun e w' => e = .returned (.tuple #[]) ∧ ∃ f', RowF w' g L f' ∧ w.grownBy w' (some g) ∧ P ((List.range L).map f) ((List.range L).map f')
def del1 (f : Nat → G3) (D : DataW Unit) : Nat → DataW Unit
  | 0 => D
  | k + 1 => (del1 f D k).del (kk (f k).1)
def del2 (f : Nat → G3) (D : DataW Unit) : Nat → DataW Unit
  | 0 => D
  | k + 1 => (del2 f D k).del (kk (f k).2.1)
theorem del1_other {f : Nat → G3} {D : DataW Unit} {c : Int} : ∀ {k : Nat}, (∀ j, j < k → (f j).1 ≠ c) → has (del1 f D k) (kk c) = has D (kk c) ∧ ∀ z, (del1 f D k).atKey (kk c) z = D.atKey (kk c) z
  | 0, _ => ⟨rfl, fun _ => rfl⟩
  | k + 1, h => by
    have hne : kk c ≠ kk (f k).1 := fun e => by injection e with _ e; exact h k (by omega) e.symm
    obtain ⟨a, b⟩ := del1_other (f := f) (D := D) (c := c) (k := k) (fun j hj => h j (by omega))
    exact ⟨by rw [del1, has_del_other hne]; exact a, fun z => by rw [del1, atKey_del_other hne]; exact b z⟩
theorem over_body {r0 r1 r2 r3 body rt r0' r1' r2' r3' body' rt' : Code} {z z' : Nat} (h : Try.f12.body = some (.seq r0 (.seq r1 (.seq r2 (.seq (.seq r3 (.block z (.loop body))) rt))))) (h' : Try.f12.body = some (.seq r0' (.seq r1' (.seq r2' (.seq (.seq r3' (.block z' (.loop body'))) rt'))))) : body' = body := by
  rw [h] at h'
  injection h' with h'
  injection h' with _ h'
  injection h' with _ h'
  injection h' with _ h'
  injection h' with h1 _
  injection h1 with _ h1
  injection h1 with _ h1
  injection h1 with h1
  exact h1.symm
set_option maxRecDepth 100000 in
set_option maxHeartbeats 4000000 in
theorem over_round {w0 w : World} {p g L cap i b1 b2 m : Nat} {n : Int} {D1 D2 : DataW Unit} {f : Nat → G3} {K : Act → World → Prop} {R : Ending → World → Prop} {N z : Nat} {r0 r1 r2 r3 body rt : Code} {x1 x2 x3 x6 x7 x8 x9 x10 x11 x12 x13 x17 x18 x19 x20 x21 x22 x23 x24 x25 x26 : Value} (hB : Try.f12.body = some (.seq r0 (.seq r1 (.seq r2 (.seq (.seq r3 (.block z (.loop body))) rt))))) (HT : Aside0 (TabAt w p n b1 b2 m D1 D2)) (HF : Aside0 (RowF w g L f)) (hi : i < L) (hl : L ≤ 100000) (HG : Aside0 (g ≠ b1 ∧ g ≠ b2)) (HS : Aside0 (w0.heap.size ≤ w.heap.size)) (HB : Aside0 ((∀ B, B ≤ w0.heap.size → B ≤ p → B ≤ b1 → B ≤ b2 → Below B w0 w) ∧ ∀ k, k < w0.heap.size → k ≠ b1 → k ≠ b2 → w.heap[k]? = w0.heap[k]?))
    (HH : Aside0 (has D1 (kk (f i).1) = true)) (HA : Aside0 (D1.atKey (kk (f i).1) (gd 0 0 0) = gd (f i).1 (f i).2.1 (f i).2.2)) (W1 : Aside0 ((Lit.int .i64 (f i).1).wf = true)) (W2 : Aside0 ((Lit.int .i64 (f i).2.1).wf = true))
    (cont : ∀ (w' : World) (y1 y2 y3 y6 y7 y8 y9 y10 y11 y12 y13 y17 y18 y19 y20 y21 y22 y23 y24 y25 y26 : Value), TabAt w' p n b1 b2 m (D1.del (kk (f i).1)) (D2.del (kk (f i).2.1)) → RowF w' g L f → w0.heap.size ≤ w'.heap.size → ((∀ B, B ≤ w0.heap.size → B ≤ p → B ≤ b1 → B ≤ b2 → Below B w0 w') ∧ ∀ k, k < w0.heap.size → k ≠ b1 → k ≠ b2 → w'.heap[k]? = w0.heap[k]?) → Code.rounds Try.prog body (Exit.inBlock 0 (Exit.then K (bodyPost Try.prog Try.f12 R))) N ⟨#[.pointer (some ⟨p, 0, none⟩), y1, y2, y3, .slice none 0 0, .slice (some ⟨g, 0, none⟩) L cap, y6, y7, y8, y9, y10, y11, y12, y13, .slice (some ⟨g, 0, none⟩) L cap, .int .i64 L, .int .i64 (i + 1), y17, y18, y19, y20, y21, y22, y23, y24, y25, y26], []⟩ w') :
    Code.rounds Try.prog body (Exit.inBlock 0 (Exit.then K (bodyPost Try.prog Try.f12 R))) (N + 1) ⟨#[.pointer (some ⟨p, 0, none⟩), x1, x2, x3, .slice none 0 0, .slice (some ⟨g, 0, none⟩) L cap, x6, x7, x8, x9, x10, x11, x12, x13, .slice (some ⟨g, 0, none⟩) L cap, .int .i64 L, .int .i64 i, x17, x18, x19, x20, x21, x22, x23, x24, x25, x26], []⟩ w := by
  have hbody := over_body rfl hB
  clear hB
  subst hbody
  have hcont := Aside0.mk cont
  clear cont
  have IJ := Aside0.mk (fun (v : World) => row_index (w := v) (g := g) (cap := cap) hi)
  have LD := Aside0.mk (row_load HF.out hi)
  generalize hx : f i = x at HH HA W1 W2 hcont LD
  obtain ⟨a, b, c⟩ := x
  have BA := Aside0.mk ((Below.refl w.heap.size w).alloc (Nat.le_refl _) (.cells #[.int .i64 a, .int .i64 b, .int .u64 c] 38))
  have TA := Aside0.mk (HT.out.keep BA.out)
  clear hx
  rw [rounds_succ]
  go_upto_region 5 with fail
  go_upto_region 99 with (first
    | (go_at_call 10; refine (drop_some TA.out W1.out HH.out HA.out W2.out).mono ?_; rintro e w3 ⟨rfl, hT, hbl, hs, hf⟩; have T3 := Aside0.mk hT; have S3 := Aside0.mk (Nat.le_trans HS.out (Nat.le_trans BA.out.size hs)); have F3 := Aside0.mk ((HF.out.keep BA.out).block (hf g (Nat.lt_of_lt_of_le HF.out.lt BA.out.size) HG.out.1 HG.out.2)); have B3 := Aside0.mk (And.intro (fun (B : Nat) (q0 : B ≤ w0.heap.size) (q1 : B ≤ p) (q2 : B ≤ b1) (q3 : B ≤ b2) => (HB.out.1 B q0 q1 q2 q3).trans ((BA.out.mono (Nat.le_trans q0 HS.out)).trans (hbl B q1 q2 q3))) (fun (k : Nat) (hk : k < w0.heap.size) (h1 : k ≠ b1) (h2 : k ≠ b2) => (hf k (Nat.lt_of_lt_of_le (Nat.lt_of_lt_of_le hk HS.out) BA.out.size) h1 h2).trans ((BA.out.block k (Nat.lt_of_lt_of_le hk HS.out)).trans (HB.out.2 k hk h1 h2)))); clear hT hbl hs hf)
    | (refine Great.wpList_readTo rfl (some 18) rfl (.pointer (some ⟨g, 3 * i, none⟩)) (exec_indexAddr rfl (IJ.out _)) ?_)
    | (refine Great.wpList_readTo rfl (some 19) rfl (gv a b c) (exec_load rfl LD.out) ?_))
  exact hcont.out _ _ _ _ _ _ _ _ _ _ _ _ _ _ _ _ _ _ _ _ _ _ T3.out F3.out S3.out B3.out
set_option maxRecDepth 100000 in
set_option maxHeartbeats 4000000 in
theorem over_end {w : World} {p g L cap : Nat} {K : Act → World → Prop} {R : Ending → World → Prop} {N z : Nat} {r0 r1 r2 r3 body rt : Code} {x1 x2 x3 x6 x7 x8 x9 x10 x11 x12 x13 x17 x18 x19 x20 x21 x22 x23 x24 x25 x26 : Value} (hB : Try.f12.body = some (.seq r0 (.seq r1 (.seq r2 (.seq (.seq r3 (.block z (.loop body))) rt))))) (hl : L ≤ 100000) (cont : ∀ (y1 y2 y3 y6 y7 y8 y9 y10 y11 y12 y13 y17 y18 y19 y20 y21 y22 y23 y24 y25 y26 : Value), K ⟨#[.pointer (some ⟨p, 0, none⟩), y1, y2, y3, .slice none 0 0, .slice (some ⟨g, 0, none⟩) L cap, y6, y7, y8, y9, y10, y11, y12, y13, .slice (some ⟨g, 0, none⟩) L cap, .int .i64 L, .int .i64 L, y17, y18, y19, y20, y21, y22, y23, y24, y25, y26], []⟩ w) :
    Code.rounds Try.prog body (Exit.inBlock 0 (Exit.then K (bodyPost Try.prog Try.f12 R))) (N + 1) ⟨#[.pointer (some ⟨p, 0, none⟩), x1, x2, x3, .slice none 0 0, .slice (some ⟨g, 0, none⟩) L cap, x6, x7, x8, x9, x10, x11, x12, x13, .slice (some ⟨g, 0, none⟩) L cap, .int .i64 L, .int .i64 L, x17, x18, x19, x20, x21, x22, x23, x24, x25, x26], []⟩ w := by
  have hbody := over_body rfl hB
  clear hB
  subst hbody
  have hcont := Aside0.mk cont
  clear cont
  rw [rounds_succ]
  go_wp2
  exact hcont.out _ _ _ _ _ _ _ _ _ _ _ _ _ _ _ _ _ _ _ _ _
theorem over_loop {w0 : World} {p g L cap b1 b2 m : Nat} {n : Int} {D1 D2 : DataW Unit} {f : Nat → G3} {K : Act → World → Prop} {R : Ending → World → Prop} {z : Nat} {r0 r1 r2 r3 body rt : Code} (hB : Try.f12.body = some (.seq r0 (.seq r1 (.seq r2 (.seq (.seq r3 (.block z (.loop body))) rt))))) (hl : L ≤ 100000) (hg : g ≠ b1 ∧ g ≠ b2)
    (hh : ∀ k, k < L → has D1 (kk (f k).1) = true ∧ D1.atKey (kk (f k).1) (gd 0 0 0) = gd (f k).1 (f k).2.1 (f k).2.2 ∧ (Lit.int .i64 (f k).1).wf = true ∧ (Lit.int .i64 (f k).2.1).wf = true) (hd : ∀ j k, j < k → k < L → (f j).1 ≠ (f k).1)
    (hK : ∀ (w' : World) (y1 y2 y3 y6 y7 y8 y9 y10 y11 y12 y13 y17 y18 y19 y20 y21 y22 y23 y24 y25 y26 : Value), TabAt w' p n b1 b2 m (del1 f D1 L) (del2 f D2 L) → RowF w' g L f → w0.heap.size ≤ w'.heap.size → ((∀ B, B ≤ w0.heap.size → B ≤ p → B ≤ b1 → B ≤ b2 → Below B w0 w') ∧ ∀ k, k < w0.heap.size → k ≠ b1 → k ≠ b2 → w'.heap[k]? = w0.heap[k]?) → K ⟨#[.pointer (some ⟨p, 0, none⟩), y1, y2, y3, .slice none 0 0, .slice (some ⟨g, 0, none⟩) L cap, y6, y7, y8, y9, y10, y11, y12, y13, .slice (some ⟨g, 0, none⟩) L cap, .int .i64 L, .int .i64 L, y17, y18, y19, y20, y21, y22, y23, y24, y25, y26], []⟩ w') :
    ∀ (d i : Nat) (w : World) {y1 y2 y3 y6 y7 y8 y9 y10 y11 y12 y13 y17 y18 y19 y20 y21 y22 y23 y24 y25 y26 : Value}, i + d = L → TabAt w p n b1 b2 m (del1 f D1 i) (del2 f D2 i) → RowF w g L f → w0.heap.size ≤ w.heap.size → ((∀ B, B ≤ w0.heap.size → B ≤ p → B ≤ b1 → B ≤ b2 → Below B w0 w) ∧ ∀ k, k < w0.heap.size → k ≠ b1 → k ≠ b2 → w.heap[k]? = w0.heap[k]?) → Code.rounds Try.prog body (Exit.inBlock 0 (Exit.then K (bodyPost Try.prog Try.f12 R))) (d + 1) ⟨#[.pointer (some ⟨p, 0, none⟩), y1, y2, y3, .slice none 0 0, .slice (some ⟨g, 0, none⟩) L cap, y6, y7, y8, y9, y10, y11, y12, y13, .slice (some ⟨g, 0, none⟩) L cap, .int .i64 L, .int .i64 i, y17, y18, y19, y20, y21, y22, y23, y24, y25, y26], []⟩ w := by
  intro d
  induction d with
  | zero =>
    intro i w y1 y2 y3 y6 y7 y8 y9 y10 y11 y12 y13 y17 y18 y19 y20 y21 y22 y23 y24 y25 y26 e HT HF HS HB
    obtain rfl : i = L := by omega
    exact over_end hB hl (fun y1 y2 y3 y6 y7 y8 y9 y10 y11 y12 y13 y17 y18 y19 y20 y21 y22 y23 y24 y25 y26 => hK w y1 y2 y3 y6 y7 y8 y9 y10 y11 y12 y13 y17 y18 y19 y20 y21 y22 y23 y24 y25 y26 HT HF HS HB)
  | succ d ih =>
    intro i w y1 y2 y3 y6 y7 y8 y9 y10 y11 y12 y13 y17 y18 y19 y20 y21 y22 y23 y24 y25 y26 e HT HF HS HB
    have hi : i < L := by omega
    obtain ⟨q1, q2, q3, q4⟩ := hh i hi
    obtain ⟨s1, s2⟩ := del1_other (f := f) (D := D1) (c := (f i).1) (k := i) (fun j hj => hd j i hj hi)
    exact over_round hB ⟨HT⟩ ⟨HF⟩ hi hl ⟨hg⟩ ⟨HS⟩ ⟨HB⟩ ⟨s1.trans q1⟩ ⟨(s2 _).trans q2⟩ ⟨q3⟩ ⟨q4⟩ (fun w' y1 y2 y3 y6 y7 y8 y9 y10 y11 y12 y13 y17 y18 y19 y20 y21 y22 y23 y24 y25 y26 T' F' S' B' => ih (i + 1) w' (by omega) T' F' S' B')
end Go.Proofs.Ytikbgoppmailjaa.H
