import Derived.Test.YtikbgoppmailjaaHLo0
/- The reference's table of leases: its words; Look and Of. -/
namespace Go.Proofs.Ytikbgoppmailjaa.H
open Go.RowKit Go.HK Go.Maps Go.Lib Go.WideShapes Go.ChangeShapes Go.Proofs.YtikbgoppmailjaaW.PrintWords Go.Proofs.YtikbgoppmailjaaW.PrintLast Go.Proofs.YtikbgoppmailjaaW.PrintMore
set_option linter.unusedVariables false
set_option linter.unusedSimpArgs false
/-- What is found: a lease and whether there is one. -/
abbrev fv (x : G3) (ok : Bool) : Value := .agg #[.int .i64 x.1, .int .i64 x.2.1, .int .u64 x.2.2, .bool ok]
abbrev fcs (x : G3) (ok : Bool) : Array Value := #[.int .i64 x.1, .int .i64 x.2.1, .int .u64 x.2.2, .bool ok]
def foundV : Option G3 → Value
  | some g => fv g true
  | none => fv (0, 0, 0) false
/-- At q lies the reference's table: a row of leases, the last number. -/
structure RefT (w : World) (q B : Nat) (l : List G3) (n : Int) (v : Value) : Prop where
  head : w.heap[q]? = some (.cells #[v, .int .i64 n] 51 (0, 0))
  row : RowG w B v l
theorem FoundAt.load {w : World} {r : Nat} {x : G3} {ok : Bool} (h : w.heap[r]? = some (.cells (fcs x ok) 53 (0, 0))) : (loadVar 53 ⟨r, 0, none⟩).run Try.prog w = .ok (fv x ok) w :=
  run_loadVar_mid (P := Try.prog) w r 0 _ [.int .i64 x.1, .int .i64 x.2.1, .int .u64 x.2.2, .bool ok] _ (fun j v hv => by
    rw [cell_of_row w r (0 + j) _ _ (0, 0) h]
    match j, hv with
    | 0, hv => simpa using hv
    | 1, hv => simpa using hv
    | 2, hv => simpa using hv
    | 3, hv => simpa using hv
    | n + 4, hv => simp at hv) Try.underlying53 rfl (by kernel_rfl)
theorem found_store {w : World} {r : Nat} {x0 : G3} {ok0 : Bool} (h : w.heap[r]? = some (.cells (fcs x0 ok0) 53 (0, 0))) (x : G3) (ok : Bool) : ∃ w', (Instr.storeAt 53 (.pointer (some ⟨r, 0, none⟩)) (fv x ok)).run Try.prog w = .ok () w' ∧ w'.heap[r]? = some (.cells (fcs x ok) 53 (0, 0)) ∧ w.grownBy w' (some r) := by
  refine ⟨_, run_storeAt_mid (P := Try.prog) w r 0 _ (fcs x ok) (fun j hj => ?_) (by kernel_rfl) (by simp [Value.oneCell']), ?_, ?_⟩
  · have hj' : j < 4 := hj
    constructor
    · rw [cell_of_row w r (0 + j) _ _ (0, 0) h]
      simp only [Nat.zero_add]
      rw [Array.getElem?_eq_getElem (show j < (fcs x0 ok0).size from hj')]
      rfl
    · exact blk_frozen h _
  · show (w.setCells r 0 [.int .i64 x.1, .int .i64 x.2.1, .int .u64 x.2.2, .bool ok]).heap[r]? = _
    show ((((w.setCell ⟨r, 0, none⟩ (.int .i64 x.1)).setCell ⟨r, 0 + 1, none⟩ (.int .i64 x.2.1)).setCell ⟨r, 0 + 1 + 1, none⟩ (.int .u64 x.2.2)).setCell ⟨r, 0 + 1 + 1 + 1, none⟩ (.bool ok)).heap[r]? = _
    exact blk_set (blk_set (blk_set (blk_set h _ _) _ _) _ _) _ _
  · show w.grownBy ((((w.setCell ⟨r, 0, none⟩ (.int .i64 x.1)).setCell ⟨r, 0 + 1, none⟩ (.int .i64 x.2.1)).setCell ⟨r, 0 + 1 + 1, none⟩ (.int .u64 x.2.2)).setCell ⟨r, 0 + 1 + 1 + 1, none⟩ (.bool ok)) (some r)
    exact ⟨rfl, rfl, rfl, by simp, fun k hk hne => by
      have e : k ≠ r := fun e => hne (by rw [e])
      rw [Below.heap_setCell _ _ _ _ e, Below.heap_setCell _ _ _ _ e, Below.heap_setCell _ _ _ _ e, Below.heap_setCell _ _ _ _ e]⟩
theorem results_cell {P : Program} {fn : Func} {p : Tmp} {ty : TypeId} (h : fn.results = #[.cell p ty]) (tmps : Array Value) (w : World) (ad : Addr) (v : Value) (hp : tmps.getD p undef = .pointer (some ad)) (hl : (loadVar ty ad).run P w = .ok v w) :
    (results fn tmps).run P w = .ok v w := by
  simp only [results, h]
  simp only [List.mapM_toArray, List.mapM_cons, List.mapM_nil, hp, asAddr]
  simp [hl, Result.andThen]
theorem exec_build {P : Program} {ρ : Operand → Value} {o : Oper} {t : TypeId} {parts : Array (Nat × Operand)} (ho : o.op = .build t parts) {w : World} {v : Value} (h : (Instr.build t (parts.map fun (i, x) => (i, ρ x))).run P w = .ok v w) : (execOp ρ o).run P w = .ok (.value v) w := by
  unfold execOp
  rw [ho]
  simp only [Sem.run_bind, h, Result.andThen]
  rfl
theorem found_build {w : World} {x : G3} : (Instr.build 53 #[(0, gx x), (1, .bool true)]).run Try.prog w = .ok (fv x true) w := by kernel_rfl
theorem found_zero {w : World} : (Instr.build 53 #[]).run Try.prog w = .ok (fv (0, 0, 0) false) w := by kernel_rfl
theorem rlook_body {c0 c1 c2 body : Code} {z0 : Nat}  {c0' c1' c2' body' : Code} {z0' : Nat}  (h : Try.f22.body = some (.seq c0 (.seq (.seq c1 (.block z0 (.loop body))) c2))) (h' : Try.f22.body = some (.seq c0' (.seq (.seq c1' (.block z0' (.loop body'))) c2'))) : body' = body := by
  rw [h] at h'
  simp only [Option.some.injEq, Code.seq.injEq, Code.cond.injEq, Code.block.injEq, Code.loop.injEq] at h'
  simp only [h']
set_option maxRecDepth 100000 in
set_option maxHeartbeats 4000000 in
theorem rlook_miss {w : World} {q r g NL cap i : Nat} {num n : Int} {f : Nat → G3} {Q : Exit → Act → World → Prop} {N : Nat} {c0 c1 c2 body : Code} {z0 : Nat}  {x2 x3 x6 x7 x8 x9 x10 x11 x12 x13 x14 x15 x16 x17 x18 x19 x20 x21 x22 x23 x24 x25 x26 x27 x28 x29 x30 x31 x32 x33 : Value}
    (hB : Try.f22.body = some (.seq c0 (.seq (.seq c1 (.block z0 (.loop body))) c2))) (hc : w.cell? ⟨q, 0, none⟩ = some (.slice (some ⟨g, 0, none⟩) NL cap)) (HF : Aside0 (RowF w g NL f)) (hi : i < NL) (hl : NL ≤ 1000) (hne : (f i).1 ≠ num)
    (cont : ∀ (y2 y3 y6 y7 y8 y9 y10 y11 y12 y13 y14 y15 y16 y17 y18 y19 y20 y21 y22 y23 y24 y25 y26 y27 y28 y29 y30 y31 y32 y33 : Value), Code.rounds Try.prog body Q N ⟨#[.pointer (some ⟨q, 0, none⟩), .int .i64 num, y2, y3, .pointer (some ⟨r, 0, none⟩), .int .i64 (i + 1), y6, y7, y8, y9, y10, y11, y12, y13, y14, y15, y16, y17, y18, y19, y20, y21, y22, y23, y24, y25, y26, y27, y28, y29, y30, y31, y32, y33], []⟩ w) : Code.rounds Try.prog body Q (N + 1) ⟨#[.pointer (some ⟨q, 0, none⟩), .int .i64 num, x2, x3, .pointer (some ⟨r, 0, none⟩), .int .i64 i, x6, x7, x8, x9, x10, x11, x12, x13, x14, x15, x16, x17, x18, x19, x20, x21, x22, x23, x24, x25, x26, x27, x28, x29, x30, x31, x32, x33], []⟩ w := by
  have hbody := rlook_body rfl hB
  clear hB
  subst hbody
  have hcont := Aside0.mk cont
  clear cont
  rw [rounds_succ]
  have cI := HF.out.cell0 hi
  rw [Nat.mul_comm] at cI
  have hb : ((f i).1 == num) = false := by simp [hne]
  generalize (f i).1 = z at cI hb
  clear hne
  go_wp2
  exact hcont.out _ _ _ _ _ _ _ _ _ _ _ _ _ _ _ _ _ _ _ _ _ _ _ _ _ _ _ _ _ _
set_option maxRecDepth 100000 in
set_option maxHeartbeats 4000000 in
theorem rlook_hit {w : World} {q r g NL cap i : Nat} {num n : Int} {f : Nat → G3} {Q : Exit → Act → World → Prop} {N : Nat} {c0 c1 c2 body : Code} {z0 : Nat}  {x2 x3 x6 x7 x8 x9 x10 x11 x12 x13 x14 x15 x16 x17 x18 x19 x20 x21 x22 x23 x24 x25 x26 x27 x28 x29 x30 x31 x32 x33 : Value}
    (hB : Try.f22.body = some (.seq c0 (.seq (.seq c1 (.block z0 (.loop body))) c2))) (hc : w.cell? ⟨q, 0, none⟩ = some (.slice (some ⟨g, 0, none⟩) NL cap)) (HF : Aside0 (RowF w g NL f)) (hi : i < NL) (hl : NL ≤ 1000) (heq : (f i).1 = num) (hr : Aside0 (∃ x0 ok0, w.heap[r]? = some (.cells (fcs x0 ok0) 53 (0, 0)))) (hqr : q ≠ r)
    (cont : ∀ (w' : World) (y2 y3 y6 y7 y8 y9 y10 y11 y12 y13 y14 y15 y16 y17 y18 y19 y20 y21 y22 y23 y24 y25 y26 y27 y28 y29 y30 y31 y32 y33 : Value), w'.heap[r]? = some (.cells (fcs (f i) true) 53 (0, 0)) → w.grownBy w' (some r) → Q .ret ⟨#[.pointer (some ⟨q, 0, none⟩), .int .i64 num, y2, y3, .pointer (some ⟨r, 0, none⟩), .int .i64 i, y6, y7, y8, y9, y10, y11, y12, y13, y14, y15, y16, y17, y18, y19, y20, y21, y22, y23, y24, y25, y26, y27, y28, y29, y30, y31, y32, y33], []⟩ w') : Code.rounds Try.prog body Q (N + 1) ⟨#[.pointer (some ⟨q, 0, none⟩), .int .i64 num, x2, x3, .pointer (some ⟨r, 0, none⟩), .int .i64 i, x6, x7, x8, x9, x10, x11, x12, x13, x14, x15, x16, x17, x18, x19, x20, x21, x22, x23, x24, x25, x26, x27, x28, x29, x30, x31, x32, x33], []⟩ w := by
  have hbody := rlook_body rfl hB
  clear hB
  subst hbody
  have hcont := Aside0.mk cont
  clear cont
  rw [rounds_succ]
  have cI := HF.out.cell0 hi
  rw [Nat.mul_comm] at cI
  rw [heq] at cI
  have LD := Aside0.mk (row_load HF.out hi)
  have IJ := Aside0.mk (fun (v : World) => row_index (w := v) (g := g) (cap := cap) hi)
  obtain ⟨x0, ok0, hr0⟩ := hr.out
  obtain ⟨w2, ST, S1, S2⟩ := found_store hr0 (f i) true
  have ST' := Aside0.mk ST
  have S1' := Aside0.mk S1
  have S2' := Aside0.mk S2
  clear ST S1 S2 hr0 heq hr
  generalize f i = x at *
  go_upto_region 5 with fail
  go_upto_region 99 with (first
    | (refine Great.wpList_readTo rfl (some 30) rfl (.pointer (some ⟨g, 3 * i, none⟩)) (exec_indexAddr rfl (IJ.out _)) ?_)
    | (refine Great.wpList_readTo rfl (some 31) rfl (gx x) (exec_load rfl LD.out) ?_)
    | (refine Great.wpList_readTo rfl (some 32) rfl (fv x true) (exec_build rfl found_build) ?_)
    | (refine wpList_doTo rfl w2 (exec_store rfl ST'.out) ?_))
  exact hcont.out _ _ _ _ _ _ _ _ _ _ _ _ _ _ _ _ _ _ _ _ _ _ _ _ _ _ _ _ _ _ _ S1'.out S2'.out
set_option maxRecDepth 100000 in
set_option maxHeartbeats 4000000 in
theorem rlook_end {w : World} {A : Option Addr} {q r NL cap i : Nat} {num : Int} {Q : Exit → Act → World → Prop} {N : Nat} {c0 c1 c2 body : Code} {z0 : Nat}  {x2 x3 x6 x7 x8 x9 x10 x11 x12 x13 x14 x15 x16 x17 x18 x19 x20 x21 x22 x23 x24 x25 x26 x27 x28 x29 x30 x31 x32 x33 : Value}
    (hB : Try.f22.body = some (.seq c0 (.seq (.seq c1 (.block z0 (.loop body))) c2))) (hc : w.cell? ⟨q, 0, none⟩ = some (.slice A NL cap)) (hl : NL ≤ 1000) (hi : i = NL)
    (cont : ∀ (y2 y3 y6 y7 y8 y9 y10 y11 y12 y13 y14 y15 y16 y17 y18 y19 y20 y21 y22 y23 y24 y25 y26 y27 y28 y29 y30 y31 y32 y33 : Value), Q (.exit 0) ⟨#[.pointer (some ⟨q, 0, none⟩), .int .i64 num, y2, y3, .pointer (some ⟨r, 0, none⟩), .int .i64 i, y6, y7, y8, y9, y10, y11, y12, y13, y14, y15, y16, y17, y18, y19, y20, y21, y22, y23, y24, y25, y26, y27, y28, y29, y30, y31, y32, y33], []⟩ w) : Code.rounds Try.prog body Q (N + 1) ⟨#[.pointer (some ⟨q, 0, none⟩), .int .i64 num, x2, x3, .pointer (some ⟨r, 0, none⟩), .int .i64 i, x6, x7, x8, x9, x10, x11, x12, x13, x14, x15, x16, x17, x18, x19, x20, x21, x22, x23, x24, x25, x26, x27, x28, x29, x30, x31, x32, x33], []⟩ w := by
  subst hi
  have hbody := rlook_body rfl hB
  clear hB
  subst hbody
  have hcont := Aside0.mk cont
  clear cont
  rw [rounds_succ]
  go_wp2
  exact hcont.out _ _ _ _ _ _ _ _ _ _ _ _ _ _ _ _ _ _ _ _ _ _ _ _ _ _ _ _ _ _
theorem rlook_loop {w : World} {q r g NL cap : Nat} {num : Int} {f : Nat → G3} {Q : Exit → Act → World → Prop} {c0 c1 c2 body : Code} {z0 : Nat} 
    (hB : Try.f22.body = some (.seq c0 (.seq (.seq c1 (.block z0 (.loop body))) c2))) (hc : w.cell? ⟨q, 0, none⟩ = some (.slice (some ⟨g, 0, none⟩) NL cap)) (HF : RowF w g NL f) (hl : NL ≤ 1000) (hr : ∃ x0 ok0, w.heap[r]? = some (.cells (fcs x0 ok0) 53 (0, 0))) (hqr : q ≠ r)
    (hE : (∀ j, j < NL → (f j).1 ≠ num) → ∀ (y2 y3 y6 y7 y8 y9 y10 y11 y12 y13 y14 y15 y16 y17 y18 y19 y20 y21 y22 y23 y24 y25 y26 y27 y28 y29 y30 y31 y32 y33 : Value), Q (.exit 0) ⟨#[.pointer (some ⟨q, 0, none⟩), .int .i64 num, y2, y3, .pointer (some ⟨r, 0, none⟩), .int .i64 NL, y6, y7, y8, y9, y10, y11, y12, y13, y14, y15, y16, y17, y18, y19, y20, y21, y22, y23, y24, y25, y26, y27, y28, y29, y30, y31, y32, y33], []⟩ w)
    (hH : ∀ i, i < NL → (f i).1 = num → (∀ j, j < i → (f j).1 ≠ num) → ∀ (w' : World) (y2 y3 y6 y7 y8 y9 y10 y11 y12 y13 y14 y15 y16 y17 y18 y19 y20 y21 y22 y23 y24 y25 y26 y27 y28 y29 y30 y31 y32 y33 : Value), w'.heap[r]? = some (.cells (fcs (f i) true) 53 (0, 0)) → w.grownBy w' (some r) → Q .ret ⟨#[.pointer (some ⟨q, 0, none⟩), .int .i64 num, y2, y3, .pointer (some ⟨r, 0, none⟩), .int .i64 i, y6, y7, y8, y9, y10, y11, y12, y13, y14, y15, y16, y17, y18, y19, y20, y21, y22, y23, y24, y25, y26, y27, y28, y29, y30, y31, y32, y33], []⟩ w') :
    ∀ (d i : Nat) (x2 x3 x6 x7 x8 x9 x10 x11 x12 x13 x14 x15 x16 x17 x18 x19 x20 x21 x22 x23 x24 x25 x26 x27 x28 x29 x30 x31 x32 x33 : Value), i + d = NL → (∀ j, j < i → (f j).1 ≠ num) → Code.rounds Try.prog body Q (d + 1) ⟨#[.pointer (some ⟨q, 0, none⟩), .int .i64 num, x2, x3, .pointer (some ⟨r, 0, none⟩), .int .i64 i, x6, x7, x8, x9, x10, x11, x12, x13, x14, x15, x16, x17, x18, x19, x20, x21, x22, x23, x24, x25, x26, x27, x28, x29, x30, x31, x32, x33], []⟩ w := by
  intro d
  induction d with
  | zero =>
    intro i x2 x3 x6 x7 x8 x9 x10 x11 x12 x13 x14 x15 x16 x17 x18 x19 x20 x21 x22 x23 x24 x25 x26 x27 x28 x29 x30 x31 x32 x33 hd hno
    obtain rfl : i = NL := by omega
    exact rlook_end hB hc hl rfl (hE hno)
  | succ d ih =>
    intro i x2 x3 x6 x7 x8 x9 x10 x11 x12 x13 x14 x15 x16 x17 x18 x19 x20 x21 x22 x23 x24 x25 x26 x27 x28 x29 x30 x31 x32 x33 hd hno
    have hi : i < NL := by omega
    by_cases e : (f i).1 = num
    · exact rlook_hit (n := 0) hB hc ⟨HF⟩ hi hl e ⟨hr⟩ hqr (hH i hi e hno)
    · exact rlook_miss (r := r) (n := 0) hB hc ⟨HF⟩ hi hl e (fun y2 y3 y6 y7 y8 y9 y10 y11 y12 y13 y14 y15 y16 y17 y18 y19 y20 y21 y22 y23 y24 y25 y26 y27 y28 y29 y30 y31 y32 y33 => ih (i + 1) y2 y3 y6 y7 y8 y9 y10 y11 y12 y13 y14 y15 y16 y17 y18 y19 y20 y21 y22 y23 y24 y25 y26 y27 y28 y29 y30 y31 y32 y33 (by omega) (fun j hj => by
        by_cases c : j = i
        · subst c; exact e
        · exact hno j (by omega)))
set_option maxRecDepth 100000 in
set_option maxHeartbeats 4000000 in
theorem rlook_calls {w : World} {q B : Nat} {l : List G3} {n num : Int} {v : Value} (T : RefT w q B l n v) (hl : l.length ≤ 1000) : Calls Try.prog 22 #[.pointer (some ⟨q, 0, none⟩), .int .i64 num] w fun e w' => Below w.heap.size w w' ∧ e = .returned (foundV (l.find? (fun g => decide (g.1 = num)))) := by
  have hq := blk_lt T.head
  have RR := Aside0.mk (heap_alloc_last w (.cells (fcs (0, 0, 0) false) 53))
  have BL := Aside0.mk ((Below.refl w.heap.size w).alloc (Nat.le_refl _) (.cells (fcs (0, 0, 0) false) 53))
  have c0 := blk_cell ((BL.out.block q hq).trans T.head) 0
  rcases T.row.fn with ⟨rfl, rfl⟩ | ⟨g, cap, f, rfl, hg, hcap, hF, hfl⟩
  · clear T
    go_enter Try.func22, Try.ntmps22
    go_wp2
    refine wp_loop_rounds (0 + 1) ?_
    refine rlook_end (q := q) (r := w.heap.size) (A := none) (NL := 0) (cap := 0) (num := num) rfl c0 (by omega) rfl ?_
    intro y2 y3 y6 y7 y8 y9 y10 y11 y12 y13 y14 y15 y16 y17 y18 y19 y20 y21 y22 y23 y24 y25 y26 y27 y28 y29 y30 y31 y32 y33
    obtain ⟨w2, ST, S1, S2⟩ := found_store RR.out (0, 0, 0) false
    have ST' := Aside0.mk ST
    go_upto_region 99 with (first
      | (refine Great.wpList_readTo rfl (some 33) rfl (fv (0, 0, 0) false) (exec_build rfl found_zero) ?_)
      | (refine wpList_doTo rfl w2 (exec_store rfl ST'.out) ?_))
    (try simp only [Exit.inBlock, Exit.then])
    refine bodyPost_ret_by (results_cell rfl _ _ ⟨w.heap.size, 0, none⟩ (fv (0, 0, 0) false) rfl (FoundAt.load S1)) rfl ⟨BL.out.grown S2 BL.out.size (fun k e => by cases e; exact Nat.le_refl _), rfl⟩
  · have F1 := Aside0.mk (hF.keep BL.out)
    have FL := Aside0.mk hfl
    clear T hF hfl
    go_enter Try.func22, Try.ntmps22
    go_wp2
    refine wp_loop_rounds (l.length + 1) ?_
    refine rlook_loop (q := q) (r := w.heap.size) (g := g) (cap := cap) (num := num) (f := f) rfl c0 F1.out hl ⟨_, _, RR.out⟩ (by omega) ?_ ?_ l.length 0 _ _ _ _ _ _ _ _ _ _ _ _ _ _ _ _ _ _ _ _ _ _ _ _ _ _ _ _ _ _ (by omega) (fun j hj => absurd hj (Nat.not_lt_zero j))
    · intro hno y2 y3 y6 y7 y8 y9 y10 y11 y12 y13 y14 y15 y16 y17 y18 y19 y20 y21 y22 y23 y24 y25 y26 y27 y28 y29 y30 y31 y32 y33
      have NO := Aside0.mk hno
      clear hno
      obtain ⟨w2, ST, S1, S2⟩ := found_store RR.out (0, 0, 0) false
      have ST' := Aside0.mk ST
      go_upto_region 99 with (first
        | (refine Great.wpList_readTo rfl (some 33) rfl (fv (0, 0, 0) false) (exec_build rfl found_zero) ?_)
        | (refine wpList_doTo rfl w2 (exec_store rfl ST'.out) ?_))
      (try simp only [Exit.inBlock, Exit.then])
      refine bodyPost_ret_by (results_cell rfl _ _ ⟨w.heap.size, 0, none⟩ (fv (0, 0, 0) false) rfl (FoundAt.load S1)) rfl ⟨BL.out.grown S2 BL.out.size (fun k e => by cases e; exact Nat.le_refl _), ?_⟩
      have e : l.find? (fun g => decide (g.1 = num)) = none := by
        rw [List.find?_eq_none]
        intro x hx
        rw [← FL.out] at hx
        obtain ⟨j, hj, rfl⟩ := List.mem_map.1 hx
        simpa using NO.out j (List.mem_range.1 hj)
      rw [e]
      rfl
    · intro i hi he hno w2 y2 y3 y6 y7 y8 y9 y10 y11 y12 y13 y14 y15 y16 y17 y18 y19 y20 y21 y22 y23 y24 y25 y26 y27 y28 y29 y30 y31 y32 y33 S1 S2
      (try simp only [Exit.inBlock, Exit.then])
      refine bodyPost_ret_by (results_cell rfl _ _ ⟨w.heap.size, 0, none⟩ (fv (f i) true) rfl (FoundAt.load S1)) rfl ⟨BL.out.grown S2 BL.out.size (fun k e => by cases e; exact Nat.le_refl _), ?_⟩
      have e : l.find? (fun g => decide (g.1 = num)) = some (f i) := by
        rw [List.find?_eq_some_iff_getElem]
        refine ⟨by simpa using he, i, hi, ?_, fun j hj => ?_⟩
        · have : ((List.range l.length).map f)[i]? = l[i]? := by rw [FL.out]
          simp only [List.getElem?_map, List.getElem?_range hi, Option.map_some, List.getElem?_eq_getElem hi, Option.some.injEq] at this
          exact this.symm
        · have hj' : j < l.length := by omega
          have : ((List.range l.length).map f)[j]? = l[j]? := by rw [FL.out]
          simp only [List.getElem?_map, List.getElem?_range hj', Option.map_some, List.getElem?_eq_getElem hj', Option.some.injEq] at this
          rw [← this]
          simpa using hno j hj
      rw [e]
      rfl
theorem rof_body {c0 c1 c2 body : Code} {z0 : Nat}  {c0' c1' c2' body' : Code} {z0' : Nat}  (h : Try.f23.body = some (.seq c0 (.seq (.seq c1 (.block z0 (.loop body))) c2))) (h' : Try.f23.body = some (.seq c0' (.seq (.seq c1' (.block z0' (.loop body'))) c2'))) : body' = body := by
  rw [h] at h'
  simp only [Option.some.injEq, Code.seq.injEq, Code.cond.injEq, Code.block.injEq, Code.loop.injEq] at h'
  simp only [h']
set_option maxRecDepth 100000 in
set_option maxHeartbeats 4000000 in
theorem rof_miss {w : World} {q r g NL cap i : Nat} {num n : Int} {f : Nat → G3} {Q : Exit → Act → World → Prop} {N : Nat} {c0 c1 c2 body : Code} {z0 : Nat}  {x2 x3 x6 x7 x8 x9 x10 x11 x12 x13 x14 x15 x16 x17 x18 x19 x20 x21 x22 x23 x24 x25 x26 x27 x28 x29 x30 x31 x32 x33 : Value}
    (hB : Try.f23.body = some (.seq c0 (.seq (.seq c1 (.block z0 (.loop body))) c2))) (hc : w.cell? ⟨q, 0, none⟩ = some (.slice (some ⟨g, 0, none⟩) NL cap)) (HF : Aside0 (RowF w g NL f)) (hi : i < NL) (hl : NL ≤ 1000) (hne : (f i).2.1 ≠ num)
    (cont : ∀ (y2 y3 y6 y7 y8 y9 y10 y11 y12 y13 y14 y15 y16 y17 y18 y19 y20 y21 y22 y23 y24 y25 y26 y27 y28 y29 y30 y31 y32 y33 : Value), Code.rounds Try.prog body Q N ⟨#[.pointer (some ⟨q, 0, none⟩), .int .i64 num, y2, y3, .pointer (some ⟨r, 0, none⟩), .int .i64 (i + 1), y6, y7, y8, y9, y10, y11, y12, y13, y14, y15, y16, y17, y18, y19, y20, y21, y22, y23, y24, y25, y26, y27, y28, y29, y30, y31, y32, y33], []⟩ w) : Code.rounds Try.prog body Q (N + 1) ⟨#[.pointer (some ⟨q, 0, none⟩), .int .i64 num, x2, x3, .pointer (some ⟨r, 0, none⟩), .int .i64 i, x6, x7, x8, x9, x10, x11, x12, x13, x14, x15, x16, x17, x18, x19, x20, x21, x22, x23, x24, x25, x26, x27, x28, x29, x30, x31, x32, x33], []⟩ w := by
  have hbody := rof_body rfl hB
  clear hB
  subst hbody
  have hcont := Aside0.mk cont
  clear cont
  rw [rounds_succ]
  have cI := HF.out.cell1 hi
  rw [Nat.mul_comm] at cI
  have hb : ((f i).2.1 == num) = false := by simp [hne]
  generalize (f i).2.1 = z at cI hb
  clear hne
  go_wp2
  exact hcont.out _ _ _ _ _ _ _ _ _ _ _ _ _ _ _ _ _ _ _ _ _ _ _ _ _ _ _ _ _ _
set_option maxRecDepth 100000 in
set_option maxHeartbeats 4000000 in
theorem rof_hit {w : World} {q r g NL cap i : Nat} {num n : Int} {f : Nat → G3} {Q : Exit → Act → World → Prop} {N : Nat} {c0 c1 c2 body : Code} {z0 : Nat}  {x2 x3 x6 x7 x8 x9 x10 x11 x12 x13 x14 x15 x16 x17 x18 x19 x20 x21 x22 x23 x24 x25 x26 x27 x28 x29 x30 x31 x32 x33 : Value}
    (hB : Try.f23.body = some (.seq c0 (.seq (.seq c1 (.block z0 (.loop body))) c2))) (hc : w.cell? ⟨q, 0, none⟩ = some (.slice (some ⟨g, 0, none⟩) NL cap)) (HF : Aside0 (RowF w g NL f)) (hi : i < NL) (hl : NL ≤ 1000) (heq : (f i).2.1 = num) (hr : Aside0 (∃ x0 ok0, w.heap[r]? = some (.cells (fcs x0 ok0) 53 (0, 0)))) (hqr : q ≠ r)
    (cont : ∀ (w' : World) (y2 y3 y6 y7 y8 y9 y10 y11 y12 y13 y14 y15 y16 y17 y18 y19 y20 y21 y22 y23 y24 y25 y26 y27 y28 y29 y30 y31 y32 y33 : Value), w'.heap[r]? = some (.cells (fcs (f i) true) 53 (0, 0)) → w.grownBy w' (some r) → Q .ret ⟨#[.pointer (some ⟨q, 0, none⟩), .int .i64 num, y2, y3, .pointer (some ⟨r, 0, none⟩), .int .i64 i, y6, y7, y8, y9, y10, y11, y12, y13, y14, y15, y16, y17, y18, y19, y20, y21, y22, y23, y24, y25, y26, y27, y28, y29, y30, y31, y32, y33], []⟩ w') : Code.rounds Try.prog body Q (N + 1) ⟨#[.pointer (some ⟨q, 0, none⟩), .int .i64 num, x2, x3, .pointer (some ⟨r, 0, none⟩), .int .i64 i, x6, x7, x8, x9, x10, x11, x12, x13, x14, x15, x16, x17, x18, x19, x20, x21, x22, x23, x24, x25, x26, x27, x28, x29, x30, x31, x32, x33], []⟩ w := by
  have hbody := rof_body rfl hB
  clear hB
  subst hbody
  have hcont := Aside0.mk cont
  clear cont
  rw [rounds_succ]
  have cI := HF.out.cell1 hi
  rw [Nat.mul_comm] at cI
  rw [heq] at cI
  have LD := Aside0.mk (row_load HF.out hi)
  have IJ := Aside0.mk (fun (v : World) => row_index (w := v) (g := g) (cap := cap) hi)
  obtain ⟨x0, ok0, hr0⟩ := hr.out
  obtain ⟨w2, ST, S1, S2⟩ := found_store hr0 (f i) true
  have ST' := Aside0.mk ST
  have S1' := Aside0.mk S1
  have S2' := Aside0.mk S2
  clear ST S1 S2 hr0 heq hr
  generalize f i = x at *
  go_upto_region 5 with fail
  go_upto_region 99 with (first
    | (refine Great.wpList_readTo rfl (some 30) rfl (.pointer (some ⟨g, 3 * i, none⟩)) (exec_indexAddr rfl (IJ.out _)) ?_)
    | (refine Great.wpList_readTo rfl (some 31) rfl (gx x) (exec_load rfl LD.out) ?_)
    | (refine Great.wpList_readTo rfl (some 32) rfl (fv x true) (exec_build rfl found_build) ?_)
    | (refine wpList_doTo rfl w2 (exec_store rfl ST'.out) ?_))
  exact hcont.out _ _ _ _ _ _ _ _ _ _ _ _ _ _ _ _ _ _ _ _ _ _ _ _ _ _ _ _ _ _ _ S1'.out S2'.out
set_option maxRecDepth 100000 in
set_option maxHeartbeats 4000000 in
theorem rof_end {w : World} {A : Option Addr} {q r NL cap i : Nat} {num : Int} {Q : Exit → Act → World → Prop} {N : Nat} {c0 c1 c2 body : Code} {z0 : Nat}  {x2 x3 x6 x7 x8 x9 x10 x11 x12 x13 x14 x15 x16 x17 x18 x19 x20 x21 x22 x23 x24 x25 x26 x27 x28 x29 x30 x31 x32 x33 : Value}
    (hB : Try.f23.body = some (.seq c0 (.seq (.seq c1 (.block z0 (.loop body))) c2))) (hc : w.cell? ⟨q, 0, none⟩ = some (.slice A NL cap)) (hl : NL ≤ 1000) (hi : i = NL)
    (cont : ∀ (y2 y3 y6 y7 y8 y9 y10 y11 y12 y13 y14 y15 y16 y17 y18 y19 y20 y21 y22 y23 y24 y25 y26 y27 y28 y29 y30 y31 y32 y33 : Value), Q (.exit 0) ⟨#[.pointer (some ⟨q, 0, none⟩), .int .i64 num, y2, y3, .pointer (some ⟨r, 0, none⟩), .int .i64 i, y6, y7, y8, y9, y10, y11, y12, y13, y14, y15, y16, y17, y18, y19, y20, y21, y22, y23, y24, y25, y26, y27, y28, y29, y30, y31, y32, y33], []⟩ w) : Code.rounds Try.prog body Q (N + 1) ⟨#[.pointer (some ⟨q, 0, none⟩), .int .i64 num, x2, x3, .pointer (some ⟨r, 0, none⟩), .int .i64 i, x6, x7, x8, x9, x10, x11, x12, x13, x14, x15, x16, x17, x18, x19, x20, x21, x22, x23, x24, x25, x26, x27, x28, x29, x30, x31, x32, x33], []⟩ w := by
  subst hi
  have hbody := rof_body rfl hB
  clear hB
  subst hbody
  have hcont := Aside0.mk cont
  clear cont
  rw [rounds_succ]
  go_wp2
  exact hcont.out _ _ _ _ _ _ _ _ _ _ _ _ _ _ _ _ _ _ _ _ _ _ _ _ _ _ _ _ _ _
theorem rof_loop {w : World} {q r g NL cap : Nat} {num : Int} {f : Nat → G3} {Q : Exit → Act → World → Prop} {c0 c1 c2 body : Code} {z0 : Nat} 
    (hB : Try.f23.body = some (.seq c0 (.seq (.seq c1 (.block z0 (.loop body))) c2))) (hc : w.cell? ⟨q, 0, none⟩ = some (.slice (some ⟨g, 0, none⟩) NL cap)) (HF : RowF w g NL f) (hl : NL ≤ 1000) (hr : ∃ x0 ok0, w.heap[r]? = some (.cells (fcs x0 ok0) 53 (0, 0))) (hqr : q ≠ r)
    (hE : (∀ j, j < NL → (f j).2.1 ≠ num) → ∀ (y2 y3 y6 y7 y8 y9 y10 y11 y12 y13 y14 y15 y16 y17 y18 y19 y20 y21 y22 y23 y24 y25 y26 y27 y28 y29 y30 y31 y32 y33 : Value), Q (.exit 0) ⟨#[.pointer (some ⟨q, 0, none⟩), .int .i64 num, y2, y3, .pointer (some ⟨r, 0, none⟩), .int .i64 NL, y6, y7, y8, y9, y10, y11, y12, y13, y14, y15, y16, y17, y18, y19, y20, y21, y22, y23, y24, y25, y26, y27, y28, y29, y30, y31, y32, y33], []⟩ w)
    (hH : ∀ i, i < NL → (f i).2.1 = num → (∀ j, j < i → (f j).2.1 ≠ num) → ∀ (w' : World) (y2 y3 y6 y7 y8 y9 y10 y11 y12 y13 y14 y15 y16 y17 y18 y19 y20 y21 y22 y23 y24 y25 y26 y27 y28 y29 y30 y31 y32 y33 : Value), w'.heap[r]? = some (.cells (fcs (f i) true) 53 (0, 0)) → w.grownBy w' (some r) → Q .ret ⟨#[.pointer (some ⟨q, 0, none⟩), .int .i64 num, y2, y3, .pointer (some ⟨r, 0, none⟩), .int .i64 i, y6, y7, y8, y9, y10, y11, y12, y13, y14, y15, y16, y17, y18, y19, y20, y21, y22, y23, y24, y25, y26, y27, y28, y29, y30, y31, y32, y33], []⟩ w') :
    ∀ (d i : Nat) (x2 x3 x6 x7 x8 x9 x10 x11 x12 x13 x14 x15 x16 x17 x18 x19 x20 x21 x22 x23 x24 x25 x26 x27 x28 x29 x30 x31 x32 x33 : Value), i + d = NL → (∀ j, j < i → (f j).2.1 ≠ num) → Code.rounds Try.prog body Q (d + 1) ⟨#[.pointer (some ⟨q, 0, none⟩), .int .i64 num, x2, x3, .pointer (some ⟨r, 0, none⟩), .int .i64 i, x6, x7, x8, x9, x10, x11, x12, x13, x14, x15, x16, x17, x18, x19, x20, x21, x22, x23, x24, x25, x26, x27, x28, x29, x30, x31, x32, x33], []⟩ w := by
  intro d
  induction d with
  | zero =>
    intro i x2 x3 x6 x7 x8 x9 x10 x11 x12 x13 x14 x15 x16 x17 x18 x19 x20 x21 x22 x23 x24 x25 x26 x27 x28 x29 x30 x31 x32 x33 hd hno
    obtain rfl : i = NL := by omega
    exact rof_end hB hc hl rfl (hE hno)
  | succ d ih =>
    intro i x2 x3 x6 x7 x8 x9 x10 x11 x12 x13 x14 x15 x16 x17 x18 x19 x20 x21 x22 x23 x24 x25 x26 x27 x28 x29 x30 x31 x32 x33 hd hno
    have hi : i < NL := by omega
    by_cases e : (f i).2.1 = num
    · exact rof_hit (n := 0) hB hc ⟨HF⟩ hi hl e ⟨hr⟩ hqr (hH i hi e hno)
    · exact rof_miss (r := r) (n := 0) hB hc ⟨HF⟩ hi hl e (fun y2 y3 y6 y7 y8 y9 y10 y11 y12 y13 y14 y15 y16 y17 y18 y19 y20 y21 y22 y23 y24 y25 y26 y27 y28 y29 y30 y31 y32 y33 => ih (i + 1) y2 y3 y6 y7 y8 y9 y10 y11 y12 y13 y14 y15 y16 y17 y18 y19 y20 y21 y22 y23 y24 y25 y26 y27 y28 y29 y30 y31 y32 y33 (by omega) (fun j hj => by
        by_cases c : j = i
        · subst c; exact e
        · exact hno j (by omega)))
set_option maxRecDepth 100000 in
set_option maxHeartbeats 4000000 in
theorem rof_calls {w : World} {q B : Nat} {l : List G3} {n num : Int} {v : Value} (T : RefT w q B l n v) (hl : l.length ≤ 1000) : Calls Try.prog 23 #[.pointer (some ⟨q, 0, none⟩), .int .i64 num] w fun e w' => Below w.heap.size w w' ∧ e = .returned (foundV (l.find? (fun g => decide (g.2.1 = num)))) := by
  have hq := blk_lt T.head
  have RR := Aside0.mk (heap_alloc_last w (.cells (fcs (0, 0, 0) false) 53))
  have BL := Aside0.mk ((Below.refl w.heap.size w).alloc (Nat.le_refl _) (.cells (fcs (0, 0, 0) false) 53))
  have c0 := blk_cell ((BL.out.block q hq).trans T.head) 0
  rcases T.row.fn with ⟨rfl, rfl⟩ | ⟨g, cap, f, rfl, hg, hcap, hF, hfl⟩
  · clear T
    go_enter Try.func23, Try.ntmps23
    go_wp2
    refine wp_loop_rounds (0 + 1) ?_
    refine rof_end (q := q) (r := w.heap.size) (A := none) (NL := 0) (cap := 0) (num := num) rfl c0 (by omega) rfl ?_
    intro y2 y3 y6 y7 y8 y9 y10 y11 y12 y13 y14 y15 y16 y17 y18 y19 y20 y21 y22 y23 y24 y25 y26 y27 y28 y29 y30 y31 y32 y33
    obtain ⟨w2, ST, S1, S2⟩ := found_store RR.out (0, 0, 0) false
    have ST' := Aside0.mk ST
    go_upto_region 99 with (first
      | (refine Great.wpList_readTo rfl (some 33) rfl (fv (0, 0, 0) false) (exec_build rfl found_zero) ?_)
      | (refine wpList_doTo rfl w2 (exec_store rfl ST'.out) ?_))
    (try simp only [Exit.inBlock, Exit.then])
    refine bodyPost_ret_by (results_cell rfl _ _ ⟨w.heap.size, 0, none⟩ (fv (0, 0, 0) false) rfl (FoundAt.load S1)) rfl ⟨BL.out.grown S2 BL.out.size (fun k e => by cases e; exact Nat.le_refl _), rfl⟩
  · have F1 := Aside0.mk (hF.keep BL.out)
    have FL := Aside0.mk hfl
    clear T hF hfl
    go_enter Try.func23, Try.ntmps23
    go_wp2
    refine wp_loop_rounds (l.length + 1) ?_
    refine rof_loop (q := q) (r := w.heap.size) (g := g) (cap := cap) (num := num) (f := f) rfl c0 F1.out hl ⟨_, _, RR.out⟩ (by omega) ?_ ?_ l.length 0 _ _ _ _ _ _ _ _ _ _ _ _ _ _ _ _ _ _ _ _ _ _ _ _ _ _ _ _ _ _ (by omega) (fun j hj => absurd hj (Nat.not_lt_zero j))
    · intro hno y2 y3 y6 y7 y8 y9 y10 y11 y12 y13 y14 y15 y16 y17 y18 y19 y20 y21 y22 y23 y24 y25 y26 y27 y28 y29 y30 y31 y32 y33
      have NO := Aside0.mk hno
      clear hno
      obtain ⟨w2, ST, S1, S2⟩ := found_store RR.out (0, 0, 0) false
      have ST' := Aside0.mk ST
      go_upto_region 99 with (first
        | (refine Great.wpList_readTo rfl (some 33) rfl (fv (0, 0, 0) false) (exec_build rfl found_zero) ?_)
        | (refine wpList_doTo rfl w2 (exec_store rfl ST'.out) ?_))
      (try simp only [Exit.inBlock, Exit.then])
      refine bodyPost_ret_by (results_cell rfl _ _ ⟨w.heap.size, 0, none⟩ (fv (0, 0, 0) false) rfl (FoundAt.load S1)) rfl ⟨BL.out.grown S2 BL.out.size (fun k e => by cases e; exact Nat.le_refl _), ?_⟩
      have e : l.find? (fun g => decide (g.2.1 = num)) = none := by
        rw [List.find?_eq_none]
        intro x hx
        rw [← FL.out] at hx
        obtain ⟨j, hj, rfl⟩ := List.mem_map.1 hx
        simpa using NO.out j (List.mem_range.1 hj)
      rw [e]
      rfl
    · intro i hi he hno w2 y2 y3 y6 y7 y8 y9 y10 y11 y12 y13 y14 y15 y16 y17 y18 y19 y20 y21 y22 y23 y24 y25 y26 y27 y28 y29 y30 y31 y32 y33 S1 S2
      (try simp only [Exit.inBlock, Exit.then])
      refine bodyPost_ret_by (results_cell rfl _ _ ⟨w.heap.size, 0, none⟩ (fv (f i) true) rfl (FoundAt.load S1)) rfl ⟨BL.out.grown S2 BL.out.size (fun k e => by cases e; exact Nat.le_refl _), ?_⟩
      have e : l.find? (fun g => decide (g.2.1 = num)) = some (f i) := by
        rw [List.find?_eq_some_iff_getElem]
        refine ⟨by simpa using he, i, hi, ?_, fun j hj => ?_⟩
        · have : ((List.range l.length).map f)[i]? = l[i]? := by rw [FL.out]
          simp only [List.getElem?_map, List.getElem?_range hi, Option.map_some, List.getElem?_eq_getElem hi, Option.some.injEq] at this
          exact this.symm
        · have hj' : j < l.length := by omega
          have : ((List.range l.length).map f)[j]? = l[j]? := by rw [FL.out]
          simp only [List.getElem?_map, List.getElem?_range hj', Option.map_some, List.getElem?_eq_getElem hj', Option.some.injEq] at this
          rw [← this]
          simpa using hno j hj
      rw [e]
      rfl
end Go.Proofs.Ytikbgoppmailjaa.H
/- The reference's table: Drop. -/
namespace Go.Proofs.Ytikbgoppmailjaa.H
open Go.RowKit Go.HK Go.Maps Go.Lib Go.WideShapes Go.ChangeShapes Go.Proofs.YtikbgoppmailjaaW.PrintWords Go.Proofs.YtikbgoppmailjaaW.PrintLast Go.Proofs.YtikbgoppmailjaaW.PrintMore
set_option linter.unusedVariables false
set_option linter.unusedSimpArgs false
theorem found_loadAt {w : World} {r : Nat} {x : G3} {ok : Bool} (h : w.heap[r]? = some (.cells (fcs x ok) 53 (0, 0))) : (Instr.loadAt 53 (.pointer (some ⟨r, 0, none⟩))).run Try.prog w = .ok (fv x ok) w :=
  run_loadAt_mid (P := Try.prog) w r 0 _ [.int .i64 x.1, .int .i64 x.2.1, .int .u64 x.2.2, .bool ok] _ (fun j v hv => by
    rw [cell_of_row w r (0 + j) _ _ (0, 0) h]
    match j, hv with
    | 0, hv => simpa using hv
    | 1, hv => simpa using hv
    | 2, hv => simpa using hv
    | 3, hv => simpa using hv
    | n + 4, hv => simp at hv) Try.underlying53 rfl (by kernel_rfl)
theorem foundV_fv (o : Option G3) : foundV o = fv (o.getD (0, 0, 0)) o.isSome := by cases o <;> rfl
theorem ref_storeL {w : World} {q : Nat} {v : Value} {n : Int} (h : w.heap[q]? = some (.cells #[v, .int .i64 n] 51 (0, 0))) {A : Option Addr} {len cap : Nat} : ∃ w', (Instr.storeAt 34 (.pointer (some ⟨q, 0, none⟩)) (.slice A len cap)).run Try.prog w = .ok () w' ∧ w'.heap[q]? = some (.cells #[.slice A len cap, .int .i64 n] 51 (0, 0)) ∧ w.grownBy w' (some q) := by
  refine ⟨_, run_storeAt_mid (P := Try.prog) w q 0 _ #[.slice A len cap] (fun j hj => ?_) (by kernel_rfl) (by simp [Value.oneCell']), ?_, ?_⟩
  · have hj' : j < 1 := hj
    obtain rfl : j = 0 := by omega
    constructor
    · rw [cell_of_row w q (0 + 0) _ _ (0, 0) h]; rfl
    · exact blk_frozen h _
  · show (w.setCell ⟨q, 0, none⟩ (.slice A len cap)).heap[q]? = _
    exact blk_set h _ _
  · show w.grownBy (w.setCell ⟨q, 0, none⟩ (.slice A len cap)) (some q)
    exact ⟨rfl, rfl, rfl, by simp, fun k hk hne => Below.heap_setCell _ _ _ _ (fun e => hne (by rw [e]))⟩
theorem RowG.base {w : World} {B B' : Nat} {v : Value} {l : List G3} (h : RowG w B v l) (hB : B' ≤ B) : RowG w B' v l := owns_base h hB
theorem RowG.sl {w : World} {B : Nat} {v : Value} {l : List G3} (h : RowG w B v l) : ∃ A cap, v = .slice A l.length cap := by
  rcases h.fn with ⟨h1, h2⟩ | ⟨g, cap, f, h1, _⟩
  · subst h2
    exact ⟨none, 0, h1⟩
  · exact ⟨_, cap, h1⟩
theorem RowG.lt {w : World} {B : Nat} {v : Value} {l : List G3} (h : RowG w B v l) : ∀ k, v.ownBlock = some k → k < w.heap.size := by
  intro k hk
  rcases h.2 with ⟨rfl, _⟩ | ⟨g, cap, cur, rfl, _, hg, _⟩
  · cases hk
  · cases hk
    exact blk_lt hg
theorem RowG.move {w w' : World} {B : Nat} {v : Value} {l : List G3} (h : RowG w B v l) (e : ∀ k, v.ownBlock = some k → w'.heap[k]? = w.heap[k]?) : RowG w' B v l := by
  refine ⟨h.1, ?_⟩
  rcases h.2 with h2 | ⟨g, cap, cur, rfl, hB, hg, r⟩
  · exact .inl h2
  · exact .inr ⟨g, cap, cur, rfl, hB, (e g rfl).trans hg, r⟩
theorem RowG.snoc {w : World} {B : Nat} {v : Value} {l : List G3} {x : G3} (h : w.ownsRow B 38 3 v (l.length + 1) (flat l ++ c3 x)) : RowG w B v (l ++ [x]) := by
  have e : flat (l ++ [x]) = flat l ++ c3 x := by simp [flat, List.flatMap_append]
  unfold RowG
  rw [List.length_append, e]
  exact h
theorem rdrop_body {c0 c1 c2 c3 c4 body : Code} {z0 : Nat}  {c0' c1' c2' c3' c4' body' : Code} {z0' : Nat}  (h : Try.f19.body = some (.seq c0 (.seq c1 (.seq c2 (.seq (.seq c3 (.block z0 (.loop body))) c4))))) (h' : Try.f19.body = some (.seq c0' (.seq c1' (.seq c2' (.seq (.seq c3' (.block z0' (.loop body'))) c4'))))) : body' = body := by
  rw [h] at h'
  simp only [Option.some.injEq, Code.seq.injEq, Code.cond.injEq, Code.block.injEq, Code.loop.injEq] at h'
  simp only [h']
set_option maxRecDepth 100000 in
set_option maxHeartbeats 4000000 in
theorem rdrop_skip {w0 w : World} {q r1 r2 g NL cap i : Nat} {num : Int} {f : Nat → G3} {v : Value} {l : List G3} {Q : Exit → Act → World → Prop} {N : Nat} {c0 c1 c2 c3 c4 body : Code} {z0 : Nat}  {x2 x3 x8 x9 x10 x11 x12 x13 x14 x15 x16 x17 x18 x19 x20 x21 x22 x23 x24 x25 x26 x27 x28 x29 x30 x31 x32 x33 x34 x35 x36 x37 x38 x39 x40 x41 x42 x43 x44 : Value}
    (hB : Try.f19.body = some (.seq c0 (.seq c1 (.seq c2 (.seq (.seq c3 (.block z0 (.loop body))) c4))))) (hc : Aside0 (w0.cell? ⟨q, 0, none⟩ = some (.slice (some ⟨g, 0, none⟩) NL cap))) (HF : Aside0 (RowF w0 g NL f)) (HB : Aside0 (Below w0.heap.size w0 w)) (HR : Aside0 (RowG w w0.heap.size v l)) (HL : Aside0 (l.length ≤ 1000)) (hi : i < NL) (hl : NL ≤ 1000) (heq : (f i).1 = num)
    (cont : ∀ (y2 y3 y8 y9 y10 y11 y12 y13 y14 y15 y16 y17 y18 y19 y20 y21 y22 y23 y24 y25 y26 y27 y28 y29 y30 y31 y32 y33 y34 y35 y36 y37 y38 y39 y40 y41 y42 y43 y44 : Value), Code.rounds Try.prog body Q N ⟨#[.pointer (some ⟨q, 0, none⟩), .int .i64 num, y2, y3, .pointer (some ⟨r1, 0, none⟩), .pointer (some ⟨r2, 0, none⟩), v, .int .i64 (i + 1), y8, y9, y10, y11, y12, y13, y14, y15, y16, y17, y18, y19, y20, y21, y22, y23, y24, y25, y26, y27, y28, y29, y30, y31, y32, y33, y34, y35, y36, y37, y38, y39, y40, y41, y42, y43, y44], []⟩ w) : Code.rounds Try.prog body Q (N + 1) ⟨#[.pointer (some ⟨q, 0, none⟩), .int .i64 num, x2, x3, .pointer (some ⟨r1, 0, none⟩), .pointer (some ⟨r2, 0, none⟩), v, .int .i64 i, x8, x9, x10, x11, x12, x13, x14, x15, x16, x17, x18, x19, x20, x21, x22, x23, x24, x25, x26, x27, x28, x29, x30, x31, x32, x33, x34, x35, x36, x37, x38, x39, x40, x41, x42, x43, x44], []⟩ w := by
  have hbody := rdrop_body rfl hB
  clear hB
  subst hbody
  have hcont := Aside0.mk cont
  clear cont
  rw [rounds_succ]
  have c0 := (HB.out.cell (World.block_lt_of_cell? w0 _ hc.out)).trans hc.out
  have cI := (HF.out.keep HB.out).cell0 hi
  rw [Nat.mul_comm, heq] at cI
  clear heq
  go_wp2
  exact hcont.out _ _ _ _ _ _ _ _ _ _ _ _ _ _ _ _ _ _ _ _ _ _ _ _ _ _ _ _ _ _ _ _ _ _ _ _ _ _ _
set_option maxRecDepth 100000 in
set_option maxHeartbeats 4000000 in
theorem rdrop_keep {w0 w : World} {q r1 r2 g NL cap i : Nat} {num : Int} {f : Nat → G3} {v : Value} {l : List G3} {Q : Exit → Act → World → Prop} {N : Nat} {c0 c1 c2 c3 c4 body : Code} {z0 : Nat}  {x2 x3 x8 x9 x10 x11 x12 x13 x14 x15 x16 x17 x18 x19 x20 x21 x22 x23 x24 x25 x26 x27 x28 x29 x30 x31 x32 x33 x34 x35 x36 x37 x38 x39 x40 x41 x42 x43 x44 : Value}
    (hB : Try.f19.body = some (.seq c0 (.seq c1 (.seq c2 (.seq (.seq c3 (.block z0 (.loop body))) c4))))) (hc : Aside0 (w0.cell? ⟨q, 0, none⟩ = some (.slice (some ⟨g, 0, none⟩) NL cap))) (HF : Aside0 (RowF w0 g NL f)) (HB : Aside0 (Below w0.heap.size w0 w)) (HR : Aside0 (RowG w w0.heap.size v l)) (HL : Aside0 (l.length ≤ 1000)) (hi : i < NL) (hl : NL ≤ 1000) (hne : (f i).1 ≠ num)
    (cont : ∀ (w' : World) (v' : Value) (y2 y3 y8 y9 y10 y11 y12 y13 y14 y15 y16 y17 y18 y19 y20 y21 y22 y23 y24 y25 y26 y27 y28 y29 y30 y31 y32 y33 y34 y35 y36 y37 y38 y39 y40 y41 y42 y43 y44 : Value), RowG w' w0.heap.size v' (l ++ [f i]) → Below w0.heap.size w0 w' → Code.rounds Try.prog body Q N ⟨#[.pointer (some ⟨q, 0, none⟩), .int .i64 num, y2, y3, .pointer (some ⟨r1, 0, none⟩), .pointer (some ⟨r2, 0, none⟩), v', .int .i64 (i + 1), y8, y9, y10, y11, y12, y13, y14, y15, y16, y17, y18, y19, y20, y21, y22, y23, y24, y25, y26, y27, y28, y29, y30, y31, y32, y33, y34, y35, y36, y37, y38, y39, y40, y41, y42, y43, y44], []⟩ w') : Code.rounds Try.prog body Q (N + 1) ⟨#[.pointer (some ⟨q, 0, none⟩), .int .i64 num, x2, x3, .pointer (some ⟨r1, 0, none⟩), .pointer (some ⟨r2, 0, none⟩), v, .int .i64 i, x8, x9, x10, x11, x12, x13, x14, x15, x16, x17, x18, x19, x20, x21, x22, x23, x24, x25, x26, x27, x28, x29, x30, x31, x32, x33, x34, x35, x36, x37, x38, x39, x40, x41, x42, x43, x44], []⟩ w := by
  have hbody := rdrop_body rfl hB
  clear hB
  subst hbody
  have hcont := Aside0.mk cont
  clear cont
  rw [rounds_succ]
  have c0 := (HB.out.cell (World.block_lt_of_cell? w0 _ hc.out)).trans hc.out
  have F1 := HF.out.keep HB.out
  have cI := F1.cell0 hi
  have hb : ((f i).1 == num) = false := by simp [hne]
  have LD := Aside0.mk (row_load F1 hi)
  have IJ := Aside0.mk (fun (v : World) => row_index (w := v) (g := g) (cap := cap) hi)
  clear F1 hne
  rw [Nat.mul_comm] at cI
  generalize f i = x at cI hb LD hcont
  obtain ⟨a, b, c⟩ := x
  obtain ⟨i0, hi0, hz0, hz1, hz2⟩ := infoG
  have HI := Aside0.mk hi0
  have HI0 := Aside0.mk hz0
  have HI1 := Aside0.mk hz1
  have HI2 := Aside0.mk hz2
  clear hi0 hz0 hz1 hz2
  go_upto_region 7 with fail
  go_upto_region 99 with (first
    | (refine Great.wpList_readTo rfl (some 36) rfl (.pointer (some ⟨g, 3 * i, none⟩)) (exec_indexAddr rfl (IJ.out _)) ?_)
    | (refine Great.wpList_readTo rfl (some 37) rfl (gv a b c) (exec_load rfl LD.out) ?_)
    | (at_builtin; refine wpList_append_own _ rfl _ _ 34 rfl w0.heap.size 38 i0 (gv 0 0 0) 3 24 Try.underlying34 HI.out HI0.out HI1.out HI2.out rfl (by decide) v l.length (flat l) rfl (HR.out.alloc _) ⟨w.heap.size, 0, none⟩ 1 1 [.int .i64 a, .int .i64 b, .int .u64 c] rfl rfl (new_three _ _ _ _) (fun x hx => by simp at hx; rcases hx with rfl | rfl | rfl <;> rfl) (by have := HL.out; unfold maxLen; omega) (by have := HL.out; omega) (Nat.le_trans HB.out.size (by simp)) ?_; intro v' w3 hown' hgrow3 hnil3; have HO := Aside0.mk hown'; have HB3 := Aside0.mk (((HB.out.alloc HB.out.size (.cells #[.int .i64 a, .int .i64 b, .int .u64 c] 38)).grown hgrow3 (Nat.le_trans HB.out.size (by simp)) (own_base HR.out))); clear hown' hgrow3 hnil3))
  exact hcont.out _ v' _ _ _ _ _ _ _ _ _ _ _ _ _ _ _ _ _ _ _ _ _ _ _ _ _ _ _ _ _ _ _ _ _ _ _ _ _ _ _ (RowG.snoc HO.out) HB3.out
set_option maxRecDepth 100000 in
set_option maxHeartbeats 4000000 in
theorem rdrop_end {w : World} {A : Option Addr} {q r1 r2 NL cap i : Nat} {num : Int} {v : Value} {Q : Exit → Act → World → Prop} {N : Nat} {c0 c1 c2 c3 c4 body : Code} {z0 : Nat}  {x2 x3 x8 x9 x10 x11 x12 x13 x14 x15 x16 x17 x18 x19 x20 x21 x22 x23 x24 x25 x26 x27 x28 x29 x30 x31 x32 x33 x34 x35 x36 x37 x38 x39 x40 x41 x42 x43 x44 : Value}
    (hB : Try.f19.body = some (.seq c0 (.seq c1 (.seq c2 (.seq (.seq c3 (.block z0 (.loop body))) c4))))) (hc : w.cell? ⟨q, 0, none⟩ = some (.slice A NL cap)) (hl : NL ≤ 1000) (hi : i = NL)
    (cont : ∀ (y2 y3 y8 y9 y10 y11 y12 y13 y14 y15 y16 y17 y18 y19 y20 y21 y22 y23 y24 y25 y26 y27 y28 y29 y30 y31 y32 y33 y34 y35 y36 y37 y38 y39 y40 y41 y42 y43 y44 : Value), Q (.exit 0) ⟨#[.pointer (some ⟨q, 0, none⟩), .int .i64 num, y2, y3, .pointer (some ⟨r1, 0, none⟩), .pointer (some ⟨r2, 0, none⟩), v, .int .i64 NL, y8, y9, y10, y11, y12, y13, y14, y15, y16, y17, y18, y19, y20, y21, y22, y23, y24, y25, y26, y27, y28, y29, y30, y31, y32, y33, y34, y35, y36, y37, y38, y39, y40, y41, y42, y43, y44], []⟩ w) : Code.rounds Try.prog body Q (N + 1) ⟨#[.pointer (some ⟨q, 0, none⟩), .int .i64 num, x2, x3, .pointer (some ⟨r1, 0, none⟩), .pointer (some ⟨r2, 0, none⟩), v, .int .i64 i, x8, x9, x10, x11, x12, x13, x14, x15, x16, x17, x18, x19, x20, x21, x22, x23, x24, x25, x26, x27, x28, x29, x30, x31, x32, x33, x34, x35, x36, x37, x38, x39, x40, x41, x42, x43, x44], []⟩ w := by
  subst hi
  have hbody := rdrop_body rfl hB
  clear hB
  subst hbody
  have hcont := Aside0.mk cont
  clear cont
  rw [rounds_succ]
  go_wp2
  exact hcont.out _ _ _ _ _ _ _ _ _ _ _ _ _ _ _ _ _ _ _ _ _ _ _ _ _ _ _ _ _ _ _ _ _ _ _ _ _ _ _
theorem filter_take {f : Nat → G3} {p : G3 → Bool} {i : Nat} : ((List.range (i + 1)).map f).filter p = ((List.range i).map f).filter p ++ (if p (f i) = true then [f i] else []) := by
  rw [List.range_succ, List.map_append, List.filter_append]
  congr 1
  simp only [List.map_cons, List.map_nil, List.filter_cons, List.filter_nil]
theorem rdrop_loop {w0 : World} {q r1 r2 g NL cap : Nat} {num : Int} {f : Nat → G3} {Q : Exit → Act → World → Prop} {c0 c1 c2 c3 c4 body : Code} {z0 : Nat} 
    (hB : Try.f19.body = some (.seq c0 (.seq c1 (.seq c2 (.seq (.seq c3 (.block z0 (.loop body))) c4))))) (hc : w0.cell? ⟨q, 0, none⟩ = some (.slice (some ⟨g, 0, none⟩) NL cap)) (HF : RowF w0 g NL f) (hl : NL ≤ 1000)
    (hE : ∀ (w' : World) (v' : Value) (y2 y3 y8 y9 y10 y11 y12 y13 y14 y15 y16 y17 y18 y19 y20 y21 y22 y23 y24 y25 y26 y27 y28 y29 y30 y31 y32 y33 y34 y35 y36 y37 y38 y39 y40 y41 y42 y43 y44 : Value), RowG w' w0.heap.size v' (((List.range NL).map f).filter (fun (x : G3) => decide (x.1 ≠ num))) → Below w0.heap.size w0 w' → Q (.exit 0) ⟨#[.pointer (some ⟨q, 0, none⟩), .int .i64 num, y2, y3, .pointer (some ⟨r1, 0, none⟩), .pointer (some ⟨r2, 0, none⟩), v', .int .i64 NL, y8, y9, y10, y11, y12, y13, y14, y15, y16, y17, y18, y19, y20, y21, y22, y23, y24, y25, y26, y27, y28, y29, y30, y31, y32, y33, y34, y35, y36, y37, y38, y39, y40, y41, y42, y43, y44], []⟩ w') :
    ∀ (d i : Nat) (w : World) (v : Value) (x2 x3 x8 x9 x10 x11 x12 x13 x14 x15 x16 x17 x18 x19 x20 x21 x22 x23 x24 x25 x26 x27 x28 x29 x30 x31 x32 x33 x34 x35 x36 x37 x38 x39 x40 x41 x42 x43 x44 : Value), i + d = NL → RowG w w0.heap.size v (((List.range i).map f).filter (fun (x : G3) => decide (x.1 ≠ num))) → Below w0.heap.size w0 w → Code.rounds Try.prog body Q (d + 1) ⟨#[.pointer (some ⟨q, 0, none⟩), .int .i64 num, x2, x3, .pointer (some ⟨r1, 0, none⟩), .pointer (some ⟨r2, 0, none⟩), v, .int .i64 i, x8, x9, x10, x11, x12, x13, x14, x15, x16, x17, x18, x19, x20, x21, x22, x23, x24, x25, x26, x27, x28, x29, x30, x31, x32, x33, x34, x35, x36, x37, x38, x39, x40, x41, x42, x43, x44], []⟩ w := by
  intro d
  induction d with
  | zero =>
    intro i w v x2 x3 x8 x9 x10 x11 x12 x13 x14 x15 x16 x17 x18 x19 x20 x21 x22 x23 x24 x25 x26 x27 x28 x29 x30 x31 x32 x33 x34 x35 x36 x37 x38 x39 x40 x41 x42 x43 x44 hd HR HB
    obtain rfl : i = NL := by omega
    exact rdrop_end (A := some ⟨g, 0, none⟩) (cap := cap) hB ((HB.cell (World.block_lt_of_cell? w0 _ hc)).trans hc) hl rfl (fun y2 y3 y8 y9 y10 y11 y12 y13 y14 y15 y16 y17 y18 y19 y20 y21 y22 y23 y24 y25 y26 y27 y28 y29 y30 y31 y32 y33 y34 y35 y36 y37 y38 y39 y40 y41 y42 y43 y44 => hE w v y2 y3 y8 y9 y10 y11 y12 y13 y14 y15 y16 y17 y18 y19 y20 y21 y22 y23 y24 y25 y26 y27 y28 y29 y30 y31 y32 y33 y34 y35 y36 y37 y38 y39 y40 y41 y42 y43 y44 HR HB)
  | succ d ih =>
    intro i w v x2 x3 x8 x9 x10 x11 x12 x13 x14 x15 x16 x17 x18 x19 x20 x21 x22 x23 x24 x25 x26 x27 x28 x29 x30 x31 x32 x33 x34 x35 x36 x37 x38 x39 x40 x41 x42 x43 x44 hd HR HB
    have hi : i < NL := by omega
    have hlen : (((List.range i).map f).filter (fun (x : G3) => decide (x.1 ≠ num))).length ≤ 1000 := by
      have := List.length_filter_le (fun (x : G3) => decide (x.1 ≠ num)) ((List.range i).map f)
      simp only [List.length_map, List.length_range] at this
      omega
    by_cases e : (f i).1 = num
    · refine rdrop_skip hB ⟨hc⟩ ⟨HF⟩ ⟨HB⟩ ⟨HR⟩ ⟨hlen⟩ hi hl e (fun y2 y3 y8 y9 y10 y11 y12 y13 y14 y15 y16 y17 y18 y19 y20 y21 y22 y23 y24 y25 y26 y27 y28 y29 y30 y31 y32 y33 y34 y35 y36 y37 y38 y39 y40 y41 y42 y43 y44 => ih (i + 1) w v y2 y3 y8 y9 y10 y11 y12 y13 y14 y15 y16 y17 y18 y19 y20 y21 y22 y23 y24 y25 y26 y27 y28 y29 y30 y31 y32 y33 y34 y35 y36 y37 y38 y39 y40 y41 y42 y43 y44 (by omega) ?_ HB)
      rw [filter_take, if_neg (by simp [e]), List.append_nil]
      exact HR
    · refine rdrop_keep hB ⟨hc⟩ ⟨HF⟩ ⟨HB⟩ ⟨HR⟩ ⟨hlen⟩ hi hl e (fun w' v' y2 y3 y8 y9 y10 y11 y12 y13 y14 y15 y16 y17 y18 y19 y20 y21 y22 y23 y24 y25 y26 y27 y28 y29 y30 y31 y32 y33 y34 y35 y36 y37 y38 y39 y40 y41 y42 y43 y44 R' B' => ih (i + 1) w' v' y2 y3 y8 y9 y10 y11 y12 y13 y14 y15 y16 y17 y18 y19 y20 y21 y22 y23 y24 y25 y26 y27 y28 y29 y30 y31 y32 y33 y34 y35 y36 y37 y38 y39 y40 y41 y42 y43 y44 (by omega) ?_ B')
      rw [filter_take, if_pos (by simpa using e)]
      exact R'
set_option maxRecDepth 100000 in
set_option maxHeartbeats 8000000 in
theorem rdrop_calls {w : World} {q B : Nat} {l : List G3} {n num : Int} {v : Value} (T : RefT w q B l n v) (hl : l.length ≤ 1000) (hB : B ≤ w.heap.size) : Calls Try.prog 19 #[.pointer (some ⟨q, 0, none⟩), .int .i64 num] w fun e w' => ∃ v', e = .returned (foundV (l.find? (fun g => decide (g.1 = num)))) ∧ RefT w' q B (l.filter (fun (x : G3) => decide (x.1 ≠ num))) n v' ∧ (∀ B', B' ≤ q → Below B' w w') ∧ (∀ k, k < w.heap.size → k ≠ q → w'.heap[k]? = w.heap[k]?) ∧ w.heap.size ≤ w'.heap.size := by
  have hq := blk_lt T.head
  have BL := Aside0.mk ((Below.refl w.heap.size w).alloc (Nat.le_refl _) (.cells (fcs (0, 0, 0) false) 53))
  have RR := Aside0.mk (heap_alloc_last w (.cells (fcs (0, 0, 0) false) 53))
  have T1 : Aside0 (RefT (w.alloc (.cells (fcs (0, 0, 0) false) 53)) q B l n v) := ⟨⟨(BL.out.block q hq).trans T.head, RowG.move T.row (fun k hk => BL.out.block k (RowG.lt T.row k hk))⟩⟩
  have Z0 : (w.alloc (.cells (fcs (0, 0, 0) false) 53)).heap.size = w.heap.size + 1 := by simp
  clear T
  obtain ⟨ov, hov⟩ : ∃ ov, l.find? (fun g => decide (g.1 = num)) = ov := ⟨_, rfl⟩
  obtain ⟨ox, hox⟩ : ∃ ox, ov.getD (0, 0, 0) = ox := ⟨_, rfl⟩
  obtain ⟨ob, hob⟩ : ∃ ob, ov.isSome = ob := ⟨_, rfl⟩
  have OV : Aside0 (foundV (l.find? (fun g => decide (g.1 = num))) = fv ox ob) := ⟨by rw [hov, foundV_fv, hox, hob]⟩
  clear hov hox hob
  go_enter Try.func19, Try.ntmps19
  go_wp2_with (go_at_call 22; refine (rlook_calls (num := num) T1.out hl).mono ?_; rintro e w1 ⟨hb, rfl⟩; rw [OV.out]; have hb2 := hb.alloc hb.size (.cells (fcs ox ob) 53); have BLA := Aside0.mk (BL.out.trans (hb2.mono BL.out.size)); have R1 := Aside0.mk ((hb2.block _ (by rw [Z0]; omega)).trans RR.out); have R2 := Aside0.mk (heap_alloc_last w1 (.cells (fcs ox ob) 53)); have HQ := Aside0.mk ((hb2.block q (by rw [Z0]; omega)).trans T1.out.head); have HRW := Aside0.mk (RowG.move T1.out.row (fun k hk => hb2.block k (RowG.lt T1.out.row k hk))); have Z3 := hb.size; clear hb hb2; dsimp only)
  have hr12 : w.heap.size < w1.heap.size := by rw [Z0] at Z3; omega
  generalize w1.heap.size = r2 at R2 hr12 Z3 ⊢
  generalize hw2 : w1.alloc (.cells (fcs ox ob) 53) = w2 at BLA R1 R2 HQ HRW ⊢
  clear hw2
  rcases HRW.out.fn with ⟨rfl, rfl⟩ | ⟨g, cap, f, rfl, hg, hcap, hF, hfl⟩
  · refine wp_loop_rounds (0 + 1) ?_
    refine rdrop_end (q := q) (A := none) (NL := 0) (cap := 0) (num := num) rfl (blk_cell HQ.out 0) (by omega) rfl ?_
    intro y2 y3 y8 y9 y10 y11 y12 y13 y14 y15 y16 y17 y18 y19 y20 y21 y22 y23 y24 y25 y26 y27 y28 y29 y30 y31 y32 y33 y34 y35 y36 y37 y38 y39 y40 y41 y42 y43 y44
    have HB := Aside0.mk (Below.refl w2.heap.size w2)
    have HR := Aside0.mk (RowG.nil w2 w2.heap.size)
    go_upto_region 8 with fail
    have HD := (HB.out.block q (Nat.lt_of_lt_of_le hq BLA.out.size)).trans HQ.out
    obtain ⟨w4, ST, S1, S2⟩ := ref_storeL HD (A := none) (len := 0) (cap := 0)
    have HD4 := Aside0.mk S1
    have r2w := (HB.out.block _ (blk_lt R2.out)).trans R2.out
    have r1w := (HB.out.block _ (blk_lt R1.out)).trans R1.out
    have R24 := (S2.block _ (blk_lt r2w) (fun e => by injection e with e; omega)).trans r2w
    have R14 := (S2.block _ (blk_lt r1w) (fun e => by injection e with e; omega)).trans r1w
    have L2 := Aside0.mk (found_loadAt R24)
    obtain ⟨w5, ST5, S51, S52⟩ := found_store R14 ox ob
    have ST' := Aside0.mk ST
    have ST5' := Aside0.mk ST5
    have KEEP := Aside0.mk (And.intro S2 S52)
    have RES := Aside0.mk S51
    clear ST ST5 S1 S2 S51 S52 R24 R14 r2w r1w HD
    go_upto_region 99 with (first
      | (refine Great.wpList_readTo rfl (some 44) rfl (fv ox ob) (exec_load rfl L2.out) ?_)
      | (refine wpList_doTo rfl w4 (exec_store rfl ST'.out) ?_)
      | (refine wpList_doTo rfl w5 (exec_store rfl ST5'.out) ?_))
    (try simp only [Exit.inBlock, Exit.then])
    obtain ⟨S2, S52⟩ := KEEP.out
    have Z1 := BLA.out.size
    have Z2 := HB.out.size
    have Z4 := S2.size
    have Z5 := S52.size
    have hr2 := blk_lt R2.out
    have ob' := own_base HR.out
    have lt' := RowG.lt HR.out
    refine bodyPost_ret_by (results_cell rfl _ _ ⟨w.heap.size, 0, none⟩ (fv ox ob) rfl (FoundAt.load RES.out)) rfl ⟨_, by rw [OV.out], ⟨(S52.block q (by omega) (fun e => by injection e with e; omega)).trans HD4.out, ?_⟩, ?_, ?_, by omega⟩
    · exact (RowG.move HR.out (fun k hk => (S52.block k (by have := lt' k hk; omega) (fun e => by injection e with e; have := ob' k hk; omega)).trans (S2.block k (lt' k hk) (fun e => by injection e with e; have := ob' k hk; omega)))).base (by omega)
    · intro B' hB'
      exact (((BLA.out.mono (by omega)).trans (HB.out.mono (by omega))).grown S2 (by omega) (fun k e => by injection e with e; omega)).grown S52 (by omega) (fun k e => by injection e with e; omega)
    · intro k hk hkq
      exact (S52.block k (by omega) (fun e => by injection e with e; omega)).trans ((S2.block k (by omega) (fun e => by injection e with e; omega)).trans ((HB.out.block k (by omega)).trans (BLA.out.block k hk)))
  · refine wp_loop_rounds (l.length + 1) ?_
    refine rdrop_loop (w0 := w2) (g := g) (cap := cap) (f := f) rfl (blk_cell HQ.out 0) hF hl ?_ l.length 0 w2 (.slice none 0 0) _ _ _ _ _ _ _ _ _ _ _ _ _ _ _ _ _ _ _ _ _ _ _ _ _ _ _ _ _ _ _ _ _ _ _ _ _ _ _ (by omega) (RowG.nil _ _) (Below.refl _ _)
    rw [hfl]
    intro w3 v3 y2 y3 y8 y9 y10 y11 y12 y13 y14 y15 y16 y17 y18 y19 y20 y21 y22 y23 y24 y25 y26 y27 y28 y29 y30 y31 y32 y33 y34 y35 y36 y37 y38 y39 y40 y41 y42 y43 y44 hR hB3
    have HB := Aside0.mk hB3
    have HR := Aside0.mk hR
    clear hR hB3
    go_upto_region 8 with fail
    obtain ⟨Ar, capr, rfl⟩ := HR.out.sl
    have HD := (HB.out.block q (Nat.lt_of_lt_of_le hq BLA.out.size)).trans HQ.out
    obtain ⟨w4, ST, S1, S2⟩ := ref_storeL HD (A := Ar) (len := (l.filter (fun (x : G3) => decide (x.1 ≠ num))).length) (cap := capr)
    have HD4 := Aside0.mk S1
    have r2w := (HB.out.block _ (blk_lt R2.out)).trans R2.out
    have r1w := (HB.out.block _ (blk_lt R1.out)).trans R1.out
    have R24 := (S2.block _ (blk_lt r2w) (fun e => by injection e with e; omega)).trans r2w
    have R14 := (S2.block _ (blk_lt r1w) (fun e => by injection e with e; omega)).trans r1w
    have L2 := Aside0.mk (found_loadAt R24)
    obtain ⟨w5, ST5, S51, S52⟩ := found_store R14 ox ob
    have ST' := Aside0.mk ST
    have ST5' := Aside0.mk ST5
    have KEEP := Aside0.mk (And.intro S2 S52)
    have RES := Aside0.mk S51
    clear ST ST5 S1 S2 S51 S52 R24 R14 r2w r1w HD
    go_upto_region 99 with (first
      | (refine Great.wpList_readTo rfl (some 44) rfl (fv ox ob) (exec_load rfl L2.out) ?_)
      | (refine wpList_doTo rfl w4 (exec_store rfl ST'.out) ?_)
      | (refine wpList_doTo rfl w5 (exec_store rfl ST5'.out) ?_))
    (try simp only [Exit.inBlock, Exit.then])
    obtain ⟨S2, S52⟩ := KEEP.out
    have Z1 := BLA.out.size
    have Z2 := HB.out.size
    have Z4 := S2.size
    have Z5 := S52.size
    have hr2 := blk_lt R2.out
    have ob' := own_base HR.out
    have lt' := RowG.lt HR.out
    refine bodyPost_ret_by (results_cell rfl _ _ ⟨w.heap.size, 0, none⟩ (fv ox ob) rfl (FoundAt.load RES.out)) rfl ⟨_, by rw [OV.out], ⟨(S52.block q (by omega) (fun e => by injection e with e; omega)).trans HD4.out, ?_⟩, ?_, ?_, by omega⟩
    · exact (RowG.move HR.out (fun k hk => (S52.block k (by have := lt' k hk; omega) (fun e => by injection e with e; have := ob' k hk; omega)).trans (S2.block k (lt' k hk) (fun e => by injection e with e; have := ob' k hk; omega)))).base (by omega)
    · intro B' hB'
      exact (((BLA.out.mono (by omega)).trans (HB.out.mono (by omega))).grown S2 (by omega) (fun k e => by injection e with e; omega)).grown S52 (by omega) (fun k e => by injection e with e; omega)
    · intro k hk hkq
      exact (S52.block k (by omega) (fun e => by injection e with e; omega)).trans ((S2.block k (by omega) (fun e => by injection e with e; omega)).trans ((HB.out.block k (by omega)).trans (BLA.out.block k hk)))
end Go.Proofs.Ytikbgoppmailjaa.H
/- Two rows of the same leases are told to be alike. -/
namespace Go.Proofs.Ytikbgoppmailjaa.H
open Go.RowKit Go.HK Go.Maps Go.Lib Go.WideShapes Go.ChangeShapes Go.Proofs.YtikbgoppmailjaaW.PrintWords Go.Proofs.YtikbgoppmailjaaW.PrintLast Go.Proofs.YtikbgoppmailjaaW.PrintMore
set_option linter.unusedVariables false
set_option linter.unusedSimpArgs false
theorem alike_body {c0 c1 c2 c3 body : Code} {z0 : Nat}  {c0' c1' c2' c3' body' : Code} {z0' : Nat}  (h : Try.f20.body = some (.seq c0 (.seq c1 (.seq (.seq c2 (.block z0 (.loop body))) c3)))) (h' : Try.f20.body = some (.seq c0' (.seq c1' (.seq (.seq c2' (.block z0' (.loop body'))) c3')))) : body' = body := by
  rw [h] at h'
  simp only [Option.some.injEq, Code.seq.injEq, Code.cond.injEq, Code.block.injEq, Code.loop.injEq] at h'
  simp only [h']
set_option maxRecDepth 100000 in
set_option maxHeartbeats 4000000 in
theorem alike_round {w : World} {g1 g2 NL cap1 cap2 i : Nat} {f1 f2 : Nat → G3} {Q : Exit → Act → World → Prop} {N : Nat} {c0 c1 c2 c3 body : Code} {z0 : Nat}  {x2 x3 x6 x7 x8 x9 x10 x11 x12 x13 x14 x15 x16 x17 x18 x19 x20 x21 x22 x23 x24 x25 : Value}
    (hB : Try.f20.body = some (.seq c0 (.seq c1 (.seq (.seq c2 (.block z0 (.loop body))) c3)))) (hPQ : Aside0 (∀ c a d v w, Q (.panic c) (a.put d v) w → Q (.panic c) a w)) (H1 : Aside0 (RowF w g1 NL f1)) (H2 : Aside0 (RowF w g2 NL f2)) (HE : f1 i = f2 i) (hi : i < NL) (hl : NL ≤ 1000)
    (cont : ∀ (y2 y3 y6 y7 y8 y9 y10 y11 y12 y13 y14 y15 y16 y17 y18 y19 y20 y21 y22 y23 y24 y25 : Value), Code.rounds Try.prog body Q N ⟨#[.slice (some ⟨g1, 0, none⟩) NL cap1, .slice (some ⟨g2, 0, none⟩) NL cap2, y2, y3, .bool false, .int .i64 (i + 1), y6, y7, y8, y9, y10, y11, y12, y13, y14, y15, y16, y17, y18, y19, y20, y21, y22, y23, y24, y25], []⟩ w.drew) : Code.rounds Try.prog body Q (N + 1) ⟨#[.slice (some ⟨g1, 0, none⟩) NL cap1, .slice (some ⟨g2, 0, none⟩) NL cap2, x2, x3, .bool false, .int .i64 i, x6, x7, x8, x9, x10, x11, x12, x13, x14, x15, x16, x17, x18, x19, x20, x21, x22, x23, x24, x25], []⟩ w := by
  have hbody := alike_body rfl hB
  clear hB
  subst hbody
  have hcont := Aside0.mk cont
  clear cont
  rw [rounds_succ]
  obtain ⟨⟨a, b, c⟩, hx⟩ : ∃ x, f1 i = x := ⟨_, rfl⟩
  have LDa := Aside0.mk (fun (w' : World) (h : RowF w' g1 NL f1) => (show (Instr.loadAt 38 (.pointer (some ⟨g1, 3 * i, none⟩))).run Try.prog w' = .ok (gv a b c) w' by have := row_load h hi; rw [hx] at this; exact this))
  have LDb := Aside0.mk (fun (w' : World) (h : RowF w' g2 NL f2) => (show (Instr.loadAt 38 (.pointer (some ⟨g2, 3 * i, none⟩))).run Try.prog w' = .ok (gv a b c) w' by have := row_load h hi; rw [← HE, hx] at this; exact this))
  clear hx HE
  go_upto_region 6 with fail
  have F1 : RowF w.drew g1 NL f1 := H1.out.block rfl
  have F2 : RowF w.drew g2 NL f2 := H2.out.block rfl
  refine start_ (n := 9) (S := fun w' => RowF w' g1 NL f1 ∧ RowF w' g2 NL f2) (ds := []) #[false, false, false, false, false, false, false, false, false] (by kernel_rfl) rfl rfl ⟨F1, F2⟩ (fun hHeld => ?_)
  refine pure_ (i := 0) (N := some 17) (v := ?_) (a' := ?_) #[true, false, false, false, false, false, false, false, false] rfl rfl (by kernel_rfl) (fun _ _ _ h => hPQ.out _ _ _ _ _ h) (Or.inl ⟨by rfl, ?_⟩) ?_ ?_
  rotate_left
  · intro w'
    go_simp
    with_reducible rfl
  rotate_left
  · simp only [Act.put, List.setIfInBounds_toArray, List.set_cons_zero, List.set_cons_succ, i64_w, i32_w]
    rfl
  refine pure_ (i := 1) (N := some 18) (v := ?_) (a' := ?_) #[true, true, false, false, false, false, false, false, false] rfl rfl (by kernel_rfl) (fun _ _ _ h => hPQ.out _ _ _ _ _ h) (Or.inl ⟨by rfl, ?_⟩) ?_ ?_
  rotate_left
  · intro w'
    go_simp
    with_reducible rfl
  rotate_left
  · simp only [Act.put, List.setIfInBounds_toArray, List.set_cons_zero, List.set_cons_succ, i64_w, i32_w]
    rfl
  refine pure_ (i := 2) (N := some 19) (v := ?_) (a' := ?_) #[true, true, true, false, false, false, false, false, false] rfl rfl (by kernel_rfl) (fun _ _ _ h => hPQ.out _ _ _ _ _ h) (Or.inl ⟨by rfl, ?_⟩) ?_ ?_
  rotate_left
  · intro w'
    refine (exec_indexAddr rfl (row_index (i := i) hi)).trans ?_
    with_reducible rfl
  rotate_left
  · simp only [Act.put, List.setIfInBounds_toArray, List.set_cons_zero, List.set_cons_succ, i64_w, i32_w]
    rfl
  refine pure_ (i := 4) (N := some 21) (v := ?_) (a' := ?_) #[true, true, true, false, true, false, false, false, false] rfl rfl (by kernel_rfl) (fun _ _ _ h => hPQ.out _ _ _ _ _ h) (Or.inl ⟨by rfl, ?_⟩) ?_ ?_
  rotate_left
  · intro w'
    go_simp
    with_reducible rfl
  rotate_left
  · simp only [Act.put, List.setIfInBounds_toArray, List.set_cons_zero, List.set_cons_succ, i64_w, i32_w]
    rfl
  refine pure_ (i := 5) (N := some 22) (v := ?_) (a' := ?_) #[true, true, true, false, true, true, false, false, false] rfl rfl (by kernel_rfl) (fun _ _ _ h => hPQ.out _ _ _ _ _ h) (Or.inl ⟨by rfl, ?_⟩) ?_ ?_
  rotate_left
  · intro w'
    go_simp
    with_reducible rfl
  rotate_left
  · simp only [Act.put, List.setIfInBounds_toArray, List.set_cons_zero, List.set_cons_succ, i64_w, i32_w]
    rfl
  refine pure_ (i := 6) (N := some 23) (v := ?_) (a' := ?_) #[true, true, true, false, true, true, true, false, false] rfl rfl (by kernel_rfl) (fun _ _ _ h => hPQ.out _ _ _ _ _ h) (Or.inl ⟨by rfl, ?_⟩) ?_ ?_
  rotate_left
  · intro w'
    refine (exec_indexAddr rfl (row_index (i := i) hi)).trans ?_
    with_reducible rfl
  rotate_left
  · simp only [Act.put, List.setIfInBounds_toArray, List.set_cons_zero, List.set_cons_succ, i64_w, i32_w]
    rfl
  refine take_ (i := 3) (N := some 20) (v := ?_) (a' := ?_) #[true, true, true, true, true, true, true, false, false] rfl rfl (by kernel_rfl) (fun _ _ _ h => hPQ.out _ _ _ _ _ h) (Or.inl ⟨by rfl, ?_⟩) hHeld ?_ ?_
  rotate_left
  · rintro w' ⟨s0, s1⟩
    refine (exec_load rfl (LDa.out _ s0)).trans ?_
    with_reducible rfl
  rotate_left
  · simp only [Act.put, List.setIfInBounds_toArray, List.set_cons_zero, List.set_cons_succ, i64_w, i32_w]
    rfl
  refine take_ (i := 7) (N := some 24) (v := ?_) (a' := ?_) #[true, true, true, true, true, true, true, true, false] rfl rfl (by kernel_rfl) (fun _ _ _ h => hPQ.out _ _ _ _ _ h) (Or.inl ⟨by rfl, ?_⟩) hHeld ?_ ?_
  rotate_left
  · rintro w' ⟨s0, s1⟩
    refine (exec_load rfl (LDb.out _ s1)).trans ?_
    with_reducible rfl
  rotate_left
  · simp only [Act.put, List.setIfInBounds_toArray, List.set_cons_zero, List.set_cons_succ, i64_w, i32_w]
    rfl
  refine pure_ (i := 8) (N := some 25) (v := ?_) (a' := ?_) #[true, true, true, true, true, true, true, true, true] rfl rfl (by kernel_rfl) (fun _ _ _ h => hPQ.out _ _ _ _ _ h) (Or.inl ⟨by rfl, ?_⟩) ?_ ?_
  rotate_left
  · intro w'
    go_simp
    with_reducible rfl
  rotate_left
  · simp only [Act.put, List.setIfInBounds_toArray, List.set_cons_zero, List.set_cons_succ, i64_w, i32_w]
    rfl
  refine done_ (by kernel_rfl) ?_
  clear F1 F2
  go_wp2
  exact hcont.out _ _ _ _ _ _ _ _ _ _ _ _ _ _ _ _ _ _ _ _ _ _
set_option maxRecDepth 100000 in
set_option maxHeartbeats 4000000 in
theorem alike_end {w : World} {A1 A2 : Option Addr} {NL cap1 cap2 : Nat} {Q : Exit → Act → World → Prop} {N : Nat} {c0 c1 c2 c3 body : Code} {z0 : Nat}  {x2 x3 x6 x7 x8 x9 x10 x11 x12 x13 x14 x15 x16 x17 x18 x19 x20 x21 x22 x23 x24 x25 : Value}
    (hB : Try.f20.body = some (.seq c0 (.seq c1 (.seq (.seq c2 (.block z0 (.loop body))) c3)))) (hl : NL ≤ 1000) (cont : ∀ (y2 y3 y6 y7 y8 y9 y10 y11 y12 y13 y14 y15 y16 y17 y18 y19 y20 y21 y22 y23 y24 y25 : Value), Q (.exit 0) ⟨#[.slice A1 NL cap1, .slice A2 NL cap2, y2, y3, .bool false, .int .i64 NL, y6, y7, y8, y9, y10, y11, y12, y13, y14, y15, y16, y17, y18, y19, y20, y21, y22, y23, y24, y25], []⟩ w) : Code.rounds Try.prog body Q (N + 1) ⟨#[.slice A1 NL cap1, .slice A2 NL cap2, x2, x3, .bool false, .int .i64 NL, x6, x7, x8, x9, x10, x11, x12, x13, x14, x15, x16, x17, x18, x19, x20, x21, x22, x23, x24, x25], []⟩ w := by
  have hbody := alike_body rfl hB
  clear hB
  subst hbody
  have hcont := Aside0.mk cont
  clear cont
  rw [rounds_succ]
  go_wp2
  exact hcont.out _ _ _ _ _ _ _ _ _ _ _ _ _ _ _ _ _ _ _ _ _ _
theorem alike_loop {w0 : World} {g1 g2 NL cap1 cap2 : Nat} {f1 f2 : Nat → G3} {Q : Exit → Act → World → Prop} {c0 c1 c2 c3 body : Code} {z0 : Nat} 
    (hB : Try.f20.body = some (.seq c0 (.seq c1 (.seq (.seq c2 (.block z0 (.loop body))) c3)))) (hPQ : Aside0 (∀ c a d v w, Q (.panic c) (a.put d v) w → Q (.panic c) a w)) (H1 : RowF w0 g1 NL f1) (H2 : RowF w0 g2 NL f2) (HE : ∀ i, i < NL → f1 i = f2 i) (hl : NL ≤ 1000)
    (hK : ∀ (w' : World) (y2 y3 y6 y7 y8 y9 y10 y11 y12 y13 y14 y15 y16 y17 y18 y19 y20 y21 y22 y23 y24 y25 : Value), Below w0.heap.size w0 w' → Q (.exit 0) ⟨#[.slice (some ⟨g1, 0, none⟩) NL cap1, .slice (some ⟨g2, 0, none⟩) NL cap2, y2, y3, .bool false, .int .i64 NL, y6, y7, y8, y9, y10, y11, y12, y13, y14, y15, y16, y17, y18, y19, y20, y21, y22, y23, y24, y25], []⟩ w') :
    ∀ (d i : Nat) (w : World) (x2 x3 x6 x7 x8 x9 x10 x11 x12 x13 x14 x15 x16 x17 x18 x19 x20 x21 x22 x23 x24 x25 : Value), i + d = NL → Below w0.heap.size w0 w → Code.rounds Try.prog body Q (d + 1) ⟨#[.slice (some ⟨g1, 0, none⟩) NL cap1, .slice (some ⟨g2, 0, none⟩) NL cap2, x2, x3, .bool false, .int .i64 i, x6, x7, x8, x9, x10, x11, x12, x13, x14, x15, x16, x17, x18, x19, x20, x21, x22, x23, x24, x25], []⟩ w := by
  intro d
  induction d with
  | zero =>
    intro i w x2 x3 x6 x7 x8 x9 x10 x11 x12 x13 x14 x15 x16 x17 x18 x19 x20 x21 x22 x23 x24 x25 hd HB
    obtain rfl : i = NL := by omega
    exact alike_end hB hl (fun y2 y3 y6 y7 y8 y9 y10 y11 y12 y13 y14 y15 y16 y17 y18 y19 y20 y21 y22 y23 y24 y25 => hK w y2 y3 y6 y7 y8 y9 y10 y11 y12 y13 y14 y15 y16 y17 y18 y19 y20 y21 y22 y23 y24 y25 HB)
  | succ d ih =>
    intro i w x2 x3 x6 x7 x8 x9 x10 x11 x12 x13 x14 x15 x16 x17 x18 x19 x20 x21 x22 x23 x24 x25 hd HB
    exact alike_round hB hPQ ⟨H1.keep HB⟩ ⟨H2.keep HB⟩ (HE i (by omega)) (by omega) hl (fun y2 y3 y6 y7 y8 y9 y10 y11 y12 y13 y14 y15 y16 y17 y18 y19 y20 y21 y22 y23 y24 y25 => ih (i + 1) w.drew y2 y3 y6 y7 y8 y9 y10 y11 y12 y13 y14 y15 y16 y17 y18 y19 y20 y21 y22 y23 y24 y25 (by omega) HB.drew)
set_option maxRecDepth 100000 in
set_option maxHeartbeats 4000000 in
theorem alike_calls {w : World} {B1 B2 : Nat} {v1 v2 : Value} {l : List G3} (h1 : RowG w B1 v1 l) (h2 : RowG w B2 v2 l) (hl : l.length ≤ 1000) : Calls Try.prog 20 #[v1, v2] w fun e w' => e = .returned (.bool true) ∧ Below w.heap.size w w' := by
  by_cases h0 : l = []
  · subst h0
    obtain ⟨A1, cap1, rfl⟩ := h1.sl
    obtain ⟨A2, cap2, rfl⟩ := h2.sl
    clear h1 h2
    simp only [List.length_nil]
    go_enter Try.func20, Try.ntmps20
    go_wp2
    refine wp_loop_rounds (0 + 1) ?_
    refine alike_end (NL := 0) rfl (by omega) ?_
    intro y2 y3 y6 y7 y8 y9 y10 y11 y12 y13 y14 y15 y16 y17 y18 y19 y20 y21 y22 y23 y24 y25
    go_wp2
    go_ret
    exact ⟨rfl, Below.refl _ _⟩
  · rcases h1.fn with ⟨_, e⟩ | ⟨g1, cap1, f1, rfl, _, _, hF1, hl1⟩
    · exact absurd e h0
    rcases h2.fn with ⟨_, e⟩ | ⟨g2, cap2, f2, rfl, _, _, hF2, hl2⟩
    · exact absurd e h0
    have HE : ∀ i, i < l.length → f1 i = f2 i := by
      intro i hi
      have e := hl1.trans hl2.symm
      have := congrArg (fun z => z[i]?) e
      simpa [hi] using this
    have F1 := Aside0.mk hF1
    have F2 := Aside0.mk hF2
    have HEA := Aside0.mk HE
    clear h1 h2 hF1 hF2 hl1 hl2 HE
    go_enter Try.func20, Try.ntmps20
    go_wp2
    refine wp_loop_rounds (l.length + 1) ?_
    refine alike_loop (w0 := w) (f1 := f1) (f2 := f2) rfl ?_ F1.out F2.out HEA.out hl ?_ l.length 0 w _ _ _ _ _ _ _ _ _ _ _ _ _ _ _ _ _ _ _ _ _ _ (by omega) (Below.refl _ _)
    · exact ⟨fun c a d v w h => by cases d <;> exact h⟩
    intro w2 y2 y3 y6 y7 y8 y9 y10 y11 y12 y13 y14 y15 y16 y17 y18 y19 y20 y21 y22 y23 y24 y25 hB
    have HB := Aside0.mk hB
    clear hB
    go_wp2
    go_ret
    exact ⟨rfl, HB.out⟩
end Go.Proofs.Ytikbgoppmailjaa.H
