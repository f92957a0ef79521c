import Derived.Test.YtikbgoppmailjaaHLp6
import Derived.Test.YtikbgoppmailjaaHLn2
/- LeasePlays: both tables beside each other; the law's drawn regions. -/
namespace Go.Proofs.Ytikbgoppmailjaa.H
open Go.RowKit Go.HK Go.Maps Go.Lib Go.WideShapes Go.ChangeShapes Go.Proofs.YtikbgoppmailjaaW.PrintWords Go.Proofs.YtikbgoppmailjaaW.PrintLast Go.Proofs.YtikbgoppmailjaaW.PrintMore
set_option linter.unusedVariables false
set_option linter.unusedSimpArgs false
theorem RowG.own_ge {w : World} {B : Nat} {v : Value} {l : List G3} (h : RowG w B v l) : ∀ k, v.ownBlock = some k → B ≤ k := own_base h
/-- The program's table at p, the reference's at q. -/
structure PS (w0 w : World) (p b1 b2 q m : Nat) (n1 : Int) (l1 : List G3) (n2 : Int) (l2 : List G3) (v : Value) : Prop where
  tab : TabL w p n1 b1 b2 m l1
  ref : RefT w q (q + 1) l2 n2 v
  ord : p < q ∧ b1 < q ∧ b2 < q
  low : w0.heap.size ≤ p ∧ w0.heap.size ≤ b1 ∧ w0.heap.size ≤ b2
  below : Below w0.heap.size w0 w
section
variable {w0 w w' : World} {p b1 b2 q m m' : Nat} {n1 n1' n2 n2' : Int} {l1 l1' l2 l2' : List G3} {v v' : Value}
theorem PS.keep (S : PS w0 w p b1 b2 q m n1 l1 n2 l2 v) (h : Below w.heap.size w w') : PS w0 w' p b1 b2 q m n1 l1 n2 l2 v :=
  ⟨S.tab.keep h, ⟨(h.block q (blk_lt S.ref.head)).trans S.ref.head, RowG.move S.ref.row (fun k hk => h.block k (RowG.lt S.ref.row k hk))⟩, S.ord, S.low, S.below.trans (h.mono S.below.size)⟩
theorem PS.onTab (S : PS w0 w p b1 b2 q m n1 l1 n2 l2 v) (T : TabL w' p n1' b1 b2 m' l1') (hb : ∀ B, B ≤ p → B ≤ b1 → B ≤ b2 → Below B w w') (hf : ∀ k, k < w.heap.size → k ≠ p → k ≠ b1 → k ≠ b2 → w'.heap[k]? = w.heap[k]?) : PS w0 w' p b1 b2 q m' n1' l1' n2 l2 v := by
  have hq := blk_lt S.ref.head
  obtain ⟨o1, o2, o3⟩ := S.ord
  refine ⟨T, ⟨(hf q hq (by omega) (by omega) (by omega)).trans S.ref.head, RowG.move S.ref.row (fun k hk => hf k (RowG.lt S.ref.row k hk) ?_ ?_ ?_)⟩, S.ord, S.low, S.below.trans (hb _ S.low.1 S.low.2.1 S.low.2.2)⟩
  all_goals (have := own_base S.ref.row k hk; omega)
theorem PS.onRef (S : PS w0 w p b1 b2 q m n1 l1 n2 l2 v) (T : RefT w' q (q + 1) l2' n2' v') (hb : ∀ B', B' ≤ q → Below B' w w') : PS w0 w' p b1 b2 q m n1 l1 n2' l2' v' :=
  ⟨S.tab.below (hb q (Nat.le_refl _)) S.ord.1 S.ord.2.1 S.ord.2.2, T, S.ord, S.low, S.below.trans (hb _ (by have := S.low.1; have := S.ord.1; omega))⟩
theorem PS.qlt (S : PS w0 w p b1 b2 q m n1 l1 n2 l2 v) : q + 1 ≤ w.heap.size := blk_lt S.ref.head
end
theorem find_mem {l : List G3} {p : G3 → Bool} {g : G3} (h : l.find? p = some g) : g ∈ l ∧ p g = true := ⟨List.mem_of_find?_eq_some h, List.find?_some h⟩
theorem look_any {w : World} {p b1 b2 m : Nat} {n : Int} {l : List G3} (T : TabL w p n b1 b2 m l) {j : Int} (hj : (Lit.int .i64 j).wf = true) {ov : Option G3} (ho : l.find? (fun g => decide (g.1 = j)) = ov) : Calls Try.prog 14 #[.pointer (some ⟨p, 0, none⟩), .int .i64 j] w fun e w' => Below w.heap.size w w' ∧ e = .returned (.tuple #[gx (ov.getD (0, 0, 0)), .bool ov.isSome]) := by
  cases ov with
  | some g =>
    obtain ⟨h1, h2⟩ := find_mem ho
    obtain rfl := of_decide_eq_true h2
    exact look_l_some T h1
  | none =>
    rw [List.find?_eq_none] at ho
    exact look_l_none T hj (fun g hg e => ho g hg (decide_eq_true e))
theorem of_any {w : World} {p b1 b2 m : Nat} {n : Int} {l : List G3} (T : TabL w p n b1 b2 m l) {j : Int} (hj : (Lit.int .i64 j).wf = true) {ov : Option G3} (ho : l.find? (fun g => decide (g.2.1 = j)) = ov) : Calls Try.prog 17 #[.pointer (some ⟨p, 0, none⟩), .int .i64 j] w fun e w' => w' = w ∧ e = .returned (.tuple #[.int .i64 (ov.getD (0, 0, 0)).1, .bool ov.isSome]) := by
  cases ov with
  | some g =>
    obtain ⟨h1, h2⟩ := find_mem ho
    obtain rfl := of_decide_eq_true h2
    exact of_l_some T h1
  | none =>
    rw [List.find?_eq_none] at ho
    exact of_l_none T hj (fun g hg e => ho g hg (decide_eq_true e))
theorem drop_found {w : World} {p b1 b2 m : Nat} {n : Int} {l : List G3} (T : TabL w p n b1 b2 m l) (hu : l.Pairwise (fun x y => x.1 < y.1)) {j : Int} (hj : (Lit.int .i64 j).wf = true) {ov : Option G3} (ho : l.find? (fun g => decide (g.1 = j)) = ov) : Calls Try.prog 10 #[.pointer (some ⟨p, 0, none⟩), .int .i64 j] w fun e w' => e = .returned (.tuple #[.int .i64 (ov.getD (0, 0, 0)).2.1, .bool ov.isSome]) ∧ TabL w' p n b1 b2 m (l.filter (fun (x : G3) => decide (x.1 ≠ j))) ∧ (∀ B, B ≤ p → B ≤ b1 → B ≤ b2 → Below B w w') ∧ ∀ k, k < w.heap.size → k ≠ p → k ≠ b1 → k ≠ b2 → w'.heap[k]? = w.heap[k]? := by
  cases ov with
  | some g =>
    obtain ⟨h1, h2⟩ := find_mem ho
    obtain rfl := of_decide_eq_true h2
    refine (drop_l T h1).mono ?_
    rintro e w' ⟨q1, q2, q3, q4, q5⟩
    exact ⟨q1, q2, q3, fun k hk _ h3 h4 => q5 k hk h3 h4⟩
  | none =>
    rw [List.find?_eq_none] at ho
    have hn : ∀ g ∈ l, g.1 ≠ j := fun g hg e => ho g hg (decide_eq_true e)
    refine (drop_l_none T hj hn).mono ?_
    rintro e w' ⟨q1, q2⟩
    have e1 : l.filter (fun (x : G3) => decide (x.1 ≠ j)) = l := by
      rw [List.filter_eq_self]
      intro x hx
      exact decide_eq_true (hn x hx)
    rw [e1]
    have hp : p < w.heap.size := by obtain ⟨D1, D2, q, _⟩ := T; exact blk_lt q.head
    exact ⟨q2, T.keep q1, fun B a _ _ => q1.mono (by omega), fun k hk _ _ _ => q1.block k hk⟩
theorem run_loadAt_any {P : Program} (w : World) (ad : Addr) (ty : TypeId) (cs : List Value) (d : TypeDesc) (hc : ∀ j v, cs[j]? = some v → w.cell? (ad.add j) = some v)
    (hu : P.underlying ty = some d) (hd : d.isRow = true) (hi : (P.info? ty).map (·.size) = some cs.length) : (Instr.loadAt ty (.pointer (some ad))).run P w = .ok (.agg cs.toArray) w := by
  have hl : (loadCells ad cs.length).run P w = .ok cs.toArray w := run_loadCells_list (P := P) w ad cs hc
  have hv : (loadVar ty ad).run P w = .ok (.agg cs.toArray) w := by
    cases hq : P.info? ty with
    | none => simp [hq] at hi
    | some i =>
      have hs : i.size = cs.length := by simpa [hq] using hi
      have hagg : (isAgg ty).run P w = .ok true w := by
        unfold isAgg
        rw [Sem.run_bind, run_underlying hu w]
        cases d <;> simp_all
      simp [loadVar, Sem.run_bind, hagg, sizeOf, typeInfo, hq, hs, hl]
  simp only [Instr.loadAt, Instr.sureAddr, Sem.run_bind, Sem.run_pure, Result.andThen_ok, hv]
theorem load_act {w : World} {a : Addr} {i : Nat} {d j u : Int} (k0 : w.cell? (a.add (i * 3 + 0)) = some (.int .i64 d)) (k1 : w.cell? (a.add (i * 3 + 1)) = some (.int .i64 j)) (k2 : w.cell? (a.add (i * 3 + 2)) = some (.int .u64 u)) : (Instr.loadAt 30 (.pointer (some (a.add (i * 3))))).run Try.prog w = .ok (.agg #[.int .i64 d, .int .i64 j, .int .u64 u]) w :=
  run_loadAt_any (P := Try.prog) w (a.add (i * 3)) _ [.int .i64 d, .int .i64 j, .int .u64 u] _ (fun z v hv => by
    rw [Go.Deep.add_add]
    match z, hv with
    | 0, hv => rw [← hv]; exact k0
    | 1, hv => rw [← hv]; exact k1
    | 2, hv => rw [← hv]; exact k2
    | z + 3, hv => simp at hv) Try.underlying30 rfl (by kernel_rfl)
theorem RefT.move' {w w' : World} {q B : Nat} {l : List G3} {n : Int} {v : Value} (T : RefT w q B l n v) (h : Below w.heap.size w w') : RefT w' q B l n v :=
  ⟨(h.block q (blk_lt T.head)).trans T.head, RowG.move T.row (fun k hk => h.block k (RowG.lt T.row k hk))⟩
theorem alloc53 (w : World) : ∃ w1 r, (Instr.alloc 53 true (.tuple #[])).run Try.prog w = .ok (.pointer (some ⟨r, 0, none⟩)) w1 ∧ w1.heap[r]? = some (.cells (fcs (0, 0, 0) false) 53 (0, 0)) ∧ w.heap.size ≤ r ∧ w.grownBy w1 none :=
  ⟨w.alloc (.cells (fcs (0, 0, 0) false) 53), w.heap.size, by kernel_rfl, heap_alloc_last w _, Nat.le_refl _, World.grownBy_alloc w _ none⟩
theorem exec_alloc53 {P : Program} {ρ : Operand → Value} {o : Oper} {t : TypeId} (ho : o.op = .alloc t) {w w' : World} {v : Value} (h : (Instr.alloc t true (.tuple #[])).run P w = .ok v w') : (execOp ρ o).run P w = .ok (.value v) w' := by
  unfold execOp
  rw [ho]
  simp only [Sem.run_bind, h, Result.andThen]
  rfl
theorem plays_body26 {c0 c1 c2 c3 c4 c5 c6 c7 c8 c9 c10 c11 body : Code} {z0 z1 : Nat}  {c0' c1' c2' c3' c4' c5' c6' c7' c8' c9' c10' c11' body' : Code} {z0' z1' : Nat}  (h : Try.f6.body = some (.seq c0 (.seq c1 (.seq c2 (.seq (.seq c3 (.block z0 (.loop (.seq c4 (.seq (.block z1 (.seq c5 (.seq c6 (.seq c7 (.seq c8 (.seq body c9)))))) c10))))) c11))))) (h' : Try.f6.body = some (.seq c0' (.seq c1' (.seq c2' (.seq (.seq c3' (.block z0' (.loop (.seq c4' (.seq (.block z1' (.seq c5' (.seq c6' (.seq c7' (.seq c8' (.seq body' c9')))))) c10'))))) c11'))))) : body' = body := by
  rw [h] at h'
  simp only [Option.some.injEq, Code.seq.injEq, Code.cond.injEq, Code.block.injEq, Code.loop.injEq] at h'
  simp only [h']
set_option maxRecDepth 100000 in
set_option maxHeartbeats 8000000 in
theorem plays26 {w : World} {q r : Nat} {n2 j : Int} {l : List G3} {v : Value} {ga gb : G3} {ok1 ok2 : Bool} {Q : Exit → Act → World → Prop} {c0 c1 c2 c3 c4 c5 c6 c7 c8 c9 c10 c11 body : Code} {z0 z1 : Nat}  {x0 x1 x2 x3 x5 x7 x8 x9 x10 x11 x12 x13 x14 x15 x16 x17 x18 x19 x20 x21 x22 x23 x24 x25 x26 x27 x28 x29 x30 x31 x32 x33 x34 x35 x36 x37 x38 x39 x40 x41 x42 x43 x44 x45 x46 x47 x48 x49 x50 x51 x52 x53 x54 x55 x56 x57 x58 x59 x60 x61 x62 x63 x64 x65 x66 x67 x68 x69 x70 x71 x72 x73 x74 x75 x76 x77 x78 x79 x80 x81 x82 x83 x84 x85 x86 x87 x88 x89 x90 x91 x92 x93 x94 x95 x96 x97 x98 x99 x100 x101 x102 x103 x104 x105 x106 x107 x108 x109 x110 x111 x112 x113 x114 x115 x116 x117 x118 x119 x120 x121 x122 x123 x124 x125 x126 x127 x128 x129 x130 x131 x132 x133 x134 x135 x136 x137 x138 x139 x140 x141 x142 x143 x144 x145 x146 x147 x148 x149 x150 x151 x152 x153 x154 x155 x156 x157 x158 x159 x160 x161 x162 x163 x164 x165 x166 x167 x168 x169 x170 x171 x172 x173 : Value}
    (hB : Try.f6.body = some (.seq c0 (.seq c1 (.seq c2 (.seq (.seq c3 (.block z0 (.loop (.seq c4 (.seq (.block z1 (.seq c5 (.seq c6 (.seq c7 (.seq c8 (.seq body c9)))))) c10))))) c11))))) (hPQ : Aside0 (∀ c a d v w, Q (.panic c) (a.put d v) w → Q (.panic c) a w)) (T : RefT w q (q + 1) l n2 v) (hl : l.length ≤ 1000) (hr : Aside0 (w.cell? ⟨r, 1, none⟩ = some (.int .i64 j))) (OV1 : Aside0 (foundV (l.find? (fun g => decide (g.1 = j))) = fv ga ok1)) (OV2 : Aside0 (foundV (l.find? (fun g => decide (g.2.1 = j))) = fv gb ok2))
    (cont : ∀ (w' : World) (r8 r9 : Nat) (y122 y123 y124 y125 y126 y127 y128 y129 : Value), w'.heap[r8]? = some (.cells (fcs ga ok1) 53 (0, 0)) → w'.heap[r9]? = some (.cells (fcs gb ok2) 53 (0, 0)) → Below w.heap.size w w' → Q .normal ⟨#[x0, x1, x2, x3, .pointer (some ⟨q, 0, none⟩), x5, .pointer (some ⟨r, 0, none⟩), x7, x8, x9, x10, x11, x12, x13, x14, x15, x16, x17, .pointer (some ⟨r8, 0, none⟩), .pointer (some ⟨r9, 0, none⟩), x20, x21, x22, x23, x24, x25, x26, x27, x28, x29, x30, x31, x32, x33, x34, x35, x36, x37, x38, x39, x40, x41, x42, x43, x44, x45, x46, x47, x48, x49, x50, x51, x52, x53, x54, x55, x56, x57, x58, x59, x60, x61, x62, x63, x64, x65, x66, x67, x68, x69, x70, x71, x72, x73, x74, x75, x76, x77, x78, x79, x80, x81, x82, x83, x84, x85, x86, x87, x88, x89, x90, x91, x92, x93, x94, x95, x96, x97, x98, x99, x100, x101, x102, x103, x104, x105, x106, x107, x108, x109, x110, x111, x112, x113, x114, x115, x116, x117, x118, x119, x120, x121, y122, y123, y124, y125, y126, y127, y128, y129, x130, x131, x132, x133, x134, x135, x136, x137, x138, x139, x140, x141, x142, x143, x144, x145, x146, x147, x148, x149, x150, x151, x152, x153, x154, x155, x156, x157, x158, x159, x160, x161, x162, x163, x164, x165, x166, x167, x168, x169, x170, x171, x172, x173], []⟩ w') : Code.wp Try.prog body Q ⟨#[x0, x1, x2, x3, .pointer (some ⟨q, 0, none⟩), x5, .pointer (some ⟨r, 0, none⟩), x7, x8, x9, x10, x11, x12, x13, x14, x15, x16, x17, x18, x19, x20, x21, x22, x23, x24, x25, x26, x27, x28, x29, x30, x31, x32, x33, x34, x35, x36, x37, x38, x39, x40, x41, x42, x43, x44, x45, x46, x47, x48, x49, x50, x51, x52, x53, x54, x55, x56, x57, x58, x59, x60, x61, x62, x63, x64, x65, x66, x67, x68, x69, x70, x71, x72, x73, x74, x75, x76, x77, x78, x79, x80, x81, x82, x83, x84, x85, x86, x87, x88, x89, x90, x91, x92, x93, x94, x95, x96, x97, x98, x99, x100, x101, x102, x103, x104, x105, x106, x107, x108, x109, x110, x111, x112, x113, x114, x115, x116, x117, x118, x119, x120, x121, x122, x123, x124, x125, x126, x127, x128, x129, x130, x131, x132, x133, x134, x135, x136, x137, x138, x139, x140, x141, x142, x143, x144, x145, x146, x147, x148, x149, x150, x151, x152, x153, x154, x155, x156, x157, x158, x159, x160, x161, x162, x163, x164, x165, x166, x167, x168, x169, x170, x171, x172, x173], []⟩ w := by
  have hbody := plays_body26 rfl hB
  clear hB
  subst hbody
  have hcont := Aside0.mk cont
  clear cont
  have R0 := Aside0.mk T
  have HR := World.block_lt_of_cell? w _ hr.out
  have CR := hr
  have B_ := Aside0.mk ((Below.refl w.heap.size w).drew)
  clear T
  refine start_ (n := 12) (S := fun w' => w'.cell? ⟨r, 1, none⟩ = some (.int .i64 j)) (ds := []) #[false, false, false, false, false, false, false, false, false, false, false, false] (by kernel_rfl) rfl rfl (CR.out) (fun hHeld => ?_)
  refine pure_ (i := 0) (N := some 122) (v := ?_) (a' := ?_) #[true, false, false, false, false, false, false, false, false, false, false, false] rfl rfl (by kernel_rfl) (fun _ _ _ h => hPQ.out _ _ _ _ _ h) (Or.inl ⟨by rfl, ?_⟩) ?_ ?_
  rotate_left
  · intro w'
    go_simp
    with_reducible rfl
  rotate_left
  · simp only [Act.put, List.setIfInBounds_toArray, List.set_cons_zero, List.set_cons_succ, i64_w, i32_w]
    rfl
  refine pure_ (i := 1) (N := some 123) (v := ?_) (a' := ?_) #[true, true, false, false, false, false, false, false, false, false, false, false] rfl rfl (by kernel_rfl) (fun _ _ _ h => hPQ.out _ _ _ _ _ h) (Or.inl ⟨by rfl, ?_⟩) ?_ ?_
  rotate_left
  · intro w'
    go_simp
    with_reducible rfl
  rotate_left
  · simp only [Act.put, List.setIfInBounds_toArray, List.set_cons_zero, List.set_cons_succ, i64_w, i32_w]
    rfl
  refine pure_ (i := 4) (N := some 126) (v := ?_) (a' := ?_) #[true, true, false, false, true, false, false, false, false, false, false, false] rfl rfl (by kernel_rfl) (fun _ _ _ h => hPQ.out _ _ _ _ _ h) (Or.inl ⟨by rfl, ?_⟩) ?_ ?_
  rotate_left
  · intro w'
    go_simp
    with_reducible rfl
  rotate_left
  · simp only [Act.put, List.setIfInBounds_toArray, List.set_cons_zero, List.set_cons_succ, i64_w, i32_w]
    rfl
  refine pure_ (i := 5) (N := some 127) (v := ?_) (a' := ?_) #[true, true, false, false, true, true, false, false, false, false, false, false] rfl rfl (by kernel_rfl) (fun _ _ _ h => hPQ.out _ _ _ _ _ h) (Or.inl ⟨by rfl, ?_⟩) ?_ ?_
  rotate_left
  · intro w'
    go_simp
    with_reducible rfl
  rotate_left
  · simp only [Act.put, List.setIfInBounds_toArray, List.set_cons_zero, List.set_cons_succ, i64_w, i32_w]
    rfl
  refine take_ (i := 2) (N := some 124) (v := ?_) (a' := ?_) #[true, true, true, false, true, true, false, false, false, false, false, false] rfl rfl (by kernel_rfl) (fun _ _ _ h => hPQ.out _ _ _ _ _ h) (Or.inl ⟨by rfl, ?_⟩) hHeld ?_ ?_
  rotate_left
  · intro w' s0
    go_simp
    with_reducible rfl
  rotate_left
  · simp only [Act.put, List.setIfInBounds_toArray, List.set_cons_zero, List.set_cons_succ, i64_w, i32_w]
    rfl
  refine take_ (i := 6) (N := some 128) (v := ?_) (a' := ?_) #[true, true, true, false, true, true, true, false, false, false, false, false] rfl rfl (by kernel_rfl) (fun _ _ _ h => hPQ.out _ _ _ _ _ h) (Or.inl ⟨by rfl, ?_⟩) hHeld ?_ ?_
  rotate_left
  · intro w' s0
    go_simp
    with_reducible rfl
  rotate_left
  · simp only [Act.put, List.setIfInBounds_toArray, List.set_cons_zero, List.set_cons_succ, i64_w, i32_w]
    rfl
  refine join_ (σ := Nat × Nat) 2 #[true, true, true, true, true, true, true, true, true, true, false, false] (fun s => [(125, fv ga ok1), (129, fv gb ok2), (18, .pointer (some ⟨s.1, 0, none⟩)), (19, .pointer (some ⟨s.2, 0, none⟩))]) (fun s w' => w'.heap[s.1]? = some (.cells (fcs (0, 0, 0) false) 53 (0, 0)) ∧ w'.heap[s.2]? = some (.cells (fcs (0, 0, 0) false) 53 (0, 0)) ∧ s.1 ≠ s.2 ∧ w.heap.size ≤ s.1 ∧ w.heap.size ≤ s.2 ∧ Below w.heap.size w w') ?_ ?_
  rotate_left
  · intro hCont
    refine three_ (i := 3) (j := 8) (k := 9) (Ni := some 125) (Nj := some 18) (Nk := some 19) #[true, true, true, true, true, true, true, false, false, false, false, false] #[true, true, true, false, true, true, true, false, true, false, false, false] #[true, true, true, false, true, true, true, false, false, true, false, false] rfl rfl rfl rfl rfl rfl (by kernel_rfl) (by decide) (by decide) (by decide) (fun K hK => ?_) (fun K hK => ?_) (fun K hK => ?_)
    · skip
      refine goes_ Try.func22 (by kernel_rfl) rfl #[.pointer (some ⟨q, 0, none⟩), .int .i64 j] (by rfl) rfl rfl (by simp only [List.map_toArray, List.map_cons, List.map_nil]; rfl) ?_
      with_reducible refine (rlook_calls (num := j) (R0.out.move' B_.out) hl).mono ?_
      rintro e w_3 ⟨hb, rfl⟩
      rw [OV1.out]
      refine ⟨_, rfl, ?_⟩
      have B_3 := Aside0.mk (B_.out.trans (hb.mono B_.out.size))
      clear hb
      refine hK.out _ _ ((B_3.out.cell HR).trans CR.out) (fun hHeld => ?_)
      clear hK K
      refine norm_ (a' := ?_) ?_ ?_
      rotate_left
      · show Act.put _ (some 125) _ = _
        simp only [Act.put, List.setIfInBounds_toArray, List.set_cons_zero, List.set_cons_succ, i64_w, i32_w]
        rfl
      refine three_ (i := 7) (j := 8) (k := 9) (Ni := some 129) (Nj := some 18) (Nk := some 19) #[true, true, true, true, true, true, true, true, false, false, false, false] #[true, true, true, true, true, true, true, false, true, false, false, false] #[true, true, true, true, true, true, true, false, false, true, false, false] rfl rfl rfl rfl rfl rfl (by kernel_rfl) (by decide) (by decide) (by decide) (fun K hK => ?_) (fun K hK => ?_) (fun K hK => ?_)
      · skip
        refine goes_ Try.func23 (by kernel_rfl) rfl #[.pointer (some ⟨q, 0, none⟩), .int .i64 j] (by rfl) rfl rfl (by simp only [List.map_toArray, List.map_cons, List.map_nil]; rfl) ?_
        with_reducible refine (rof_calls (num := j) (R0.out.move' B_3.out) hl).mono ?_
        rintro e w_3_7 ⟨hb, rfl⟩
        rw [OV2.out]
        refine ⟨_, rfl, ?_⟩
        have B_3_7 := Aside0.mk (B_3.out.trans (hb.mono B_3.out.size))
        clear hb
        refine hK.out _ _ ((B_3_7.out.cell HR).trans CR.out) (fun hHeld => ?_)
        clear hK K
        refine norm_ (a' := ?_) ?_ ?_
        rotate_left
        · show Act.put _ (some 129) _ = _
          simp only [Act.put, List.setIfInBounds_toArray, List.set_cons_zero, List.set_cons_succ, i64_w, i32_w]
          rfl
        refine two_ (i := 8) (j := 9) (Ni := some 18) (Nj := some 19) #[true, true, true, true, true, true, true, true, true, false, false, false] #[true, true, true, true, true, true, true, true, false, true, false, false] rfl rfl rfl rfl (by kernel_rfl) (by decide) (by decide) (fun K hK => ?_) (fun K hK => ?_)
        · skip
          obtain ⟨w_3_7_8, r8, hrun, e1, e2, e3⟩ := alloc53 w_3_7
          have B_3_7_8 := Aside0.mk (B_3_7.out.grown e3 B_3_7.out.size (fun k e => by cases e))
          have hr8 := Nat.le_trans B_3_7.out.size e2
          have H8 := Aside0.mk e1
          refine value_ (w1 := w_3_7_8) (v := .pointer (some ⟨r8, 0, none⟩)) (by rfl) rfl (exec_alloc53 rfl hrun) ?_
          clear hrun e1 e2 e3
          refine hK.out _ _ ((B_3_7_8.out.cell HR).trans CR.out) (fun hHeld => ?_)
          clear hK K
          refine norm_ (a' := ?_) ?_ ?_
          rotate_left
          · show Act.put _ (some 18) _ = _
            simp only [Act.put, List.setIfInBounds_toArray, List.set_cons_zero, List.set_cons_succ, i64_w, i32_w]
            rfl
          refine one_ (i := 9) (N := some 19) #[true, true, true, true, true, true, true, true, true, true, false, false] rfl rfl (by kernel_rfl) (by decide) (fun K hK => ?_)
          obtain ⟨w_3_7_8_9, r9, hrun, e1, e2, e3⟩ := alloc53 w_3_7_8
          have B_3_7_8_9 := Aside0.mk (B_3_7_8.out.grown e3 B_3_7_8.out.size (fun k e => by cases e))
          have hr9 := Nat.le_trans B_3_7_8.out.size e2
          have hne : r8 ≠ r9 := by have := blk_lt H8.out; omega
          have H8 := Aside0.mk (((fun k (hk : k < _) => e3.block k hk (fun e => by cases e)) r8 (blk_lt H8.out)).trans H8.out)
          have H9 := Aside0.mk e1
          refine value_ (w1 := w_3_7_8_9) (v := .pointer (some ⟨r9, 0, none⟩)) (by rfl) rfl (exec_alloc53 rfl hrun) ?_
          clear hrun e1 e2 e3
          refine hK.out _ _ ((B_3_7_8_9.out.cell HR).trans CR.out) (fun hHeld => ?_)
          clear hK K
          refine norm_ (a' := ?_) ?_ ?_
          rotate_left
          · show Act.put _ (some 19) _ = _
            simp only [Act.put, List.setIfInBounds_toArray, List.set_cons_zero, List.set_cons_succ, i64_w, i32_w]
            rfl
          exact norm_ (by simp only [putAll, Act.put, List.setIfInBounds_toArray, List.set_cons_zero, List.set_cons_succ]) (hCont (r8, r9) _ ⟨H8.out, H9.out, hne, hr8, hr9, B_3_7_8_9.out⟩)
        · skip
          obtain ⟨w_3_7_9, r9, hrun, e1, e2, e3⟩ := alloc53 w_3_7
          have B_3_7_9 := Aside0.mk (B_3_7.out.grown e3 B_3_7.out.size (fun k e => by cases e))
          have hr9 := Nat.le_trans B_3_7.out.size e2
          have H9 := Aside0.mk e1
          refine value_ (w1 := w_3_7_9) (v := .pointer (some ⟨r9, 0, none⟩)) (by rfl) rfl (exec_alloc53 rfl hrun) ?_
          clear hrun e1 e2 e3
          refine hK.out _ _ ((B_3_7_9.out.cell HR).trans CR.out) (fun hHeld => ?_)
          clear hK K
          refine norm_ (a' := ?_) ?_ ?_
          rotate_left
          · show Act.put _ (some 19) _ = _
            simp only [Act.put, List.setIfInBounds_toArray, List.set_cons_zero, List.set_cons_succ, i64_w, i32_w]
            rfl
          refine one_ (i := 8) (N := some 18) #[true, true, true, true, true, true, true, true, true, true, false, false] rfl rfl (by kernel_rfl) (by decide) (fun K hK => ?_)
          obtain ⟨w_3_7_9_8, r8, hrun, e1, e2, e3⟩ := alloc53 w_3_7_9
          have B_3_7_9_8 := Aside0.mk (B_3_7_9.out.grown e3 B_3_7_9.out.size (fun k e => by cases e))
          have hr8 := Nat.le_trans B_3_7_9.out.size e2
          have hne : r8 ≠ r9 := by have := blk_lt H9.out; omega
          have H9 := Aside0.mk (((fun k (hk : k < _) => e3.block k hk (fun e => by cases e)) r9 (blk_lt H9.out)).trans H9.out)
          have H8 := Aside0.mk e1
          refine value_ (w1 := w_3_7_9_8) (v := .pointer (some ⟨r8, 0, none⟩)) (by rfl) rfl (exec_alloc53 rfl hrun) ?_
          clear hrun e1 e2 e3
          refine hK.out _ _ ((B_3_7_9_8.out.cell HR).trans CR.out) (fun hHeld => ?_)
          clear hK K
          refine norm_ (a' := ?_) ?_ ?_
          rotate_left
          · show Act.put _ (some 18) _ = _
            simp only [Act.put, List.setIfInBounds_toArray, List.set_cons_zero, List.set_cons_succ, i64_w, i32_w]
            rfl
          exact norm_ (by simp only [putAll, Act.put, List.setIfInBounds_toArray, List.set_cons_zero, List.set_cons_succ]) (hCont (r8, r9) _ ⟨H8.out, H9.out, hne, hr8, hr9, B_3_7_9_8.out⟩)
      · skip
        obtain ⟨w_3_8, r8, hrun, e1, e2, e3⟩ := alloc53 w_3
        have B_3_8 := Aside0.mk (B_3.out.grown e3 B_3.out.size (fun k e => by cases e))
        have hr8 := Nat.le_trans B_3.out.size e2
        have H8 := Aside0.mk e1
        refine value_ (w1 := w_3_8) (v := .pointer (some ⟨r8, 0, none⟩)) (by rfl) rfl (exec_alloc53 rfl hrun) ?_
        clear hrun e1 e2 e3
        refine hK.out _ _ ((B_3_8.out.cell HR).trans CR.out) (fun hHeld => ?_)
        clear hK K
        refine norm_ (a' := ?_) ?_ ?_
        rotate_left
        · show Act.put _ (some 18) _ = _
          simp only [Act.put, List.setIfInBounds_toArray, List.set_cons_zero, List.set_cons_succ, i64_w, i32_w]
          rfl
        refine two_ (i := 7) (j := 9) (Ni := some 129) (Nj := some 19) #[true, true, true, true, true, true, true, true, true, false, false, false] #[true, true, true, true, true, true, true, false, true, true, false, false] rfl rfl rfl rfl (by kernel_rfl) (by decide) (by decide) (fun K hK => ?_) (fun K hK => ?_)
        · skip
          refine goes_ Try.func23 (by kernel_rfl) rfl #[.pointer (some ⟨q, 0, none⟩), .int .i64 j] (by rfl) rfl rfl (by simp only [List.map_toArray, List.map_cons, List.map_nil]; rfl) ?_
          with_reducible refine (rof_calls (num := j) (R0.out.move' B_3_8.out) hl).mono ?_
          rintro e w_3_8_7 ⟨hb, rfl⟩
          rw [OV2.out]
          refine ⟨_, rfl, ?_⟩
          have B_3_8_7 := Aside0.mk (B_3_8.out.trans (hb.mono B_3_8.out.size))
          have H8 := Aside0.mk ((hb.block r8 (blk_lt H8.out)).trans H8.out)
          clear hb
          refine hK.out _ _ ((B_3_8_7.out.cell HR).trans CR.out) (fun hHeld => ?_)
          clear hK K
          refine norm_ (a' := ?_) ?_ ?_
          rotate_left
          · show Act.put _ (some 129) _ = _
            simp only [Act.put, List.setIfInBounds_toArray, List.set_cons_zero, List.set_cons_succ, i64_w, i32_w]
            rfl
          refine one_ (i := 9) (N := some 19) #[true, true, true, true, true, true, true, true, true, true, false, false] rfl rfl (by kernel_rfl) (by decide) (fun K hK => ?_)
          obtain ⟨w_3_8_7_9, r9, hrun, e1, e2, e3⟩ := alloc53 w_3_8_7
          have B_3_8_7_9 := Aside0.mk (B_3_8_7.out.grown e3 B_3_8_7.out.size (fun k e => by cases e))
          have hr9 := Nat.le_trans B_3_8_7.out.size e2
          have hne : r8 ≠ r9 := by have := blk_lt H8.out; omega
          have H8 := Aside0.mk (((fun k (hk : k < _) => e3.block k hk (fun e => by cases e)) r8 (blk_lt H8.out)).trans H8.out)
          have H9 := Aside0.mk e1
          refine value_ (w1 := w_3_8_7_9) (v := .pointer (some ⟨r9, 0, none⟩)) (by rfl) rfl (exec_alloc53 rfl hrun) ?_
          clear hrun e1 e2 e3
          refine hK.out _ _ ((B_3_8_7_9.out.cell HR).trans CR.out) (fun hHeld => ?_)
          clear hK K
          refine norm_ (a' := ?_) ?_ ?_
          rotate_left
          · show Act.put _ (some 19) _ = _
            simp only [Act.put, List.setIfInBounds_toArray, List.set_cons_zero, List.set_cons_succ, i64_w, i32_w]
            rfl
          exact norm_ (by simp only [putAll, Act.put, List.setIfInBounds_toArray, List.set_cons_zero, List.set_cons_succ]) (hCont (r8, r9) _ ⟨H8.out, H9.out, hne, hr8, hr9, B_3_8_7_9.out⟩)
        · skip
          obtain ⟨w_3_8_9, r9, hrun, e1, e2, e3⟩ := alloc53 w_3_8
          have B_3_8_9 := Aside0.mk (B_3_8.out.grown e3 B_3_8.out.size (fun k e => by cases e))
          have hr9 := Nat.le_trans B_3_8.out.size e2
          have hne : r8 ≠ r9 := by have := blk_lt H8.out; omega
          have H8 := Aside0.mk (((fun k (hk : k < _) => e3.block k hk (fun e => by cases e)) r8 (blk_lt H8.out)).trans H8.out)
          have H9 := Aside0.mk e1
          refine value_ (w1 := w_3_8_9) (v := .pointer (some ⟨r9, 0, none⟩)) (by rfl) rfl (exec_alloc53 rfl hrun) ?_
          clear hrun e1 e2 e3
          refine hK.out _ _ ((B_3_8_9.out.cell HR).trans CR.out) (fun hHeld => ?_)
          clear hK K
          refine norm_ (a' := ?_) ?_ ?_
          rotate_left
          · show Act.put _ (some 19) _ = _
            simp only [Act.put, List.setIfInBounds_toArray, List.set_cons_zero, List.set_cons_succ, i64_w, i32_w]
            rfl
          refine one_ (i := 7) (N := some 129) #[true, true, true, true, true, true, true, true, true, true, false, false] rfl rfl (by kernel_rfl) (by decide) (fun K hK => ?_)
          refine goes_ Try.func23 (by kernel_rfl) rfl #[.pointer (some ⟨q, 0, none⟩), .int .i64 j] (by rfl) rfl rfl (by simp only [List.map_toArray, List.map_cons, List.map_nil]; rfl) ?_
          with_reducible refine (rof_calls (num := j) (R0.out.move' B_3_8_9.out) hl).mono ?_
          rintro e w_3_8_9_7 ⟨hb, rfl⟩
          rw [OV2.out]
          refine ⟨_, rfl, ?_⟩
          have B_3_8_9_7 := Aside0.mk (B_3_8_9.out.trans (hb.mono B_3_8_9.out.size))
          have H8 := Aside0.mk ((hb.block r8 (blk_lt H8.out)).trans H8.out)
          have H9 := Aside0.mk ((hb.block r9 (blk_lt H9.out)).trans H9.out)
          clear hb
          refine hK.out _ _ ((B_3_8_9_7.out.cell HR).trans CR.out) (fun hHeld => ?_)
          clear hK K
          refine norm_ (a' := ?_) ?_ ?_
          rotate_left
          · show Act.put _ (some 129) _ = _
            simp only [Act.put, List.setIfInBounds_toArray, List.set_cons_zero, List.set_cons_succ, i64_w, i32_w]
            rfl
          exact norm_ (by simp only [putAll, Act.put, List.setIfInBounds_toArray, List.set_cons_zero, List.set_cons_succ]) (hCont (r8, r9) _ ⟨H8.out, H9.out, hne, hr8, hr9, B_3_8_9_7.out⟩)
      · skip
        obtain ⟨w_3_9, r9, hrun, e1, e2, e3⟩ := alloc53 w_3
        have B_3_9 := Aside0.mk (B_3.out.grown e3 B_3.out.size (fun k e => by cases e))
        have hr9 := Nat.le_trans B_3.out.size e2
        have H9 := Aside0.mk e1
        refine value_ (w1 := w_3_9) (v := .pointer (some ⟨r9, 0, none⟩)) (by rfl) rfl (exec_alloc53 rfl hrun) ?_
        clear hrun e1 e2 e3
        refine hK.out _ _ ((B_3_9.out.cell HR).trans CR.out) (fun hHeld => ?_)
        clear hK K
        refine norm_ (a' := ?_) ?_ ?_
        rotate_left
        · show Act.put _ (some 19) _ = _
          simp only [Act.put, List.setIfInBounds_toArray, List.set_cons_zero, List.set_cons_succ, i64_w, i32_w]
          rfl
        refine two_ (i := 7) (j := 8) (Ni := some 129) (Nj := some 18) #[true, true, true, true, true, true, true, true, false, true, false, false] #[true, true, true, true, true, true, true, false, true, true, false, false] rfl rfl rfl rfl (by kernel_rfl) (by decide) (by decide) (fun K hK => ?_) (fun K hK => ?_)
        · skip
          refine goes_ Try.func23 (by kernel_rfl) rfl #[.pointer (some ⟨q, 0, none⟩), .int .i64 j] (by rfl) rfl rfl (by simp only [List.map_toArray, List.map_cons, List.map_nil]; rfl) ?_
          with_reducible refine (rof_calls (num := j) (R0.out.move' B_3_9.out) hl).mono ?_
          rintro e w_3_9_7 ⟨hb, rfl⟩
          rw [OV2.out]
          refine ⟨_, rfl, ?_⟩
          have B_3_9_7 := Aside0.mk (B_3_9.out.trans (hb.mono B_3_9.out.size))
          have H9 := Aside0.mk ((hb.block r9 (blk_lt H9.out)).trans H9.out)
          clear hb
          refine hK.out _ _ ((B_3_9_7.out.cell HR).trans CR.out) (fun hHeld => ?_)
          clear hK K
          refine norm_ (a' := ?_) ?_ ?_
          rotate_left
          · show Act.put _ (some 129) _ = _
            simp only [Act.put, List.setIfInBounds_toArray, List.set_cons_zero, List.set_cons_succ, i64_w, i32_w]
            rfl
          refine one_ (i := 8) (N := some 18) #[true, true, true, true, true, true, true, true, true, true, false, false] rfl rfl (by kernel_rfl) (by decide) (fun K hK => ?_)
          obtain ⟨w_3_9_7_8, r8, hrun, e1, e2, e3⟩ := alloc53 w_3_9_7
          have B_3_9_7_8 := Aside0.mk (B_3_9_7.out.grown e3 B_3_9_7.out.size (fun k e => by cases e))
          have hr8 := Nat.le_trans B_3_9_7.out.size e2
          have hne : r8 ≠ r9 := by have := blk_lt H9.out; omega
          have H9 := Aside0.mk (((fun k (hk : k < _) => e3.block k hk (fun e => by cases e)) r9 (blk_lt H9.out)).trans H9.out)
          have H8 := Aside0.mk e1
          refine value_ (w1 := w_3_9_7_8) (v := .pointer (some ⟨r8, 0, none⟩)) (by rfl) rfl (exec_alloc53 rfl hrun) ?_
          clear hrun e1 e2 e3
          refine hK.out _ _ ((B_3_9_7_8.out.cell HR).trans CR.out) (fun hHeld => ?_)
          clear hK K
          refine norm_ (a' := ?_) ?_ ?_
          rotate_left
          · show Act.put _ (some 18) _ = _
            simp only [Act.put, List.setIfInBounds_toArray, List.set_cons_zero, List.set_cons_succ, i64_w, i32_w]
            rfl
          exact norm_ (by simp only [putAll, Act.put, List.setIfInBounds_toArray, List.set_cons_zero, List.set_cons_succ]) (hCont (r8, r9) _ ⟨H8.out, H9.out, hne, hr8, hr9, B_3_9_7_8.out⟩)
        · skip
          obtain ⟨w_3_9_8, r8, hrun, e1, e2, e3⟩ := alloc53 w_3_9
          have B_3_9_8 := Aside0.mk (B_3_9.out.grown e3 B_3_9.out.size (fun k e => by cases e))
          have hr8 := Nat.le_trans B_3_9.out.size e2
          have hne : r8 ≠ r9 := by have := blk_lt H9.out; omega
          have H9 := Aside0.mk (((fun k (hk : k < _) => e3.block k hk (fun e => by cases e)) r9 (blk_lt H9.out)).trans H9.out)
          have H8 := Aside0.mk e1
          refine value_ (w1 := w_3_9_8) (v := .pointer (some ⟨r8, 0, none⟩)) (by rfl) rfl (exec_alloc53 rfl hrun) ?_
          clear hrun e1 e2 e3
          refine hK.out _ _ ((B_3_9_8.out.cell HR).trans CR.out) (fun hHeld => ?_)
          clear hK K
          refine norm_ (a' := ?_) ?_ ?_
          rotate_left
          · show Act.put _ (some 18) _ = _
            simp only [Act.put, List.setIfInBounds_toArray, List.set_cons_zero, List.set_cons_succ, i64_w, i32_w]
            rfl
          refine one_ (i := 7) (N := some 129) #[true, true, true, true, true, true, true, true, true, true, false, false] rfl rfl (by kernel_rfl) (by decide) (fun K hK => ?_)
          refine goes_ Try.func23 (by kernel_rfl) rfl #[.pointer (some ⟨q, 0, none⟩), .int .i64 j] (by rfl) rfl rfl (by simp only [List.map_toArray, List.map_cons, List.map_nil]; rfl) ?_
          with_reducible refine (rof_calls (num := j) (R0.out.move' B_3_9_8.out) hl).mono ?_
          rintro e w_3_9_8_7 ⟨hb, rfl⟩
          rw [OV2.out]
          refine ⟨_, rfl, ?_⟩
          have B_3_9_8_7 := Aside0.mk (B_3_9_8.out.trans (hb.mono B_3_9_8.out.size))
          have H8 := Aside0.mk ((hb.block r8 (blk_lt H8.out)).trans H8.out)
          have H9 := Aside0.mk ((hb.block r9 (blk_lt H9.out)).trans H9.out)
          clear hb
          refine hK.out _ _ ((B_3_9_8_7.out.cell HR).trans CR.out) (fun hHeld => ?_)
          clear hK K
          refine norm_ (a' := ?_) ?_ ?_
          rotate_left
          · show Act.put _ (some 129) _ = _
            simp only [Act.put, List.setIfInBounds_toArray, List.set_cons_zero, List.set_cons_succ, i64_w, i32_w]
            rfl
          exact norm_ (by simp only [putAll, Act.put, List.setIfInBounds_toArray, List.set_cons_zero, List.set_cons_succ]) (hCont (r8, r9) _ ⟨H8.out, H9.out, hne, hr8, hr9, B_3_9_8_7.out⟩)
    · skip
      obtain ⟨w_8, r8, hrun, e1, e2, e3⟩ := alloc53 w.drew
      have B_8 := Aside0.mk (B_.out.grown e3 B_.out.size (fun k e => by cases e))
      have hr8 := Nat.le_trans B_.out.size e2
      have H8 := Aside0.mk e1
      refine value_ (w1 := w_8) (v := .pointer (some ⟨r8, 0, none⟩)) (by rfl) rfl (exec_alloc53 rfl hrun) ?_
      clear hrun e1 e2 e3
      refine hK.out _ _ ((B_8.out.cell HR).trans CR.out) (fun hHeld => ?_)
      clear hK K
      refine norm_ (a' := ?_) ?_ ?_
      rotate_left
      · show Act.put _ (some 18) _ = _
        simp only [Act.put, List.setIfInBounds_toArray, List.set_cons_zero, List.set_cons_succ, i64_w, i32_w]
        rfl
      refine two_ (i := 3) (j := 9) (Ni := some 125) (Nj := some 19) #[true, true, true, true, true, true, true, false, true, false, false, false] #[true, true, true, false, true, true, true, false, true, true, false, false] rfl rfl rfl rfl (by kernel_rfl) (by decide) (by decide) (fun K hK => ?_) (fun K hK => ?_)
      · skip
        refine goes_ Try.func22 (by kernel_rfl) rfl #[.pointer (some ⟨q, 0, none⟩), .int .i64 j] (by rfl) rfl rfl (by simp only [List.map_toArray, List.map_cons, List.map_nil]; rfl) ?_
        with_reducible refine (rlook_calls (num := j) (R0.out.move' B_8.out) hl).mono ?_
        rintro e w_8_3 ⟨hb, rfl⟩
        rw [OV1.out]
        refine ⟨_, rfl, ?_⟩
        have B_8_3 := Aside0.mk (B_8.out.trans (hb.mono B_8.out.size))
        have H8 := Aside0.mk ((hb.block r8 (blk_lt H8.out)).trans H8.out)
        clear hb
        refine hK.out _ _ ((B_8_3.out.cell HR).trans CR.out) (fun hHeld => ?_)
        clear hK K
        refine norm_ (a' := ?_) ?_ ?_
        rotate_left
        · show Act.put _ (some 125) _ = _
          simp only [Act.put, List.setIfInBounds_toArray, List.set_cons_zero, List.set_cons_succ, i64_w, i32_w]
          rfl
        refine two_ (i := 7) (j := 9) (Ni := some 129) (Nj := some 19) #[true, true, true, true, true, true, true, true, true, false, false, false] #[true, true, true, true, true, true, true, false, true, true, false, false] rfl rfl rfl rfl (by kernel_rfl) (by decide) (by decide) (fun K hK => ?_) (fun K hK => ?_)
        · skip
          refine goes_ Try.func23 (by kernel_rfl) rfl #[.pointer (some ⟨q, 0, none⟩), .int .i64 j] (by rfl) rfl rfl (by simp only [List.map_toArray, List.map_cons, List.map_nil]; rfl) ?_
          with_reducible refine (rof_calls (num := j) (R0.out.move' B_8_3.out) hl).mono ?_
          rintro e w_8_3_7 ⟨hb, rfl⟩
          rw [OV2.out]
          refine ⟨_, rfl, ?_⟩
          have B_8_3_7 := Aside0.mk (B_8_3.out.trans (hb.mono B_8_3.out.size))
          have H8 := Aside0.mk ((hb.block r8 (blk_lt H8.out)).trans H8.out)
          clear hb
          refine hK.out _ _ ((B_8_3_7.out.cell HR).trans CR.out) (fun hHeld => ?_)
          clear hK K
          refine norm_ (a' := ?_) ?_ ?_
          rotate_left
          · show Act.put _ (some 129) _ = _
            simp only [Act.put, List.setIfInBounds_toArray, List.set_cons_zero, List.set_cons_succ, i64_w, i32_w]
            rfl
          refine one_ (i := 9) (N := some 19) #[true, true, true, true, true, true, true, true, true, true, false, false] rfl rfl (by kernel_rfl) (by decide) (fun K hK => ?_)
          obtain ⟨w_8_3_7_9, r9, hrun, e1, e2, e3⟩ := alloc53 w_8_3_7
          have B_8_3_7_9 := Aside0.mk (B_8_3_7.out.grown e3 B_8_3_7.out.size (fun k e => by cases e))
          have hr9 := Nat.le_trans B_8_3_7.out.size e2
          have hne : r8 ≠ r9 := by have := blk_lt H8.out; omega
          have H8 := Aside0.mk (((fun k (hk : k < _) => e3.block k hk (fun e => by cases e)) r8 (blk_lt H8.out)).trans H8.out)
          have H9 := Aside0.mk e1
          refine value_ (w1 := w_8_3_7_9) (v := .pointer (some ⟨r9, 0, none⟩)) (by rfl) rfl (exec_alloc53 rfl hrun) ?_
          clear hrun e1 e2 e3
          refine hK.out _ _ ((B_8_3_7_9.out.cell HR).trans CR.out) (fun hHeld => ?_)
          clear hK K
          refine norm_ (a' := ?_) ?_ ?_
          rotate_left
          · show Act.put _ (some 19) _ = _
            simp only [Act.put, List.setIfInBounds_toArray, List.set_cons_zero, List.set_cons_succ, i64_w, i32_w]
            rfl
          exact norm_ (by simp only [putAll, Act.put, List.setIfInBounds_toArray, List.set_cons_zero, List.set_cons_succ]) (hCont (r8, r9) _ ⟨H8.out, H9.out, hne, hr8, hr9, B_8_3_7_9.out⟩)
        · skip
          obtain ⟨w_8_3_9, r9, hrun, e1, e2, e3⟩ := alloc53 w_8_3
          have B_8_3_9 := Aside0.mk (B_8_3.out.grown e3 B_8_3.out.size (fun k e => by cases e))
          have hr9 := Nat.le_trans B_8_3.out.size e2
          have hne : r8 ≠ r9 := by have := blk_lt H8.out; omega
          have H8 := Aside0.mk (((fun k (hk : k < _) => e3.block k hk (fun e => by cases e)) r8 (blk_lt H8.out)).trans H8.out)
          have H9 := Aside0.mk e1
          refine value_ (w1 := w_8_3_9) (v := .pointer (some ⟨r9, 0, none⟩)) (by rfl) rfl (exec_alloc53 rfl hrun) ?_
          clear hrun e1 e2 e3
          refine hK.out _ _ ((B_8_3_9.out.cell HR).trans CR.out) (fun hHeld => ?_)
          clear hK K
          refine norm_ (a' := ?_) ?_ ?_
          rotate_left
          · show Act.put _ (some 19) _ = _
            simp only [Act.put, List.setIfInBounds_toArray, List.set_cons_zero, List.set_cons_succ, i64_w, i32_w]
            rfl
          refine one_ (i := 7) (N := some 129) #[true, true, true, true, true, true, true, true, true, true, false, false] rfl rfl (by kernel_rfl) (by decide) (fun K hK => ?_)
          refine goes_ Try.func23 (by kernel_rfl) rfl #[.pointer (some ⟨q, 0, none⟩), .int .i64 j] (by rfl) rfl rfl (by simp only [List.map_toArray, List.map_cons, List.map_nil]; rfl) ?_
          with_reducible refine (rof_calls (num := j) (R0.out.move' B_8_3_9.out) hl).mono ?_
          rintro e w_8_3_9_7 ⟨hb, rfl⟩
          rw [OV2.out]
          refine ⟨_, rfl, ?_⟩
          have B_8_3_9_7 := Aside0.mk (B_8_3_9.out.trans (hb.mono B_8_3_9.out.size))
          have H8 := Aside0.mk ((hb.block r8 (blk_lt H8.out)).trans H8.out)
          have H9 := Aside0.mk ((hb.block r9 (blk_lt H9.out)).trans H9.out)
          clear hb
          refine hK.out _ _ ((B_8_3_9_7.out.cell HR).trans CR.out) (fun hHeld => ?_)
          clear hK K
          refine norm_ (a' := ?_) ?_ ?_
          rotate_left
          · show Act.put _ (some 129) _ = _
            simp only [Act.put, List.setIfInBounds_toArray, List.set_cons_zero, List.set_cons_succ, i64_w, i32_w]
            rfl
          exact norm_ (by simp only [putAll, Act.put, List.setIfInBounds_toArray, List.set_cons_zero, List.set_cons_succ]) (hCont (r8, r9) _ ⟨H8.out, H9.out, hne, hr8, hr9, B_8_3_9_7.out⟩)
      · skip
        obtain ⟨w_8_9, r9, hrun, e1, e2, e3⟩ := alloc53 w_8
        have B_8_9 := Aside0.mk (B_8.out.grown e3 B_8.out.size (fun k e => by cases e))
        have hr9 := Nat.le_trans B_8.out.size e2
        have hne : r8 ≠ r9 := by have := blk_lt H8.out; omega
        have H8 := Aside0.mk (((fun k (hk : k < _) => e3.block k hk (fun e => by cases e)) r8 (blk_lt H8.out)).trans H8.out)
        have H9 := Aside0.mk e1
        refine value_ (w1 := w_8_9) (v := .pointer (some ⟨r9, 0, none⟩)) (by rfl) rfl (exec_alloc53 rfl hrun) ?_
        clear hrun e1 e2 e3
        refine hK.out _ _ ((B_8_9.out.cell HR).trans CR.out) (fun hHeld => ?_)
        clear hK K
        refine norm_ (a' := ?_) ?_ ?_
        rotate_left
        · show Act.put _ (some 19) _ = _
          simp only [Act.put, List.setIfInBounds_toArray, List.set_cons_zero, List.set_cons_succ, i64_w, i32_w]
          rfl
        refine one_ (i := 3) (N := some 125) #[true, true, true, true, true, true, true, false, true, true, false, false] rfl rfl (by kernel_rfl) (by decide) (fun K hK => ?_)
        refine goes_ Try.func22 (by kernel_rfl) rfl #[.pointer (some ⟨q, 0, none⟩), .int .i64 j] (by rfl) rfl rfl (by simp only [List.map_toArray, List.map_cons, List.map_nil]; rfl) ?_
        with_reducible refine (rlook_calls (num := j) (R0.out.move' B_8_9.out) hl).mono ?_
        rintro e w_8_9_3 ⟨hb, rfl⟩
        rw [OV1.out]
        refine ⟨_, rfl, ?_⟩
        have B_8_9_3 := Aside0.mk (B_8_9.out.trans (hb.mono B_8_9.out.size))
        have H8 := Aside0.mk ((hb.block r8 (blk_lt H8.out)).trans H8.out)
        have H9 := Aside0.mk ((hb.block r9 (blk_lt H9.out)).trans H9.out)
        clear hb
        refine hK.out _ _ ((B_8_9_3.out.cell HR).trans CR.out) (fun hHeld => ?_)
        clear hK K
        refine norm_ (a' := ?_) ?_ ?_
        rotate_left
        · show Act.put _ (some 125) _ = _
          simp only [Act.put, List.setIfInBounds_toArray, List.set_cons_zero, List.set_cons_succ, i64_w, i32_w]
          rfl
        refine one_ (i := 7) (N := some 129) #[true, true, true, true, true, true, true, true, true, true, false, false] rfl rfl (by kernel_rfl) (by decide) (fun K hK => ?_)
        refine goes_ Try.func23 (by kernel_rfl) rfl #[.pointer (some ⟨q, 0, none⟩), .int .i64 j] (by rfl) rfl rfl (by simp only [List.map_toArray, List.map_cons, List.map_nil]; rfl) ?_
        with_reducible refine (rof_calls (num := j) (R0.out.move' B_8_9_3.out) hl).mono ?_
        rintro e w_8_9_3_7 ⟨hb, rfl⟩
        rw [OV2.out]
        refine ⟨_, rfl, ?_⟩
        have B_8_9_3_7 := Aside0.mk (B_8_9_3.out.trans (hb.mono B_8_9_3.out.size))
        have H8 := Aside0.mk ((hb.block r8 (blk_lt H8.out)).trans H8.out)
        have H9 := Aside0.mk ((hb.block r9 (blk_lt H9.out)).trans H9.out)
        clear hb
        refine hK.out _ _ ((B_8_9_3_7.out.cell HR).trans CR.out) (fun hHeld => ?_)
        clear hK K
        refine norm_ (a' := ?_) ?_ ?_
        rotate_left
        · show Act.put _ (some 129) _ = _
          simp only [Act.put, List.setIfInBounds_toArray, List.set_cons_zero, List.set_cons_succ, i64_w, i32_w]
          rfl
        exact norm_ (by simp only [putAll, Act.put, List.setIfInBounds_toArray, List.set_cons_zero, List.set_cons_succ]) (hCont (r8, r9) _ ⟨H8.out, H9.out, hne, hr8, hr9, B_8_9_3_7.out⟩)
    · skip
      obtain ⟨w_9, r9, hrun, e1, e2, e3⟩ := alloc53 w.drew
      have B_9 := Aside0.mk (B_.out.grown e3 B_.out.size (fun k e => by cases e))
      have hr9 := Nat.le_trans B_.out.size e2
      have H9 := Aside0.mk e1
      refine value_ (w1 := w_9) (v := .pointer (some ⟨r9, 0, none⟩)) (by rfl) rfl (exec_alloc53 rfl hrun) ?_
      clear hrun e1 e2 e3
      refine hK.out _ _ ((B_9.out.cell HR).trans CR.out) (fun hHeld => ?_)
      clear hK K
      refine norm_ (a' := ?_) ?_ ?_
      rotate_left
      · show Act.put _ (some 19) _ = _
        simp only [Act.put, List.setIfInBounds_toArray, List.set_cons_zero, List.set_cons_succ, i64_w, i32_w]
        rfl
      refine two_ (i := 3) (j := 8) (Ni := some 125) (Nj := some 18) #[true, true, true, true, true, true, true, false, false, true, false, false] #[true, true, true, false, true, true, true, false, true, true, false, false] rfl rfl rfl rfl (by kernel_rfl) (by decide) (by decide) (fun K hK => ?_) (fun K hK => ?_)
      · skip
        refine goes_ Try.func22 (by kernel_rfl) rfl #[.pointer (some ⟨q, 0, none⟩), .int .i64 j] (by rfl) rfl rfl (by simp only [List.map_toArray, List.map_cons, List.map_nil]; rfl) ?_
        with_reducible refine (rlook_calls (num := j) (R0.out.move' B_9.out) hl).mono ?_
        rintro e w_9_3 ⟨hb, rfl⟩
        rw [OV1.out]
        refine ⟨_, rfl, ?_⟩
        have B_9_3 := Aside0.mk (B_9.out.trans (hb.mono B_9.out.size))
        have H9 := Aside0.mk ((hb.block r9 (blk_lt H9.out)).trans H9.out)
        clear hb
        refine hK.out _ _ ((B_9_3.out.cell HR).trans CR.out) (fun hHeld => ?_)
        clear hK K
        refine norm_ (a' := ?_) ?_ ?_
        rotate_left
        · show Act.put _ (some 125) _ = _
          simp only [Act.put, List.setIfInBounds_toArray, List.set_cons_zero, List.set_cons_succ, i64_w, i32_w]
          rfl
        refine two_ (i := 7) (j := 8) (Ni := some 129) (Nj := some 18) #[true, true, true, true, true, true, true, true, false, true, false, false] #[true, true, true, true, true, true, true, false, true, true, false, false] rfl rfl rfl rfl (by kernel_rfl) (by decide) (by decide) (fun K hK => ?_) (fun K hK => ?_)
        · skip
          refine goes_ Try.func23 (by kernel_rfl) rfl #[.pointer (some ⟨q, 0, none⟩), .int .i64 j] (by rfl) rfl rfl (by simp only [List.map_toArray, List.map_cons, List.map_nil]; rfl) ?_
          with_reducible refine (rof_calls (num := j) (R0.out.move' B_9_3.out) hl).mono ?_
          rintro e w_9_3_7 ⟨hb, rfl⟩
          rw [OV2.out]
          refine ⟨_, rfl, ?_⟩
          have B_9_3_7 := Aside0.mk (B_9_3.out.trans (hb.mono B_9_3.out.size))
          have H9 := Aside0.mk ((hb.block r9 (blk_lt H9.out)).trans H9.out)
          clear hb
          refine hK.out _ _ ((B_9_3_7.out.cell HR).trans CR.out) (fun hHeld => ?_)
          clear hK K
          refine norm_ (a' := ?_) ?_ ?_
          rotate_left
          · show Act.put _ (some 129) _ = _
            simp only [Act.put, List.setIfInBounds_toArray, List.set_cons_zero, List.set_cons_succ, i64_w, i32_w]
            rfl
          refine one_ (i := 8) (N := some 18) #[true, true, true, true, true, true, true, true, true, true, false, false] rfl rfl (by kernel_rfl) (by decide) (fun K hK => ?_)
          obtain ⟨w_9_3_7_8, r8, hrun, e1, e2, e3⟩ := alloc53 w_9_3_7
          have B_9_3_7_8 := Aside0.mk (B_9_3_7.out.grown e3 B_9_3_7.out.size (fun k e => by cases e))
          have hr8 := Nat.le_trans B_9_3_7.out.size e2
          have hne : r8 ≠ r9 := by have := blk_lt H9.out; omega
          have H9 := Aside0.mk (((fun k (hk : k < _) => e3.block k hk (fun e => by cases e)) r9 (blk_lt H9.out)).trans H9.out)
          have H8 := Aside0.mk e1
          refine value_ (w1 := w_9_3_7_8) (v := .pointer (some ⟨r8, 0, none⟩)) (by rfl) rfl (exec_alloc53 rfl hrun) ?_
          clear hrun e1 e2 e3
          refine hK.out _ _ ((B_9_3_7_8.out.cell HR).trans CR.out) (fun hHeld => ?_)
          clear hK K
          refine norm_ (a' := ?_) ?_ ?_
          rotate_left
          · show Act.put _ (some 18) _ = _
            simp only [Act.put, List.setIfInBounds_toArray, List.set_cons_zero, List.set_cons_succ, i64_w, i32_w]
            rfl
          exact norm_ (by simp only [putAll, Act.put, List.setIfInBounds_toArray, List.set_cons_zero, List.set_cons_succ]) (hCont (r8, r9) _ ⟨H8.out, H9.out, hne, hr8, hr9, B_9_3_7_8.out⟩)
        · skip
          obtain ⟨w_9_3_8, r8, hrun, e1, e2, e3⟩ := alloc53 w_9_3
          have B_9_3_8 := Aside0.mk (B_9_3.out.grown e3 B_9_3.out.size (fun k e => by cases e))
          have hr8 := Nat.le_trans B_9_3.out.size e2
          have hne : r8 ≠ r9 := by have := blk_lt H9.out; omega
          have H9 := Aside0.mk (((fun k (hk : k < _) => e3.block k hk (fun e => by cases e)) r9 (blk_lt H9.out)).trans H9.out)
          have H8 := Aside0.mk e1
          refine value_ (w1 := w_9_3_8) (v := .pointer (some ⟨r8, 0, none⟩)) (by rfl) rfl (exec_alloc53 rfl hrun) ?_
          clear hrun e1 e2 e3
          refine hK.out _ _ ((B_9_3_8.out.cell HR).trans CR.out) (fun hHeld => ?_)
          clear hK K
          refine norm_ (a' := ?_) ?_ ?_
          rotate_left
          · show Act.put _ (some 18) _ = _
            simp only [Act.put, List.setIfInBounds_toArray, List.set_cons_zero, List.set_cons_succ, i64_w, i32_w]
            rfl
          refine one_ (i := 7) (N := some 129) #[true, true, true, true, true, true, true, true, true, true, false, false] rfl rfl (by kernel_rfl) (by decide) (fun K hK => ?_)
          refine goes_ Try.func23 (by kernel_rfl) rfl #[.pointer (some ⟨q, 0, none⟩), .int .i64 j] (by rfl) rfl rfl (by simp only [List.map_toArray, List.map_cons, List.map_nil]; rfl) ?_
          with_reducible refine (rof_calls (num := j) (R0.out.move' B_9_3_8.out) hl).mono ?_
          rintro e w_9_3_8_7 ⟨hb, rfl⟩
          rw [OV2.out]
          refine ⟨_, rfl, ?_⟩
          have B_9_3_8_7 := Aside0.mk (B_9_3_8.out.trans (hb.mono B_9_3_8.out.size))
          have H8 := Aside0.mk ((hb.block r8 (blk_lt H8.out)).trans H8.out)
          have H9 := Aside0.mk ((hb.block r9 (blk_lt H9.out)).trans H9.out)
          clear hb
          refine hK.out _ _ ((B_9_3_8_7.out.cell HR).trans CR.out) (fun hHeld => ?_)
          clear hK K
          refine norm_ (a' := ?_) ?_ ?_
          rotate_left
          · show Act.put _ (some 129) _ = _
            simp only [Act.put, List.setIfInBounds_toArray, List.set_cons_zero, List.set_cons_succ, i64_w, i32_w]
            rfl
          exact norm_ (by simp only [putAll, Act.put, List.setIfInBounds_toArray, List.set_cons_zero, List.set_cons_succ]) (hCont (r8, r9) _ ⟨H8.out, H9.out, hne, hr8, hr9, B_9_3_8_7.out⟩)
      · skip
        obtain ⟨w_9_8, r8, hrun, e1, e2, e3⟩ := alloc53 w_9
        have B_9_8 := Aside0.mk (B_9.out.grown e3 B_9.out.size (fun k e => by cases e))
        have hr8 := Nat.le_trans B_9.out.size e2
        have hne : r8 ≠ r9 := by have := blk_lt H9.out; omega
        have H9 := Aside0.mk (((fun k (hk : k < _) => e3.block k hk (fun e => by cases e)) r9 (blk_lt H9.out)).trans H9.out)
        have H8 := Aside0.mk e1
        refine value_ (w1 := w_9_8) (v := .pointer (some ⟨r8, 0, none⟩)) (by rfl) rfl (exec_alloc53 rfl hrun) ?_
        clear hrun e1 e2 e3
        refine hK.out _ _ ((B_9_8.out.cell HR).trans CR.out) (fun hHeld => ?_)
        clear hK K
        refine norm_ (a' := ?_) ?_ ?_
        rotate_left
        · show Act.put _ (some 18) _ = _
          simp only [Act.put, List.setIfInBounds_toArray, List.set_cons_zero, List.set_cons_succ, i64_w, i32_w]
          rfl
        refine one_ (i := 3) (N := some 125) #[true, true, true, true, true, true, true, false, true, true, false, false] rfl rfl (by kernel_rfl) (by decide) (fun K hK => ?_)
        refine goes_ Try.func22 (by kernel_rfl) rfl #[.pointer (some ⟨q, 0, none⟩), .int .i64 j] (by rfl) rfl rfl (by simp only [List.map_toArray, List.map_cons, List.map_nil]; rfl) ?_
        with_reducible refine (rlook_calls (num := j) (R0.out.move' B_9_8.out) hl).mono ?_
        rintro e w_9_8_3 ⟨hb, rfl⟩
        rw [OV1.out]
        refine ⟨_, rfl, ?_⟩
        have B_9_8_3 := Aside0.mk (B_9_8.out.trans (hb.mono B_9_8.out.size))
        have H8 := Aside0.mk ((hb.block r8 (blk_lt H8.out)).trans H8.out)
        have H9 := Aside0.mk ((hb.block r9 (blk_lt H9.out)).trans H9.out)
        clear hb
        refine hK.out _ _ ((B_9_8_3.out.cell HR).trans CR.out) (fun hHeld => ?_)
        clear hK K
        refine norm_ (a' := ?_) ?_ ?_
        rotate_left
        · show Act.put _ (some 125) _ = _
          simp only [Act.put, List.setIfInBounds_toArray, List.set_cons_zero, List.set_cons_succ, i64_w, i32_w]
          rfl
        refine one_ (i := 7) (N := some 129) #[true, true, true, true, true, true, true, true, true, true, false, false] rfl rfl (by kernel_rfl) (by decide) (fun K hK => ?_)
        refine goes_ Try.func23 (by kernel_rfl) rfl #[.pointer (some ⟨q, 0, none⟩), .int .i64 j] (by rfl) rfl rfl (by simp only [List.map_toArray, List.map_cons, List.map_nil]; rfl) ?_
        with_reducible refine (rof_calls (num := j) (R0.out.move' B_9_8_3.out) hl).mono ?_
        rintro e w_9_8_3_7 ⟨hb, rfl⟩
        rw [OV2.out]
        refine ⟨_, rfl, ?_⟩
        have B_9_8_3_7 := Aside0.mk (B_9_8_3.out.trans (hb.mono B_9_8_3.out.size))
        have H8 := Aside0.mk ((hb.block r8 (blk_lt H8.out)).trans H8.out)
        have H9 := Aside0.mk ((hb.block r9 (blk_lt H9.out)).trans H9.out)
        clear hb
        refine hK.out _ _ ((B_9_8_3_7.out.cell HR).trans CR.out) (fun hHeld => ?_)
        clear hK K
        refine norm_ (a' := ?_) ?_ ?_
        rotate_left
        · show Act.put _ (some 129) _ = _
          simp only [Act.put, List.setIfInBounds_toArray, List.set_cons_zero, List.set_cons_succ, i64_w, i32_w]
          rfl
        exact norm_ (by simp only [putAll, Act.put, List.setIfInBounds_toArray, List.set_cons_zero, List.set_cons_succ]) (hCont (r8, r9) _ ⟨H8.out, H9.out, hne, hr8, hr9, B_9_8_3_7.out⟩)
  rintro ⟨r8, r9⟩ w5 ⟨h8, h9, hne, hr8, hr9, hB5⟩
  have H8 := Aside0.mk h8
  have H9 := Aside0.mk h9
  have B5 := Aside0.mk hB5
  clear h8 h9 hB5
  have hHeld : w5.cell? ⟨r, 1, none⟩ = some (.int .i64 j) := (B5.out.cell HR).trans CR.out
  refine norm_ (a' := ?_) ?_ ?_
  rotate_left
  · simp only [putAll, Act.put, List.setIfInBounds_toArray, List.set_cons_zero, List.set_cons_succ]
    rfl
  refine one_ (i := 10) (N := none) #[true, true, true, true, true, true, true, true, true, true, true, false] rfl rfl (by kernel_rfl) (by decide) (fun K hK => ?_)
  obtain ⟨w5', ST, S1, S2⟩ := found_store H8.out ga ok1
  have B5' := Aside0.mk (B5.out.grown S2 B5.out.size (fun k e => by cases e; exact hr8))
  have H9 := Aside0.mk ((S2.block r9 (blk_lt H9.out) (fun e => by injection e with e; exact hne e.symm)).trans H9.out)
  have H8 := Aside0.mk S1
  refine skip_ (w1 := w5') (by rfl) rfl (exec_store rfl ST) ?_
  clear ST S1 S2
  refine hK.out _ _ ((B5'.out.cell HR).trans CR.out) (fun hHeld => ?_)
  clear hK K
  refine one_ (i := 11) (N := none) #[true, true, true, true, true, true, true, true, true, true, true, true] rfl rfl (by kernel_rfl) (by decide) (fun K hK => ?_)
  obtain ⟨w6, ST, S1, S2⟩ := found_store H9.out gb ok2
  have B6 := Aside0.mk (B5'.out.grown S2 B5'.out.size (fun k e => by cases e; exact hr9))
  have H86 := Aside0.mk ((S2.block r8 (blk_lt H8.out) (fun e => by injection e with e; exact hne e)).trans H8.out)
  have H96 := Aside0.mk S1
  refine skip_ (w1 := w6) (by rfl) rfl (exec_store rfl ST) ?_
  clear ST S1 S2
  refine hK.out _ _ ((B6.out.cell HR).trans CR.out) (fun hHeld => ?_)
  clear hK K
  refine done_ (by kernel_rfl) ?_
  exact hcont.out _ _ _ _ _ _ _ _ _ _ _ H86.out H96.out B6.out
theorem found_loadG {w : World} {r : Nat} {x : G3} {ok : Bool} (h : w.heap[r]? = some (.cells (fcs x ok) 53 (0, 0))) : (Instr.loadAt 38 (.pointer (some ⟨r, 0, none⟩))).run Try.prog w = .ok (gx x) w :=
  run_loadAt_mid (P := Try.prog) w r 0 _ [.int .i64 x.1, .int .i64 x.2.1, .int .u64 x.2.2] _ (fun j v hv => by
    rw [cell_of_row w r (0 + j) _ _ (0, 0) h]
    match j, hv with
    | 0, hv => simpa using hv
    | 1, hv => simpa using hv
    | 2, hv => simpa using hv
    | n + 3, hv => simp at hv) Try.underlying38 rfl (by kernel_rfl)
theorem plays_body27 {c0 c1 c2 c3 c4 c5 c6 c7 c8 c9 c10 c11 c12 body : Code} {z0 z1 : Nat}  {c0' c1' c2' c3' c4' c5' c6' c7' c8' c9' c10' c11' c12' body' : Code} {z0' z1' : Nat}  (h : Try.f6.body = some (.seq c0 (.seq c1 (.seq c2 (.seq (.seq c3 (.block z0 (.loop (.seq c4 (.seq (.block z1 (.seq c5 (.seq c6 (.seq c7 (.seq c8 (.seq c9 (.seq body c10))))))) c11))))) c12))))) (h' : Try.f6.body = some (.seq c0' (.seq c1' (.seq c2' (.seq (.seq c3' (.block z0' (.loop (.seq c4' (.seq (.block z1' (.seq c5' (.seq c6' (.seq c7' (.seq c8' (.seq c9' (.seq body' c10'))))))) c11'))))) c12'))))) : body' = body := by
  rw [h] at h'
  simp only [Option.some.injEq, Code.seq.injEq, Code.cond.injEq, Code.block.injEq, Code.loop.injEq] at h'
  simp only [h']
set_option maxRecDepth 100000 in
set_option maxHeartbeats 8000000 in
theorem plays27 {w0 w : World} {p b1 b2 q m gl r8 r9 cap : Nat} {A : Option Addr} {n1 n2 : Int} {l : List G3} {ga gb : G3} {ok1 ok2 : Bool} {Q : Exit → Act → World → Prop} {c0 c1 c2 c3 c4 c5 c6 c7 c8 c9 c10 c11 c12 body : Code} {z0 z1 : Nat}  {x0 x1 x2 x5 x6 x7 x8 x9 x10 x11 x12 x13 x20 x21 x22 x23 x24 x25 x26 x27 x28 x29 x30 x31 x32 x33 x34 x35 x36 x37 x38 x39 x40 x41 x42 x43 x44 x45 x46 x47 x48 x49 x50 x51 x52 x53 x54 x55 x56 x57 x58 x59 x60 x61 x62 x63 x64 x65 x66 x67 x68 x69 x70 x71 x72 x73 x74 x75 x76 x77 x78 x79 x80 x81 x82 x83 x84 x85 x86 x87 x88 x89 x90 x91 x92 x93 x94 x95 x96 x97 x98 x99 x100 x101 x102 x103 x104 x105 x106 x107 x108 x109 x110 x111 x112 x113 x114 x115 x116 x117 x118 x119 x120 x121 x122 x123 x124 x125 x126 x127 x128 x129 x130 x131 x132 x133 x134 x135 x136 x137 x138 x139 x140 x141 x142 x143 x144 x145 x146 x147 x148 x149 x150 x151 x152 x153 x154 x155 x156 x157 x158 x159 x160 x161 x162 x163 x164 x165 x166 x167 x168 x169 x170 x171 x172 x173 : Value}
    (hB : Try.f6.body = some (.seq c0 (.seq c1 (.seq c2 (.seq (.seq c3 (.block z0 (.loop (.seq c4 (.seq (.block z1 (.seq c5 (.seq c6 (.seq c7 (.seq c8 (.seq c9 (.seq body c10))))))) c11))))) c12))))) (hPQ : Aside0 (∀ c a d v w, Q (.panic c) (a.put d v) w → Q (.panic c) a w)) (S : PS w0 w p b1 b2 q m n1 l n2 l (.slice A l.length cap)) (hl : l.length ≤ 1000) (HG : Aside0 (w.heap[gl]? = some (.cells #[.int .i64 ga.1, .int .i64 ga.2.1, .int .u64 ga.2.2] 38 (0, 0)))) (H8 : Aside0 (w.heap[r8]? = some (.cells (fcs ga ok1) 53 (0, 0)))) (H9 : Aside0 (w.heap[r9]? = some (.cells (fcs gb ok2) 53 (0, 0))))
    (cont : ∀ (w' : World) (y130 y131 y132 y133 y134 y135 y136 y137 y138 y139 y140 y141 y142 y143 y144 y145 y146 y147 y148 y149 y150 y151 y152 y153 y154 y155 y156 y157 y158 y159 y160 y161 y162 y163 y164 y165 y166 y167 y168 y169 y170 y171 : Value), Below w.heap.size w w' → Q .normal ⟨#[x0, x1, x2, .pointer (some ⟨p, 0, none⟩), .pointer (some ⟨q, 0, none⟩), x5, x6, x7, x8, x9, x10, x11, x12, x13, .pointer (some ⟨gl, 0, none⟩), .bool ok1, .int .i64 gb.1, .bool ok2, .pointer (some ⟨r8, 0, none⟩), .pointer (some ⟨r9, 0, none⟩), x20, x21, x22, x23, x24, x25, x26, x27, x28, x29, x30, x31, x32, x33, x34, x35, x36, x37, x38, x39, x40, x41, x42, x43, x44, x45, x46, x47, x48, x49, x50, x51, x52, x53, x54, x55, x56, x57, x58, x59, x60, x61, x62, x63, x64, x65, x66, x67, x68, x69, x70, x71, x72, x73, x74, x75, x76, x77, x78, x79, x80, x81, x82, x83, x84, x85, x86, x87, x88, x89, x90, x91, x92, x93, x94, x95, x96, x97, x98, x99, x100, x101, x102, x103, x104, x105, x106, x107, x108, x109, x110, x111, x112, x113, x114, x115, x116, x117, x118, x119, x120, x121, x122, x123, x124, x125, x126, x127, x128, x129, y130, y131, y132, y133, y134, y135, y136, y137, y138, y139, y140, y141, y142, y143, y144, y145, y146, y147, y148, y149, y150, y151, y152, y153, y154, y155, y156, y157, y158, y159, y160, y161, y162, y163, y164, y165, y166, y167, y168, y169, y170, y171, .bool false, x173], []⟩ w') : Code.wp Try.prog body Q ⟨#[x0, x1, x2, .pointer (some ⟨p, 0, none⟩), .pointer (some ⟨q, 0, none⟩), x5, x6, x7, x8, x9, x10, x11, x12, x13, .pointer (some ⟨gl, 0, none⟩), .bool ok1, .int .i64 gb.1, .bool ok2, .pointer (some ⟨r8, 0, none⟩), .pointer (some ⟨r9, 0, none⟩), x20, x21, x22, x23, x24, x25, x26, x27, x28, x29, x30, x31, x32, x33, x34, x35, x36, x37, x38, x39, x40, x41, x42, x43, x44, x45, x46, x47, x48, x49, x50, x51, x52, x53, x54, x55, x56, x57, x58, x59, x60, x61, x62, x63, x64, x65, x66, x67, x68, x69, x70, x71, x72, x73, x74, x75, x76, x77, x78, x79, x80, x81, x82, x83, x84, x85, x86, x87, x88, x89, x90, x91, x92, x93, x94, x95, x96, x97, x98, x99, x100, x101, x102, x103, x104, x105, x106, x107, x108, x109, x110, x111, x112, x113, x114, x115, x116, x117, x118, x119, x120, x121, x122, x123, x124, x125, x126, x127, x128, x129, x130, x131, x132, x133, x134, x135, x136, x137, x138, x139, x140, x141, x142, x143, x144, x145, x146, x147, x148, x149, x150, x151, x152, x153, x154, x155, x156, x157, x158, x159, x160, x161, x162, x163, x164, x165, x166, x167, x168, x169, x170, x171, x172, x173], []⟩ w := by
  have hbody := plays_body27 rfl hB
  clear hB
  subst hbody
  have hcont := Aside0.mk cont
  clear cont
  have T0 := Aside0.mk S.tab
  have R0 := Aside0.mk S.ref.row
  have HQ := Aside0.mk S.ref.head
  have B0 := Aside0.mk ((Below.refl w.heap.size w).drew)
  clear S
  refine start_ (n := 43) (S := fun w' => w'.heap[gl]? = some (.cells #[.int .i64 ga.1, .int .i64 ga.2.1, .int .u64 ga.2.2] 38 (0, 0)) ∧ w'.heap[r8]? = some (.cells (fcs ga ok1) 53 (0, 0)) ∧ w'.cell? ⟨r8, 3, none⟩ = some (.bool ok1) ∧ w'.cell? ⟨r9, 0, none⟩ = some (.int .i64 gb.1) ∧ w'.cell? ⟨r9, 3, none⟩ = some (.bool ok2) ∧ w'.cell? ⟨q, 0, none⟩ = some (.slice A l.length cap)) (ds := []) #[false, false, false, false, false, false, false, false, false, false, false, false, false, false, false, false, false, false, false, false, false, false, false, false, false, false, false, false, false, false, false, false, false, false, false, false, false, false, false, false, false, false, false] (by kernel_rfl) rfl rfl ⟨(B0.out.block gl (blk_lt HG.out)).trans HG.out, (B0.out.block r8 (blk_lt H8.out)).trans H8.out, blk_cell ((B0.out.block r8 (blk_lt H8.out)).trans H8.out) 3, blk_cell ((B0.out.block r9 (blk_lt H9.out)).trans H9.out) 0, blk_cell ((B0.out.block r9 (blk_lt H9.out)).trans H9.out) 3, blk_cell ((B0.out.block q (blk_lt HQ.out)).trans HQ.out) 0⟩ (fun hHeld => ?_)
  refine pure_ (i := 1) (N := some 131) (v := ?_) (a' := ?_) #[false, true, false, false, false, false, false, false, false, false, false, false, false, false, false, false, false, false, false, false, false, false, false, false, false, false, false, false, false, false, false, false, false, false, false, false, false, false, false, false, false, false, false] rfl rfl (by kernel_rfl) (fun _ _ _ h => hPQ.out _ _ _ _ _ h) (Or.inl ⟨by rfl, ?_⟩) ?_ ?_
  rotate_left
  · intro w'
    go_simp
    with_reducible rfl
  rotate_left
  · simp only [Act.put, List.setIfInBounds_toArray, List.set_cons_zero, List.set_cons_succ, i64_w, i32_w]
    rfl
  refine take_ (i := 0) (N := some 130) (v := ?_) (a' := ?_) #[true, true, false, false, false, false, false, false, false, false, false, false, false, false, false, false, false, false, false, false, false, false, false, false, false, false, false, false, false, false, false, false, false, false, false, false, false, false, false, false, false, false, false] rfl rfl (by kernel_rfl) (fun _ _ _ h => hPQ.out _ _ _ _ _ h) (Or.inl ⟨by rfl, ?_⟩) hHeld ?_ ?_
  rotate_left
  · rintro w' ⟨s0, s1, s2, s3, s4, s5⟩
    refine (exec_load rfl (load_gAt s0)).trans ?_
    with_reducible rfl
  rotate_left
  · simp only [Act.put, List.setIfInBounds_toArray, List.set_cons_zero, List.set_cons_succ, i64_w, i32_w]
    rfl
  refine take_ (i := 2) (N := some 132) (v := ?_) (a' := ?_) #[true, true, true, false, false, false, false, false, false, false, false, false, false, false, false, false, false, false, false, false, false, false, false, false, false, false, false, false, false, false, false, false, false, false, false, false, false, false, false, false, false, false, false] rfl rfl (by kernel_rfl) (fun _ _ _ h => hPQ.out _ _ _ _ _ h) (Or.inl ⟨by rfl, ?_⟩) hHeld ?_ ?_
  rotate_left
  · rintro w' ⟨s0, s1, s2, s3, s4, s5⟩
    refine (exec_load rfl (found_loadG s1)).trans ?_
    with_reducible rfl
  rotate_left
  · simp only [Act.put, List.setIfInBounds_toArray, List.set_cons_zero, List.set_cons_succ, i64_w, i32_w]
    rfl
  refine pure_ (i := 3) (N := some 133) (v := ?_) (a' := ?_) #[true, true, true, true, false, false, false, false, false, false, false, false, false, false, false, false, false, false, false, false, false, false, false, false, false, false, false, false, false, false, false, false, false, false, false, false, false, false, false, false, false, false, false] rfl rfl (by kernel_rfl) (fun _ _ _ h => hPQ.out _ _ _ _ _ h) (Or.inl ⟨by rfl, ?_⟩) ?_ ?_
  rotate_left
  · intro w'
    go_simp
    with_reducible rfl
  rotate_left
  · simp only [Act.put, List.setIfInBounds_toArray, List.set_cons_zero, List.set_cons_succ, i64_w, i32_w]
    rfl
  refine pure_ (i := 4) (N := some 134) (v := ?_) (a' := ?_) #[true, true, true, true, true, false, false, false, false, false, false, false, false, false, false, false, false, false, false, false, false, false, false, false, false, false, false, false, false, false, false, false, false, false, false, false, false, false, false, false, false, false, false] rfl rfl (by kernel_rfl) (fun _ _ _ h => hPQ.out _ _ _ _ _ h) (Or.inl ⟨by rfl, ?_⟩) ?_ ?_
  rotate_left
  · intro w'
    go_simp
    with_reducible rfl
  rotate_left
  · simp only [Act.put, List.setIfInBounds_toArray, List.set_cons_zero, List.set_cons_succ, i64_w, i32_w]
    rfl
  refine pure_ (i := 5) (N := some 135) (v := ?_) (a' := ?_) #[true, true, true, true, true, true, false, false, false, false, false, false, false, false, false, false, false, false, false, false, false, false, false, false, false, false, false, false, false, false, false, false, false, false, false, false, false, false, false, false, false, false, false] rfl rfl (by kernel_rfl) (fun _ _ _ h => hPQ.out _ _ _ _ _ h) (Or.inl ⟨by rfl, ?_⟩) ?_ ?_
  rotate_left
  · intro w'
    go_simp
    with_reducible rfl
  rotate_left
  · simp only [Act.put, List.setIfInBounds_toArray, List.set_cons_zero, List.set_cons_succ, i64_w, i32_w]
    rfl
  refine pure_ (i := 6) (N := some 136) (v := ?_) (a' := ?_) #[true, true, true, true, true, true, true, false, false, false, false, false, false, false, false, false, false, false, false, false, false, false, false, false, false, false, false, false, false, false, false, false, false, false, false, false, false, false, false, false, false, false, false] rfl rfl (by kernel_rfl) (fun _ _ _ h => hPQ.out _ _ _ _ _ h) (Or.inl ⟨by rfl, ?_⟩) ?_ ?_
  rotate_left
  · intro w'
    go_simp
    with_reducible rfl
  rotate_left
  · simp only [Act.put, List.setIfInBounds_toArray, List.set_cons_zero, List.set_cons_succ, i64_w, i32_w]
    rfl
  refine take_ (i := 7) (N := some 137) (v := ?_) (a' := ?_) #[true, true, true, true, true, true, true, true, false, false, false, false, false, false, false, false, false, false, false, false, false, false, false, false, false, false, false, false, false, false, false, false, false, false, false, false, false, false, false, false, false, false, false] rfl rfl (by kernel_rfl) (fun _ _ _ h => hPQ.out _ _ _ _ _ h) (Or.inl ⟨by rfl, ?_⟩) hHeld ?_ ?_
  rotate_left
  · rintro w' ⟨s0, s1, s2, s3, s4, s5⟩
    go_simp
    with_reducible rfl
  rotate_left
  · simp only [Act.put, List.setIfInBounds_toArray, List.set_cons_zero, List.set_cons_succ, i64_w, i32_w]
    rfl
  refine pure_ (i := 8) (N := some 138) (v := ?_) (a' := ?_) #[true, true, true, true, true, true, true, true, true, false, false, false, false, false, false, false, false, false, false, false, false, false, false, false, false, false, false, false, false, false, false, false, false, false, false, false, false, false, false, false, false, false, false] rfl rfl (by kernel_rfl) (fun _ _ _ h => hPQ.out _ _ _ _ _ h) (Or.inl ⟨by rfl, ?_⟩) ?_ ?_
  rotate_left
  · intro w'
    go_simp
    with_reducible rfl
  rotate_left
  · simp only [Act.put, List.setIfInBounds_toArray, List.set_cons_zero, List.set_cons_succ, i64_w, i32_w]
    rfl
  refine pure_ (i := 9) (N := some 139) (v := ?_) (a' := ?_) #[true, true, true, true, true, true, true, true, true, true, false, false, false, false, false, false, false, false, false, false, false, false, false, false, false, false, false, false, false, false, false, false, false, false, false, false, false, false, false, false, false, false, false] rfl rfl (by kernel_rfl) (fun _ _ _ h => hPQ.out _ _ _ _ _ h) (Or.inl ⟨by rfl, ?_⟩) ?_ ?_
  rotate_left
  · intro w'
    go_simp
    with_reducible rfl
  rotate_left
  · simp only [Act.put, List.setIfInBounds_toArray, List.set_cons_zero, List.set_cons_succ, i64_w, i32_w]
    rfl
  refine pure_ (i := 10) (N := some 140) (v := ?_) (a' := ?_) #[true, true, true, true, true, true, true, true, true, true, true, false, false, false, false, false, false, false, false, false, false, false, false, false, false, false, false, false, false, false, false, false, false, false, false, false, false, false, false, false, false, false, false] rfl rfl (by kernel_rfl) (fun _ _ _ h => hPQ.out _ _ _ _ _ h) (Or.inl ⟨by rfl, ?_⟩) ?_ ?_
  rotate_left
  · intro w'
    go_simp
    with_reducible rfl
  rotate_left
  · simp only [Act.put, List.setIfInBounds_toArray, List.set_cons_zero, List.set_cons_succ, i64_w, i32_w]
    rfl
  refine pure_ (i := 11) (N := some 141) (v := ?_) (a' := ?_) #[true, true, true, true, true, true, true, true, true, true, true, true, false, false, false, false, false, false, false, false, false, false, false, false, false, false, false, false, false, false, false, false, false, false, false, false, false, false, false, false, false, false, false] rfl rfl (by kernel_rfl) (fun _ _ _ h => hPQ.out _ _ _ _ _ h) (Or.inl ⟨by rfl, ?_⟩) ?_ ?_
  rotate_left
  · intro w'
    go_simp
    with_reducible rfl
  rotate_left
  · simp only [Act.put, List.setIfInBounds_toArray, List.set_cons_zero, List.set_cons_succ, i64_w, i32_w]
    rfl
  refine pure_ (i := 12) (N := some 142) (v := ?_) (a' := ?_) #[true, true, true, true, true, true, true, true, true, true, true, true, true, false, false, false, false, false, false, false, false, false, false, false, false, false, false, false, false, false, false, false, false, false, false, false, false, false, false, false, false, false, false] rfl rfl (by kernel_rfl) (fun _ _ _ h => hPQ.out _ _ _ _ _ h) (Or.inl ⟨by rfl, ?_⟩) ?_ ?_
  rotate_left
  · intro w'
    go_simp
    with_reducible rfl
  rotate_left
  · simp only [Act.put, List.setIfInBounds_toArray, List.set_cons_zero, List.set_cons_succ, i64_w, i32_w]
    rfl
  refine pure_ (i := 13) (N := some 143) (v := ?_) (a' := ?_) #[true, true, true, true, true, true, true, true, true, true, true, true, true, true, false, false, false, false, false, false, false, false, false, false, false, false, false, false, false, false, false, false, false, false, false, false, false, false, false, false, false, false, false] rfl rfl (by kernel_rfl) (fun _ _ _ h => hPQ.out _ _ _ _ _ h) (Or.inl ⟨by rfl, ?_⟩) ?_ ?_
  rotate_left
  · intro w'
    go_simp
    with_reducible rfl
  rotate_left
  · simp only [Act.put, List.setIfInBounds_toArray, List.set_cons_zero, List.set_cons_succ, i64_w, i32_w]
    rfl
  refine take_ (i := 14) (N := some 144) (v := ?_) (a' := ?_) #[true, true, true, true, true, true, true, true, true, true, true, true, true, true, true, false, false, false, false, false, false, false, false, false, false, false, false, false, false, false, false, false, false, false, false, false, false, false, false, false, false, false, false] rfl rfl (by kernel_rfl) (fun _ _ _ h => hPQ.out _ _ _ _ _ h) (Or.inl ⟨by rfl, ?_⟩) hHeld ?_ ?_
  rotate_left
  · rintro w' ⟨s0, s1, s2, s3, s4, s5⟩
    go_simp
    with_reducible rfl
  rotate_left
  · simp only [Act.put, List.setIfInBounds_toArray, List.set_cons_zero, List.set_cons_succ, i64_w, i32_w]
    rfl
  refine pure_ (i := 15) (N := some 145) (v := ?_) (a' := ?_) #[true, true, true, true, true, true, true, true, true, true, true, true, true, true, true, true, false, false, false, false, false, false, false, false, false, false, false, false, false, false, false, false, false, false, false, false, false, false, false, false, false, false, false] rfl rfl (by kernel_rfl) (fun _ _ _ h => hPQ.out _ _ _ _ _ h) (Or.inl ⟨by rfl, ?_⟩) ?_ ?_
  rotate_left
  · intro w'
    go_simp
    with_reducible rfl
  rotate_left
  · simp only [Act.put, List.setIfInBounds_toArray, List.set_cons_zero, List.set_cons_succ, i64_w, i32_w]
    rfl
  refine pure_ (i := 16) (N := some 146) (v := ?_) (a' := ?_) #[true, true, true, true, true, true, true, true, true, true, true, true, true, true, true, true, true, false, false, false, false, false, false, false, false, false, false, false, false, false, false, false, false, false, false, false, false, false, false, false, false, false, false] rfl rfl (by kernel_rfl) (fun _ _ _ h => hPQ.out _ _ _ _ _ h) (Or.inl ⟨by rfl, ?_⟩) ?_ ?_
  rotate_left
  · intro w'
    go_simp
    with_reducible rfl
  rotate_left
  · simp only [Act.put, List.setIfInBounds_toArray, List.set_cons_zero, List.set_cons_succ, i64_w, i32_w]
    rfl
  refine pure_ (i := 17) (N := some 147) (v := ?_) (a' := ?_) #[true, true, true, true, true, true, true, true, true, true, true, true, true, true, true, true, true, true, false, false, false, false, false, false, false, false, false, false, false, false, false, false, false, false, false, false, false, false, false, false, false, false, false] rfl rfl (by kernel_rfl) (fun _ _ _ h => hPQ.out _ _ _ _ _ h) (Or.inl ⟨by rfl, ?_⟩) ?_ ?_
  rotate_left
  · intro w'
    go_simp
    with_reducible rfl
  rotate_left
  · simp only [Act.put, List.setIfInBounds_toArray, List.set_cons_zero, List.set_cons_succ, i64_w, i32_w]
    rfl
  refine pure_ (i := 18) (N := some 148) (v := ?_) (a' := ?_) #[true, true, true, true, true, true, true, true, true, true, true, true, true, true, true, true, true, true, true, false, false, false, false, false, false, false, false, false, false, false, false, false, false, false, false, false, false, false, false, false, false, false, false] rfl rfl (by kernel_rfl) (fun _ _ _ h => hPQ.out _ _ _ _ _ h) (Or.inl ⟨by rfl, ?_⟩) ?_ ?_
  rotate_left
  · intro w'
    go_simp
    with_reducible rfl
  rotate_left
  · simp only [Act.put, List.setIfInBounds_toArray, List.set_cons_zero, List.set_cons_succ, i64_w, i32_w]
    rfl
  refine pure_ (i := 19) (N := some 149) (v := ?_) (a' := ?_) #[true, true, true, true, true, true, true, true, true, true, true, true, true, true, true, true, true, true, true, true, false, false, false, false, false, false, false, false, false, false, false, false, false, false, false, false, false, false, false, false, false, false, false] rfl rfl (by kernel_rfl) (fun _ _ _ h => hPQ.out _ _ _ _ _ h) (Or.inl ⟨by rfl, ?_⟩) ?_ ?_
  rotate_left
  · intro w'
    go_simp
    with_reducible rfl
  rotate_left
  · simp only [Act.put, List.setIfInBounds_toArray, List.set_cons_zero, List.set_cons_succ, i64_w, i32_w]
    rfl
  refine take_ (i := 20) (N := some 150) (v := ?_) (a' := ?_) #[true, true, true, true, true, true, true, true, true, true, true, true, true, true, true, true, true, true, true, true, true, false, false, false, false, false, false, false, false, false, false, false, false, false, false, false, false, false, false, false, false, false, false] rfl rfl (by kernel_rfl) (fun _ _ _ h => hPQ.out _ _ _ _ _ h) (Or.inl ⟨by rfl, ?_⟩) hHeld ?_ ?_
  rotate_left
  · rintro w' ⟨s0, s1, s2, s3, s4, s5⟩
    go_simp
    with_reducible rfl
  rotate_left
  · simp only [Act.put, List.setIfInBounds_toArray, List.set_cons_zero, List.set_cons_succ, i64_w, i32_w]
    rfl
  refine pure_ (i := 21) (N := some 151) (v := ?_) (a' := ?_) #[true, true, true, true, true, true, true, true, true, true, true, true, true, true, true, true, true, true, true, true, true, true, false, false, false, false, false, false, false, false, false, false, false, false, false, false, false, false, false, false, false, false, false] rfl rfl (by kernel_rfl) (fun _ _ _ h => hPQ.out _ _ _ _ _ h) (Or.inl ⟨by rfl, ?_⟩) ?_ ?_
  rotate_left
  · intro w'
    go_simp
    with_reducible rfl
  rotate_left
  · simp only [Act.put, List.setIfInBounds_toArray, List.set_cons_zero, List.set_cons_succ, i64_w, i32_w]
    rfl
  refine pure_ (i := 22) (N := some 152) (v := ?_) (a' := ?_) #[true, true, true, true, true, true, true, true, true, true, true, true, true, true, true, true, true, true, true, true, true, true, true, false, false, false, false, false, false, false, false, false, false, false, false, false, false, false, false, false, false, false, false] rfl rfl (by kernel_rfl) (fun _ _ _ h => hPQ.out _ _ _ _ _ h) (Or.inl ⟨by rfl, ?_⟩) ?_ ?_
  rotate_left
  · intro w'
    go_simp
    with_reducible rfl
  rotate_left
  · simp only [Act.put, List.setIfInBounds_toArray, List.set_cons_zero, List.set_cons_succ, i64_w, i32_w]
    rfl
  refine pure_ (i := 23) (N := some 153) (v := ?_) (a' := ?_) #[true, true, true, true, true, true, true, true, true, true, true, true, true, true, true, true, true, true, true, true, true, true, true, true, false, false, false, false, false, false, false, false, false, false, false, false, false, false, false, false, false, false, false] rfl rfl (by kernel_rfl) (fun _ _ _ h => hPQ.out _ _ _ _ _ h) (Or.inl ⟨by rfl, ?_⟩) ?_ ?_
  rotate_left
  · intro w'
    go_simp
    with_reducible rfl
  rotate_left
  · simp only [Act.put, List.setIfInBounds_toArray, List.set_cons_zero, List.set_cons_succ, i64_w, i32_w]
    rfl
  refine pure_ (i := 24) (N := some 154) (v := ?_) (a' := ?_) #[true, true, true, true, true, true, true, true, true, true, true, true, true, true, true, true, true, true, true, true, true, true, true, true, true, false, false, false, false, false, false, false, false, false, false, false, false, false, false, false, false, false, false] rfl rfl (by kernel_rfl) (fun _ _ _ h => hPQ.out _ _ _ _ _ h) (Or.inl ⟨by rfl, ?_⟩) ?_ ?_
  rotate_left
  · intro w'
    go_simp
    with_reducible rfl
  rotate_left
  · simp only [Act.put, List.setIfInBounds_toArray, List.set_cons_zero, List.set_cons_succ, i64_w, i32_w]
    rfl
  refine pure_ (i := 26) (N := some 156) (v := ?_) (a' := ?_) #[true, true, true, true, true, true, true, true, true, true, true, true, true, true, true, true, true, true, true, true, true, true, true, true, true, false, true, false, false, false, false, false, false, false, false, false, false, false, false, false, false, false, false] rfl rfl (by kernel_rfl) (fun _ _ _ h => hPQ.out _ _ _ _ _ h) (Or.inl ⟨by rfl, ?_⟩) ?_ ?_
  rotate_left
  · intro w'
    go_simp
    with_reducible rfl
  rotate_left
  · simp only [Act.put, List.setIfInBounds_toArray, List.set_cons_zero, List.set_cons_succ, i64_w, i32_w]
    rfl
  refine pure_ (i := 27) (N := some 157) (v := ?_) (a' := ?_) #[true, true, true, true, true, true, true, true, true, true, true, true, true, true, true, true, true, true, true, true, true, true, true, true, true, false, true, true, false, false, false, false, false, false, false, false, false, false, false, false, false, false, false] rfl rfl (by kernel_rfl) (fun _ _ _ h => hPQ.out _ _ _ _ _ h) (Or.inl ⟨by rfl, ?_⟩) ?_ ?_
  rotate_left
  · intro w'
    go_simp
    with_reducible rfl
  rotate_left
  · simp only [Act.put, List.setIfInBounds_toArray, List.set_cons_zero, List.set_cons_succ, i64_w, i32_w]
    rfl
  refine pure_ (i := 28) (N := some 158) (v := ?_) (a' := ?_) #[true, true, true, true, true, true, true, true, true, true, true, true, true, true, true, true, true, true, true, true, true, true, true, true, true, false, true, true, true, false, false, false, false, false, false, false, false, false, false, false, false, false, false] rfl rfl (by kernel_rfl) (fun _ _ _ h => hPQ.out _ _ _ _ _ h) (Or.inl ⟨by rfl, ?_⟩) ?_ ?_
  rotate_left
  · intro w'
    go_simp
    with_reducible rfl
  rotate_left
  · simp only [Act.put, List.setIfInBounds_toArray, List.set_cons_zero, List.set_cons_succ, i64_w, i32_w]
    rfl
  refine take_ (i := 29) (N := some 159) (v := ?_) (a' := ?_) #[true, true, true, true, true, true, true, true, true, true, true, true, true, true, true, true, true, true, true, true, true, true, true, true, true, false, true, true, true, true, false, false, false, false, false, false, false, false, false, false, false, false, false] rfl rfl (by kernel_rfl) (fun _ _ _ h => hPQ.out _ _ _ _ _ h) (Or.inl ⟨by rfl, ?_⟩) hHeld ?_ ?_
  rotate_left
  · rintro w' ⟨s0, s1, s2, s3, s4, s5⟩
    go_simp
    with_reducible rfl
  rotate_left
  · simp only [Act.put, List.setIfInBounds_toArray, List.set_cons_zero, List.set_cons_succ, i64_w, i32_w]
    rfl
  refine pure_ (i := 30) (N := some 160) (v := ?_) (a' := ?_) #[true, true, true, true, true, true, true, true, true, true, true, true, true, true, true, true, true, true, true, true, true, true, true, true, true, false, true, true, true, true, true, false, false, false, false, false, false, false, false, false, false, false, false] rfl rfl (by kernel_rfl) (fun _ _ _ h => hPQ.out _ _ _ _ _ h) (Or.inl ⟨by rfl, ?_⟩) ?_ ?_
  rotate_left
  · intro w'
    go_simp
    with_reducible rfl
  rotate_left
  · simp only [Act.put, List.setIfInBounds_toArray, List.set_cons_zero, List.set_cons_succ, i64_w, i32_w]
    rfl
  refine one_ (i := 25) (N := some 155) #[true, true, true, true, true, true, true, true, true, true, true, true, true, true, true, true, true, true, true, true, true, true, true, true, true, true, true, true, true, true, true, false, false, false, false, false, false, false, false, false, false, false, false] rfl rfl (by kernel_rfl) (by decide) (fun K hK => ?_)
  refine goes_ Try.func15 (by kernel_rfl) rfl #[.pointer (some ⟨p, 0, none⟩)] (by rfl) rfl rfl (by simp only [List.map_toArray, List.map_cons, List.map_nil]; rfl) ?_
  with_reducible refine (len_l (T0.out.keep B0.out)).mono ?_
  rintro e z ⟨rfl, rfl⟩
  refine ⟨_, rfl, ?_⟩
  refine hK.out _ _ ⟨(B0.out.block gl (blk_lt HG.out)).trans HG.out, (B0.out.block r8 (blk_lt H8.out)).trans H8.out, blk_cell ((B0.out.block r8 (blk_lt H8.out)).trans H8.out) 3, blk_cell ((B0.out.block r9 (blk_lt H9.out)).trans H9.out) 0, blk_cell ((B0.out.block r9 (blk_lt H9.out)).trans H9.out) 3, blk_cell ((B0.out.block q (blk_lt HQ.out)).trans HQ.out) 0⟩ (fun hHeld => ?_)
  clear hK K
  refine norm_ (a' := ?_) ?_ ?_
  rotate_left
  · show Act.put _ (some 155) _ = _
    simp only [Act.put, List.setIfInBounds_toArray, List.set_cons_zero, List.set_cons_succ, i64_w, i32_w]
    rfl
  refine pure_ (i := 31) (N := some 161) (v := ?_) (a' := ?_) #[true, true, true, true, true, true, true, true, true, true, true, true, true, true, true, true, true, true, true, true, true, true, true, true, true, true, true, true, true, true, true, true, false, false, false, false, false, false, false, false, false, false, false] rfl rfl (by kernel_rfl) (fun _ _ _ h => hPQ.out _ _ _ _ _ h) (Or.inl ⟨by rfl, ?_⟩) ?_ ?_
  rotate_left
  · intro w'
    go_simp
    with_reducible rfl
  rotate_left
  · simp only [Act.put, List.setIfInBounds_toArray, List.set_cons_zero, List.set_cons_succ, i64_w, i32_w]
    rfl
  refine pure_ (i := 32) (N := some 162) (v := ?_) (a' := ?_) #[true, true, true, true, true, true, true, true, true, true, true, true, true, true, true, true, true, true, true, true, true, true, true, true, true, true, true, true, true, true, true, true, true, false, false, false, false, false, false, false, false, false, false] rfl rfl (by kernel_rfl) (fun _ _ _ h => hPQ.out _ _ _ _ _ h) (Or.inl ⟨by rfl, ?_⟩) ?_ ?_
  rotate_left
  · intro w'
    go_simp
    with_reducible rfl
  rotate_left
  · simp only [Act.put, List.setIfInBounds_toArray, List.set_cons_zero, List.set_cons_succ, i64_w, i32_w]
    rfl
  refine pure_ (i := 33) (N := some 163) (v := ?_) (a' := ?_) #[true, true, true, true, true, true, true, true, true, true, true, true, true, true, true, true, true, true, true, true, true, true, true, true, true, true, true, true, true, true, true, true, true, true, false, false, false, false, false, false, false, false, false] rfl rfl (by kernel_rfl) (fun _ _ _ h => hPQ.out _ _ _ _ _ h) (Or.inl ⟨by rfl, ?_⟩) ?_ ?_
  rotate_left
  · intro w'
    go_simp
    with_reducible rfl
  rotate_left
  · simp only [Act.put, List.setIfInBounds_toArray, List.set_cons_zero, List.set_cons_succ, i64_w, i32_w]
    rfl
  refine pure_ (i := 34) (N := some 164) (v := ?_) (a' := ?_) #[true, true, true, true, true, true, true, true, true, true, true, true, true, true, true, true, true, true, true, true, true, true, true, true, true, true, true, true, true, true, true, true, true, true, true, false, false, false, false, false, false, false, false] rfl rfl (by kernel_rfl) (fun _ _ _ h => hPQ.out _ _ _ _ _ h) (Or.inl ⟨by rfl, ?_⟩) ?_ ?_
  rotate_left
  · intro w'
    go_simp
    with_reducible rfl
  rotate_left
  · simp only [Act.put, List.setIfInBounds_toArray, List.set_cons_zero, List.set_cons_succ, i64_w, i32_w]
    rfl
  refine pure_ (i := 36) (N := some 166) (v := ?_) (a' := ?_) #[true, true, true, true, true, true, true, true, true, true, true, true, true, true, true, true, true, true, true, true, true, true, true, true, true, true, true, true, true, true, true, true, true, true, true, false, true, false, false, false, false, false, false] rfl rfl (by kernel_rfl) (fun _ _ _ h => hPQ.out _ _ _ _ _ h) (Or.inl ⟨by rfl, ?_⟩) ?_ ?_
  rotate_left
  · intro w'
    go_simp
    with_reducible rfl
  rotate_left
  · simp only [Act.put, List.setIfInBounds_toArray, List.set_cons_zero, List.set_cons_succ, i64_w, i32_w]
    rfl
  refine pure_ (i := 37) (N := some 167) (v := ?_) (a' := ?_) #[true, true, true, true, true, true, true, true, true, true, true, true, true, true, true, true, true, true, true, true, true, true, true, true, true, true, true, true, true, true, true, true, true, true, true, false, true, true, false, false, false, false, false] rfl rfl (by kernel_rfl) (fun _ _ _ h => hPQ.out _ _ _ _ _ h) (Or.inl ⟨by rfl, ?_⟩) ?_ ?_
  rotate_left
  · intro w'
    go_simp
    with_reducible rfl
  rotate_left
  · simp only [Act.put, List.setIfInBounds_toArray, List.set_cons_zero, List.set_cons_succ, i64_w, i32_w]
    rfl
  refine pure_ (i := 38) (N := some 168) (v := ?_) (a' := ?_) #[true, true, true, true, true, true, true, true, true, true, true, true, true, true, true, true, true, true, true, true, true, true, true, true, true, true, true, true, true, true, true, true, true, true, true, false, true, true, true, false, false, false, false] rfl rfl (by kernel_rfl) (fun _ _ _ h => hPQ.out _ _ _ _ _ h) (Or.inl ⟨by rfl, ?_⟩) ?_ ?_
  rotate_left
  · intro w'
    go_simp
    with_reducible rfl
  rotate_left
  · simp only [Act.put, List.setIfInBounds_toArray, List.set_cons_zero, List.set_cons_succ, i64_w, i32_w]
    rfl
  refine take_ (i := 39) (N := some 169) (v := ?_) (a' := ?_) #[true, true, true, true, true, true, true, true, true, true, true, true, true, true, true, true, true, true, true, true, true, true, true, true, true, true, true, true, true, true, true, true, true, true, true, false, true, true, true, true, false, false, false] rfl rfl (by kernel_rfl) (fun _ _ _ h => hPQ.out _ _ _ _ _ h) (Or.inl ⟨by rfl, ?_⟩) hHeld ?_ ?_
  rotate_left
  · rintro w' ⟨s0, s1, s2, s3, s4, s5⟩
    go_simp
    with_reducible rfl
  rotate_left
  · simp only [Act.put, List.setIfInBounds_toArray, List.set_cons_zero, List.set_cons_succ, i64_w, i32_w]
    rfl
  refine one_ (i := 35) (N := some 165) #[true, true, true, true, true, true, true, true, true, true, true, true, true, true, true, true, true, true, true, true, true, true, true, true, true, true, true, true, true, true, true, true, true, true, true, true, true, true, true, true, false, false, false] rfl rfl (by kernel_rfl) (by decide) (fun K hK => ?_)
  refine goes_ Try.func16 (by kernel_rfl) rfl #[.pointer (some ⟨p, 0, none⟩)] (by rfl) rfl rfl (by simp only [List.map_toArray, List.map_cons, List.map_nil]; rfl) ?_
  with_reducible refine (list_l (T0.out.keep B0.out) (by omega)).mono ?_
  rintro e w6 ⟨vL, rfl, hr, hb⟩
  refine ⟨_, rfl, ?_⟩
  have B6 := Aside0.mk (B0.out.trans (hb.mono B0.out.size))
  have R6 := Aside0.mk hr
  clear hr hb
  refine hK.out _ _ ⟨(B6.out.block gl (blk_lt HG.out)).trans HG.out, (B6.out.block r8 (blk_lt H8.out)).trans H8.out, blk_cell ((B6.out.block r8 (blk_lt H8.out)).trans H8.out) 3, blk_cell ((B6.out.block r9 (blk_lt H9.out)).trans H9.out) 0, blk_cell ((B6.out.block r9 (blk_lt H9.out)).trans H9.out) 3, blk_cell ((B6.out.block q (blk_lt HQ.out)).trans HQ.out) 0⟩ (fun hHeld => ?_)
  clear hK K
  refine norm_ (a' := ?_) ?_ ?_
  rotate_left
  · show Act.put _ (some 165) _ = _
    simp only [Act.put, List.setIfInBounds_toArray, List.set_cons_zero, List.set_cons_succ, i64_w, i32_w]
    rfl
  refine one_ (i := 40) (N := some 170) #[true, true, true, true, true, true, true, true, true, true, true, true, true, true, true, true, true, true, true, true, true, true, true, true, true, true, true, true, true, true, true, true, true, true, true, true, true, true, true, true, true, false, false] rfl rfl (by kernel_rfl) (by decide) (fun K hK => ?_)
  refine goes_ Try.func20 (by kernel_rfl) rfl #[vL, .slice A l.length cap] (by rfl) rfl rfl (by simp only [List.map_toArray, List.map_cons, List.map_nil]; rfl) ?_
  with_reducible refine (alike_calls R6.out (RowG.move R0.out (fun k hk => B6.out.block k (RowG.lt R0.out k hk))) hl).mono ?_
  rintro e w7 ⟨rfl, hb⟩
  refine ⟨_, rfl, ?_⟩
  have B7 := Aside0.mk (B6.out.trans (hb.mono B6.out.size))
  clear hb
  refine hK.out _ _ ⟨(B7.out.block gl (blk_lt HG.out)).trans HG.out, (B7.out.block r8 (blk_lt H8.out)).trans H8.out, blk_cell ((B7.out.block r8 (blk_lt H8.out)).trans H8.out) 3, blk_cell ((B7.out.block r9 (blk_lt H9.out)).trans H9.out) 0, blk_cell ((B7.out.block r9 (blk_lt H9.out)).trans H9.out) 3, blk_cell ((B7.out.block q (blk_lt HQ.out)).trans HQ.out) 0⟩ (fun hHeld => ?_)
  clear hK K
  refine norm_ (a' := ?_) ?_ ?_
  rotate_left
  · show Act.put _ (some 170) _ = _
    simp only [Act.put, List.setIfInBounds_toArray, List.set_cons_zero, List.set_cons_succ, i64_w, i32_w]
    rfl
  refine pure_ (i := 41) (N := some 171) (v := ?_) (a' := ?_) #[true, true, true, true, true, true, true, true, true, true, true, true, true, true, true, true, true, true, true, true, true, true, true, true, true, true, true, true, true, true, true, true, true, true, true, true, true, true, true, true, true, true, false] rfl rfl (by kernel_rfl) (fun _ _ _ h => hPQ.out _ _ _ _ _ h) (Or.inl ⟨by rfl, ?_⟩) ?_ ?_
  rotate_left
  · intro w'
    go_simp
    with_reducible rfl
  rotate_left
  · simp only [Act.put, List.setIfInBounds_toArray, List.set_cons_zero, List.set_cons_succ, i64_w, i32_w]
    rfl
  refine pure_ (i := 42) (N := some 172) (v := ?_) (a' := ?_) #[true, true, true, true, true, true, true, true, true, true, true, true, true, true, true, true, true, true, true, true, true, true, true, true, true, true, true, true, true, true, true, true, true, true, true, true, true, true, true, true, true, true, true] rfl rfl (by kernel_rfl) (fun _ _ _ h => hPQ.out _ _ _ _ _ h) (Or.inl ⟨by rfl, ?_⟩) ?_ ?_
  rotate_left
  · intro w'
    go_simp
    with_reducible rfl
  rotate_left
  · simp only [Act.put, List.setIfInBounds_toArray, List.set_cons_zero, List.set_cons_succ, i64_w, i32_w]
    rfl
  refine done_ (by kernel_rfl) ?_
  exact hcont.out _ _ _ _ _ _ _ _ _ _ _ _ _ _ _ _ _ _ _ _ _ _ _ _ _ _ _ _ _ _ _ _ _ _ _ _ _ _ _ _ _ _ _ B7.out
theorem plays_body22 {c0 c1 c2 c3 c4 c5 c6 c7 c8 c9 c10 c11 c12 c13 c14 c15 c16 body : Code} {z0 z1 z2 : Nat} {q0 q1 q2 : Operand} {c0' c1' c2' c3' c4' c5' c6' c7' c8' c9' c10' c11' c12' c13' c14' c15' c16' body' : Code} {z0' z1' z2' : Nat} {q0' q1' q2' : Operand} (h : Try.f6.body = some (.seq c0 (.seq c1 (.seq c2 (.seq (.seq c3 (.block z0 (.loop (.seq c4 (.seq (.block z1 (.seq c5 (.seq (.seq c6 (.block z2 (.seq c7 (.cond q0 c8 (.seq c9 (.cond q1 c10 (.seq c11 (.cond q2 (.seq body c12) c13)))))))) c14))) c15))))) c16))))) (h' : Try.f6.body = some (.seq c0' (.seq c1' (.seq c2' (.seq (.seq c3' (.block z0' (.loop (.seq c4' (.seq (.block z1' (.seq c5' (.seq (.seq c6' (.block z2' (.seq c7' (.cond q0' c8' (.seq c9' (.cond q1' c10' (.seq c11' (.cond q2' (.seq body' c12') c13')))))))) c14'))) c15'))))) c16'))))) : body' = body := by
  rw [h] at h'
  simp only [Option.some.injEq, Code.seq.injEq, Code.cond.injEq, Code.block.injEq, Code.loop.injEq] at h'
  simp only [h']
set_option maxRecDepth 100000 in
set_option maxHeartbeats 8000000 in
theorem plays22 {w0 w : World} {p b1 b2 q m r : Nat} {n1 n2 d j u : Int} {l : List G3} {v : Value} {Q : Exit → Act → World → Prop} {c0 c1 c2 c3 c4 c5 c6 c7 c8 c9 c10 c11 c12 c13 c14 c15 c16 body : Code} {z0 z1 z2 : Nat} {q0 q1 q2 : Operand} {x0 x1 x2 x5 x7 x8 x9 x10 x11 x12 x13 x14 x15 x16 x17 x18 x19 x20 x21 x22 x23 x24 x25 x26 x27 x28 x29 x30 x31 x32 x33 x34 x35 x36 x37 x38 x39 x40 x41 x42 x43 x44 x45 x46 x47 x48 x49 x50 x51 x52 x53 x54 x55 x56 x57 x58 x59 x60 x61 x62 x63 x64 x65 x66 x67 x68 x69 x70 x71 x72 x73 x74 x75 x76 x77 x78 x79 x80 x81 x82 x83 x84 x85 x86 x87 x88 x89 x90 x91 x92 x93 x94 x95 x96 x97 x98 x99 x100 x101 x102 x103 x104 x105 x106 x107 x108 x109 x110 x111 x112 x113 x114 x115 x116 x117 x118 x119 x120 x121 x122 x123 x124 x125 x126 x127 x128 x129 x130 x131 x132 x133 x134 x135 x136 x137 x138 x139 x140 x141 x142 x143 x144 x145 x146 x147 x148 x149 x150 x151 x152 x153 x154 x155 x156 x157 x158 x159 x160 x161 x162 x163 x164 x165 x166 x167 x168 x169 x170 x171 x172 x173 : Value}
    (hB : Try.f6.body = some (.seq c0 (.seq c1 (.seq c2 (.seq (.seq c3 (.block z0 (.loop (.seq c4 (.seq (.block z1 (.seq c5 (.seq (.seq c6 (.block z2 (.seq c7 (.cond q0 c8 (.seq c9 (.cond q1 c10 (.seq c11 (.cond q2 (.seq body c12) c13)))))))) c14))) c15))))) c16))))) (hPQ : Aside0 (∀ c a d v w, Q (.panic c) (a.put d v) w → Q (.panic c) a w)) (S : PS w0 w p b1 b2 q m n1 l n2 l v) (hl : l.length ≤ 100) (hu : l.Pairwise (fun x y => x.1 < y.1)) (HA : Aside0 (w.heap[r]? = some (.cells #[.int .i64 d, .int .i64 j, .int .u64 u] 30 (0, 0)))) (HR : Aside0 (r ≠ p ∧ r ≠ b1 ∧ r ≠ b2 ∧ r ≠ q))
    (cont : ∀ (w' : World) (v' : Value) (y98 y99 y100 y101 y102 y103 y104 y105 y106 : Value), PS w0 w' p b1 b2 q m n1 (l.filter (fun x => !due u x)) n2 (l.filter (fun x => !due u x)) v' → w'.heap[r]? = some (.cells #[.int .i64 d, .int .i64 j, .int .u64 u] 30 (0, 0)) → Q .normal ⟨#[x0, x1, x2, .pointer (some ⟨p, 0, none⟩), .pointer (some ⟨q, 0, none⟩), x5, .pointer (some ⟨r, 0, none⟩), x7, x8, x9, x10, x11, x12, x13, x14, x15, x16, x17, x18, x19, x20, x21, x22, x23, x24, x25, x26, x27, x28, x29, x30, x31, x32, x33, x34, x35, x36, x37, x38, x39, x40, x41, x42, x43, x44, x45, x46, x47, x48, x49, x50, x51, x52, x53, x54, x55, x56, x57, x58, x59, x60, x61, x62, x63, x64, x65, x66, x67, x68, x69, x70, x71, x72, x73, x74, x75, x76, x77, x78, x79, x80, x81, x82, x83, x84, x85, x86, x87, x88, x89, x90, x91, x92, x93, x94, x95, x96, x97, y98, y99, y100, y101, y102, y103, y104, y105, y106, .bool false, x108, x109, x110, x111, x112, x113, x114, x115, x116, x117, x118, x119, x120, x121, x122, x123, x124, x125, x126, x127, x128, x129, x130, x131, x132, x133, x134, x135, x136, x137, x138, x139, x140, x141, x142, x143, x144, x145, x146, x147, x148, x149, x150, x151, x152, x153, x154, x155, x156, x157, x158, x159, x160, x161, x162, x163, x164, x165, x166, x167, x168, x169, x170, x171, x172, x173], []⟩ w') : Code.wp Try.prog body Q ⟨#[x0, x1, x2, .pointer (some ⟨p, 0, none⟩), .pointer (some ⟨q, 0, none⟩), x5, .pointer (some ⟨r, 0, none⟩), x7, x8, x9, x10, x11, x12, x13, x14, x15, x16, x17, x18, x19, x20, x21, x22, x23, x24, x25, x26, x27, x28, x29, x30, x31, x32, x33, x34, x35, x36, x37, x38, x39, x40, x41, x42, x43, x44, x45, x46, x47, x48, x49, x50, x51, x52, x53, x54, x55, x56, x57, x58, x59, x60, x61, x62, x63, x64, x65, x66, x67, x68, x69, x70, x71, x72, x73, x74, x75, x76, x77, x78, x79, x80, x81, x82, x83, x84, x85, x86, x87, x88, x89, x90, x91, x92, x93, x94, x95, x96, x97, x98, x99, x100, x101, x102, x103, x104, x105, x106, x107, x108, x109, x110, x111, x112, x113, x114, x115, x116, x117, x118, x119, x120, x121, x122, x123, x124, x125, x126, x127, x128, x129, x130, x131, x132, x133, x134, x135, x136, x137, x138, x139, x140, x141, x142, x143, x144, x145, x146, x147, x148, x149, x150, x151, x152, x153, x154, x155, x156, x157, x158, x159, x160, x161, x162, x163, x164, x165, x166, x167, x168, x169, x170, x171, x172, x173], []⟩ w := by
  have hbody := plays_body22 rfl hB
  clear hB
  subst hbody
  have hcont := Aside0.mk cont
  clear cont
  have S0 := Aside0.mk S
  have B0 := Aside0.mk ((Below.refl w.heap.size w).drew)
  clear S
  refine start_ (n := 10) (S := fun w' => w'.cell? ⟨r, 2, none⟩ = some (.int .u64 u)) (ds := []) #[false, false, false, false, false, false, false, false, false, false] (by kernel_rfl) rfl rfl (blk_cell ((B0.out.block r (blk_lt HA.out)).trans HA.out) 2) (fun hHeld => ?_)
  refine pure_ (i := 0) (N := some 98) (v := ?_) (a' := ?_) #[true, false, false, false, false, false, false, false, false, false] rfl rfl (by kernel_rfl) (fun _ _ _ h => hPQ.out _ _ _ _ _ h) (Or.inl ⟨by rfl, ?_⟩) ?_ ?_
  rotate_left
  · intro w'
    go_simp
    with_reducible rfl
  rotate_left
  · simp only [Act.put, List.setIfInBounds_toArray, List.set_cons_zero, List.set_cons_succ, i64_w, i32_w]
    rfl
  refine pure_ (i := 1) (N := some 99) (v := ?_) (a' := ?_) #[true, true, false, false, false, false, false, false, false, false] rfl rfl (by kernel_rfl) (fun _ _ _ h => hPQ.out _ _ _ _ _ h) (Or.inl ⟨by rfl, ?_⟩) ?_ ?_
  rotate_left
  · intro w'
    go_simp
    with_reducible rfl
  rotate_left
  · simp only [Act.put, List.setIfInBounds_toArray, List.set_cons_zero, List.set_cons_succ, i64_w, i32_w]
    rfl
  refine pure_ (i := 4) (N := some 102) (v := ?_) (a' := ?_) #[true, true, false, false, true, false, false, false, false, false] rfl rfl (by kernel_rfl) (fun _ _ _ h => hPQ.out _ _ _ _ _ h) (Or.inl ⟨by rfl, ?_⟩) ?_ ?_
  rotate_left
  · intro w'
    go_simp
    with_reducible rfl
  rotate_left
  · simp only [Act.put, List.setIfInBounds_toArray, List.set_cons_zero, List.set_cons_succ, i64_w, i32_w]
    rfl
  refine pure_ (i := 5) (N := some 103) (v := ?_) (a' := ?_) #[true, true, false, false, true, true, false, false, false, false] rfl rfl (by kernel_rfl) (fun _ _ _ h => hPQ.out _ _ _ _ _ h) (Or.inl ⟨by rfl, ?_⟩) ?_ ?_
  rotate_left
  · intro w'
    go_simp
    with_reducible rfl
  rotate_left
  · simp only [Act.put, List.setIfInBounds_toArray, List.set_cons_zero, List.set_cons_succ, i64_w, i32_w]
    rfl
  refine take_ (i := 2) (N := some 100) (v := ?_) (a' := ?_) #[true, true, true, false, true, true, false, false, false, false] rfl rfl (by kernel_rfl) (fun _ _ _ h => hPQ.out _ _ _ _ _ h) (Or.inl ⟨by rfl, ?_⟩) hHeld ?_ ?_
  rotate_left
  · intro w' s0
    go_simp
    with_reducible rfl
  rotate_left
  · simp only [Act.put, List.setIfInBounds_toArray, List.set_cons_zero, List.set_cons_succ, i64_w, i32_w]
    rfl
  refine take_ (i := 6) (N := some 104) (v := ?_) (a' := ?_) #[true, true, true, false, true, true, true, false, false, false] rfl rfl (by kernel_rfl) (fun _ _ _ h => hPQ.out _ _ _ _ _ h) (Or.inl ⟨by rfl, ?_⟩) hHeld ?_ ?_
  rotate_left
  · intro w' s0
    go_simp
    with_reducible rfl
  rotate_left
  · simp only [Act.put, List.setIfInBounds_toArray, List.set_cons_zero, List.set_cons_succ, i64_w, i32_w]
    rfl
  refine one_ (i := 3) (N := some 101) #[true, true, true, true, true, true, true, false, false, false] rfl rfl (by kernel_rfl) (by decide) (fun K hK => ?_)
  refine goes_ Try.func12 (by kernel_rfl) rfl #[.pointer (some ⟨p, 0, none⟩), .int .u64 u] (by rfl) rfl rfl (by simp only [List.map_toArray, List.map_cons, List.map_nil]; rfl) ?_
  with_reducible refine (over_l sorts (S0.out.tab.keep B0.out) (by omega)).mono ?_
  rintro e w3 ⟨vA, lA, rfl, hr, hp, hs, hT, hb, hf⟩
  refine ⟨_, rfl, ?_⟩
  have S3 := Aside0.mk ((S0.out.keep B0.out).onTab hT hb (fun k hk _ h2 h3 => hf k hk h2 h3))
  have H3 := Aside0.mk ((hf r (Nat.lt_of_lt_of_le (blk_lt HA.out) B0.out.size) HR.out.2.1 HR.out.2.2.1).trans ((B0.out.block r (blk_lt HA.out)).trans HA.out))
  have RA := Aside0.mk hr
  have PA := Aside0.mk (And.intro hp hs)
  clear hr hp hs hT hb hf
  refine hK.out _ _ (blk_cell H3.out 2) (fun hHeld => ?_)
  clear hK K
  refine norm_ (a' := ?_) ?_ ?_
  rotate_left
  · show Act.put _ (some 101) _ = _
    simp only [Act.put, List.setIfInBounds_toArray, List.set_cons_zero, List.set_cons_succ, i64_w, i32_w]
    rfl
  refine one_ (i := 7) (N := some 105) #[true, true, true, true, true, true, true, true, false, false] rfl rfl (by kernel_rfl) (by decide) (fun K hK => ?_)
  refine goes_ Try.func21 (by kernel_rfl) rfl #[.pointer (some ⟨q, 0, none⟩), .int .u64 u] (by rfl) rfl rfl (by simp only [List.map_toArray, List.map_cons, List.map_nil]; rfl) ?_
  with_reducible refine (rover_calls S3.out.ref (by omega) S3.out.qlt hu).mono ?_
  rintro e w7 ⟨vB, v2, lB, rfl, hr, hp, hs, hT, hb, hf, hz⟩
  refine ⟨_, rfl, ?_⟩
  have S7 := Aside0.mk (S3.out.onRef hT hb)
  have H7 := Aside0.mk ((hf r (blk_lt H3.out) HR.out.2.2.2).trans H3.out)
  have RB := Aside0.mk hr
  obtain rfl : lB = lA := stable_unique hp PA.out.1 hs PA.out.2
  have RA7 := Aside0.mk (RowG.move RA.out (fun k hk => hf k (RowG.lt RA.out k hk) (fun e => by have := own_base RA.out k hk; have := blk_lt ((S0.out.keep B0.out).ref.head); omega)))
  have LA := Aside0.mk hp
  clear hr hs hT hb hf hz hp
  refine hK.out _ _ (blk_cell H7.out 2) (fun hHeld => ?_)
  clear hK K
  refine norm_ (a' := ?_) ?_ ?_
  rotate_left
  · show Act.put _ (some 105) _ = _
    simp only [Act.put, List.setIfInBounds_toArray, List.set_cons_zero, List.set_cons_succ, i64_w, i32_w]
    rfl
  refine one_ (i := 8) (N := some 106) #[true, true, true, true, true, true, true, true, true, false] rfl rfl (by kernel_rfl) (by decide) (fun K hK => ?_)
  refine goes_ Try.func20 (by kernel_rfl) rfl #[vA, vB] (by rfl) rfl rfl (by simp only [List.map_toArray, List.map_cons, List.map_nil]; rfl) ?_
  with_reducible refine (alike_calls RA7.out RB.out (by have h1 := LA.out.length_eq; have h2 := List.length_filter_le (due u) l; omega)).mono ?_
  rintro e w8 ⟨rfl, hb⟩
  refine ⟨_, rfl, ?_⟩
  have S8 := Aside0.mk (S7.out.keep hb)
  have H8 := Aside0.mk ((hb.block r (blk_lt H7.out)).trans H7.out)
  clear hb
  refine hK.out _ _ (blk_cell H8.out 2) (fun hHeld => ?_)
  clear hK K
  refine norm_ (a' := ?_) ?_ ?_
  rotate_left
  · show Act.put _ (some 106) _ = _
    simp only [Act.put, List.setIfInBounds_toArray, List.set_cons_zero, List.set_cons_succ, i64_w, i32_w]
    rfl
  refine pure_ (i := 9) (N := some 107) (v := ?_) (a' := ?_) #[true, true, true, true, true, true, true, true, true, true] rfl rfl (by kernel_rfl) (fun _ _ _ h => hPQ.out _ _ _ _ _ h) (Or.inl ⟨by rfl, ?_⟩) ?_ ?_
  rotate_left
  · intro w'
    go_simp
    with_reducible rfl
  rotate_left
  · simp only [Act.put, List.setIfInBounds_toArray, List.set_cons_zero, List.set_cons_succ, i64_w, i32_w]
    rfl
  refine done_ (by kernel_rfl) ?_
  exact hcont.out _ _ _ _ _ _ _ _ _ _ _ S8.out H8.out
end Go.Proofs.Ytikbgoppmailjaa.H
