import Derived.Test.YtikbgoppmailjaaHLp7
/- LeasePlays: a round, the loop, the whole. -/
namespace Go.Proofs.Ytikbgoppmailjaa.H
open Go.RowKit Go.HK Go.Maps Go.Lib Go.WideShapes Go.ChangeShapes Go.Proofs.YtikbgoppmailjaaW.PrintWords Go.Proofs.YtikbgoppmailjaaW.PrintLast Go.Proofs.YtikbgoppmailjaaW.PrintMore
set_option linter.unusedVariables false
set_option linter.unusedSimpArgs false
/-- The numbers at the i-th act. -/
structure PI (i m : Nat) (n : Int) (l : List G3) : Prop where
  lo : 0 ≤ n
  hi : n ≤ i
  mm : m ≤ 2 * i
  len : l.length ≤ i
  nums : ∀ g ∈ l, g.1 ≤ n
  up : l.Pairwise (fun x y => x.1 < y.1)
theorem PI.next {i m : Nat} {n : Int} {l : List G3} (h : PI i m n l) : PI (i + 1) m n l := ⟨h.lo, by have := h.hi; omega, by have := h.mm; omega, by have := h.len; omega, h.nums, h.up⟩
theorem PI.filter {i m : Nat} {n : Int} {l : List G3} (h : PI i m n l) (p : G3 → Bool) : PI (i + 1) m n (l.filter p) :=
  ⟨h.lo, by have := h.hi; omega, by have := h.mm; omega, by have := h.len; have := List.length_filter_le p l; omega, fun g hg => h.nums g (List.mem_filter.1 hg).1, h.up.sublist List.filter_sublist⟩
theorem PI.more {i m : Nat} {n : Int} {l : List G3} (h : PI i m n l) (j u : Int) : PI (i + 1) (m + 2) (n + 1) (l ++ [(n + 1, j, u)]) := by
  refine ⟨by have := h.lo; omega, by have := h.hi; omega, by have := h.mm; omega, ?_, fun g hg => ?_, ?_⟩
  · have := h.len
    simp only [List.length_append, List.length_singleton]
    omega
  · rcases List.mem_append.1 hg with hg | hg
    · have := h.nums g hg; omega
    · obtain rfl := List.mem_singleton.1 hg
      exact Int.le_refl _
  · exact List.pairwise_append.2 ⟨h.up, List.pairwise_singleton _ _, fun x hx y hy => by obtain rfl := List.mem_singleton.1 hy; have := h.nums x hx; show x.1 < n + 1; omega⟩
theorem plays_body0 {c0 c1 c2 c3 c4 body : Code} {z0 : Nat}  {c0' c1' c2' c3' c4' body' : Code} {z0' : Nat}  (h : Try.f6.body = some (.seq c0 (.seq c1 (.seq c2 (.seq (.seq c3 (.block z0 (.loop body))) c4))))) (h' : Try.f6.body = some (.seq c0' (.seq c1' (.seq c2' (.seq (.seq c3' (.block z0' (.loop body'))) c4'))))) : body' = body := by
  rw [h] at h'
  simp only [Option.some.injEq, Code.seq.injEq, Code.cond.injEq, Code.block.injEq, Code.loop.injEq] at h'
  simp only [h']
set_option maxRecDepth 100000 in
set_option maxHeartbeats 8000000 in
theorem plays_had0 {w0 w : World} {a : Addr} {LN cap p b1 b2 q m i : Nat} {n d j u : Int} {l : List G3} {v : Value} {Q : Exit → Act → World → Prop} {N : Nat} {c0 c1 c2 c3 c4 body : Code} {z0 : Nat}  {x1 x6 x7 x8 x9 x10 x11 x12 x13 x14 x15 x16 x17 x18 x19 x20 x21 x22 x23 x24 x25 x26 x27 x28 x29 x30 x31 x32 x33 x34 x35 x36 x37 x38 x39 x40 x41 x42 x43 x44 x45 x46 x47 x48 x49 x50 x51 x52 x53 x54 x55 x56 x57 x58 x59 x60 x61 x62 x63 x64 x65 x66 x67 x68 x69 x70 x71 x72 x73 x74 x75 x76 x77 x78 x79 x80 x81 x82 x83 x84 x85 x86 x87 x88 x89 x90 x91 x92 x93 x94 x95 x96 x97 x98 x99 x100 x101 x102 x103 x104 x105 x106 x107 x108 x109 x110 x111 x112 x113 x114 x115 x116 x117 x118 x119 x120 x121 x122 x123 x124 x125 x126 x127 x128 x129 x130 x131 x132 x133 x134 x135 x136 x137 x138 x139 x140 x141 x142 x143 x144 x145 x146 x147 x148 x149 x150 x151 x152 x153 x154 x155 x156 x157 x158 x159 x160 x161 x162 x163 x164 x165 x166 x167 x168 x169 x170 x171 x172 x173 : Value}
    (hB : Try.f6.body = some (.seq c0 (.seq c1 (.seq c2 (.seq (.seq c3 (.block z0 (.loop body))) c4))))) (hPQ : Aside0 (∀ c a d v w, Q (.panic c) (a.put d v) w → Q (.panic c) a w)) (S : Aside0 (PS w0 w p b1 b2 q m n l n l v)) (P : Aside0 (PI i m n l)) (k0 : Aside0 (w0.cell? (a.add (i * 3 + 0)) = some (.int .i64 d))) (k1 : Aside0 (w0.cell? (a.add (i * 3 + 1)) = some (.int .i64 j))) (k2 : Aside0 (w0.cell? (a.add (i * 3 + 2)) = some (.int .u64 u))) (HAB : Aside0 (a.block < w0.heap.size)) (WD : Aside0 ((Lit.int .i64 d).wf = true)) (WJ : Aside0 ((Lit.int .i64 j).wf = true)) (hi : i < LN) (hl : i < 60) (hlc : LN ≤ maxLen) (HM : Aside0 (∀ w : World, Calls Try.prog 11 #[.int .i64 d, .int .i64 6] w fun e w' => w' = w ∧ e = .returned (.int .i64 0))) {g : G3} (hg : Aside0 (g ∈ l ∧ g.2.1 = j))
    (cont : ∀ (w' : World) (m' : Nat) (n' : Int) (l' : List G3) (v' : Value) (y1 y6 y7 y8 y9 y10 y11 y12 y13 y14 y15 y16 y17 y18 y19 y20 y21 y22 y23 y24 y25 y26 y27 y28 y29 y30 y31 y32 y33 y34 y35 y36 y37 y38 y39 y40 y41 y42 y43 y44 y45 y46 y47 y48 y49 y50 y51 y52 y53 y54 y55 y56 y57 y58 y59 y60 y61 y62 y63 y64 y65 y66 y67 y68 y69 y70 y71 y72 y73 y74 y75 y76 y77 y78 y79 y80 y81 y82 y83 y84 y85 y86 y87 y88 y89 y90 y91 y92 y93 y94 y95 y96 y97 y98 y99 y100 y101 y102 y103 y104 y105 y106 y107 y108 y109 y110 y111 y112 y113 y114 y115 y116 y117 y118 y119 y120 y121 y122 y123 y124 y125 y126 y127 y128 y129 y130 y131 y132 y133 y134 y135 y136 y137 y138 y139 y140 y141 y142 y143 y144 y145 y146 y147 y148 y149 y150 y151 y152 y153 y154 y155 y156 y157 y158 y159 y160 y161 y162 y163 y164 y165 y166 y167 y168 y169 y170 y171 y172 y173 : Value), PS w0 w' p b1 b2 q m' n' l' n' l' v' → PI (i + 1) m' n' l' → Code.rounds Try.prog body Q N ⟨#[.slice (some a) LN cap, y1, .bool false, .pointer (some ⟨p, 0, none⟩), .pointer (some ⟨q, 0, none⟩), .int .i64 (i + 1), y6, y7, y8, y9, y10, y11, y12, y13, y14, y15, y16, y17, y18, y19, y20, y21, y22, y23, y24, y25, y26, y27, y28, y29, y30, y31, y32, y33, y34, y35, y36, y37, y38, y39, y40, y41, y42, y43, y44, y45, y46, y47, y48, y49, y50, y51, y52, y53, y54, y55, y56, y57, y58, y59, y60, y61, y62, y63, y64, y65, y66, y67, y68, y69, y70, y71, y72, y73, y74, y75, y76, y77, y78, y79, y80, y81, y82, y83, y84, y85, y86, y87, y88, y89, y90, y91, y92, y93, y94, y95, y96, y97, y98, y99, y100, y101, y102, y103, y104, y105, y106, y107, y108, y109, y110, y111, y112, y113, y114, y115, y116, y117, y118, y119, y120, y121, y122, y123, y124, y125, y126, y127, y128, y129, y130, y131, y132, y133, y134, y135, y136, y137, y138, y139, y140, y141, y142, y143, y144, y145, y146, y147, y148, y149, y150, y151, y152, y153, y154, y155, y156, y157, y158, y159, y160, y161, y162, y163, y164, y165, y166, y167, y168, y169, y170, y171, y172, y173], []⟩ w') :
    Code.rounds Try.prog body Q (N + 1) ⟨#[.slice (some a) LN cap, x1, .bool false, .pointer (some ⟨p, 0, none⟩), .pointer (some ⟨q, 0, none⟩), .int .i64 i, x6, x7, x8, x9, x10, x11, x12, x13, x14, x15, x16, x17, x18, x19, x20, x21, x22, x23, x24, x25, x26, x27, x28, x29, x30, x31, x32, x33, x34, x35, x36, x37, x38, x39, x40, x41, x42, x43, x44, x45, x46, x47, x48, x49, x50, x51, x52, x53, x54, x55, x56, x57, x58, x59, x60, x61, x62, x63, x64, x65, x66, x67, x68, x69, x70, x71, x72, x73, x74, x75, x76, x77, x78, x79, x80, x81, x82, x83, x84, x85, x86, x87, x88, x89, x90, x91, x92, x93, x94, x95, x96, x97, x98, x99, x100, x101, x102, x103, x104, x105, x106, x107, x108, x109, x110, x111, x112, x113, x114, x115, x116, x117, x118, x119, x120, x121, x122, x123, x124, x125, x126, x127, x128, x129, x130, x131, x132, x133, x134, x135, x136, x137, x138, x139, x140, x141, x142, x143, x144, x145, x146, x147, x148, x149, x150, x151, x152, x153, x154, x155, x156, x157, x158, x159, x160, x161, x162, x163, x164, x165, x166, x167, x168, x169, x170, x171, x172, x173], []⟩ w := by
  have hbody := plays_body0 rfl hB
  clear hB
  subst hbody
  have hcont := Aside0.mk cont
  clear cont
  rw [rounds_succ]
  unfold maxLen at hlc
  have AB : ∀ z, (a.add (i * 3 + z)).block < w0.heap.size := fun z => by rw [addr_block3]; exact HAB.out
  have LA := Aside0.mk (load_act ((S.out.below.cell (AB 0)).trans k0.out) ((S.out.below.cell (AB 1)).trans k1.out) ((S.out.below.cell (AB 2)).trans k2.out))
  have HT0 := Aside0.mk (heap_alloc_last w (.cells #[.int .i64 d, .int .i64 j, .int .u64 u] 30))
  have ST0 := Aside0.mk (S.out.keep ((Below.refl w.heap.size w).alloc (Nat.le_refl _) (.cells #[.int .i64 d, .int .i64 j, .int .u64 u] 30)))
  have HR : Aside0 (w.heap.size ≠ p ∧ w.heap.size ≠ b1 ∧ w.heap.size ≠ b2 ∧ w.heap.size ≠ q) := ⟨by have h1 := blk_lt S.out.ref.head; obtain ⟨h2, h3, h4⟩ := S.out.ord; refine ⟨?_, ?_, ?_, ?_⟩ <;> omega⟩
  clear AB
  go_upto_region 8 with (refine Great.wpList_readTo rfl (some 38) rfl (.agg #[.int .i64 d, .int .i64 j, .int .u64 u]) (exec_load rfl LA.out) ?_)
  generalize hw1 : w.alloc (.cells #[.int .i64 d, .int .i64 j, .int .u64 u] 30) = w1 at HT0 ST0 ⊢
  generalize w.heap.size = r at HT0 HR ⊢
  clear hw1
  have cd := blk_cell HT0.out 0
  have cj := blk_cell HT0.out 1
  have cu := blk_cell HT0.out 2
  have HT := HT0
  have ST := ST0
  have PLEN := P.out.len
  go_upto_region 24 with (first
    | (go_at_call 18; rw [← hg.out.2]; refine (rgrant_had (u := u) SA.out.ref (by omega) hg.out.1).mono ?_; rintro e wb ⟨rfl, hb⟩; have ST := Aside0.mk (SA.out.keep hb); have HT := Aside0.mk ((hb.block r (blk_lt HT0.out)).trans HT0.out); have cj1 := blk_cell HT.out 1; clear hb; dsimp only)
    | (go_at_call 9; rw [← hg.out.2]; refine (grant_l_had (u := u) ST0.out.tab hg.out.1).mono ?_; rintro e z ⟨hz, rfl⟩; obtain rfl := hz.symm; have SA := ST0; dsimp only)
    | (go_at_call 11; refine (HM.out _).mono ?_; rintro e z ⟨hz, rfl⟩; obtain rfl := hz.symm; dsimp only))
  obtain ⟨ov1, hov1⟩ : ∃ ov, (l).find? (fun g => decide (g.1 = j)) = ov := ⟨_, rfl⟩
  obtain ⟨ov2, hov2⟩ : ∃ ov, (l).find? (fun g => decide (g.2.1 = j)) = ov := ⟨_, rfl⟩
  have OV1 := Aside0.mk hov1
  have OV2 := Aside0.mk hov2
  have PX := Aside0.mk (P.out.next)
  have NX : (l).length ≤ 60 := by have := PX.out.len; omega
  clear hov1 hov2
  have cj := blk_cell HT.out 1
  go_upto_region 26 with (first
    | (go_at_call 17; refine (of_any SG.out.tab WJ.out OV2.out).mono ?_; rintro e z ⟨hz, rfl⟩; obtain rfl := hz.symm; dsimp only)
    | (go_at_call 14; refine (look_any ST.out.tab WJ.out OV1.out).mono ?_; rintro e wa ⟨hb0, rfl⟩; have hb := hb0.alloc hb0.size (.cells #[.int .i64 (ov1.getD (0, 0, 0)).1, .int .i64 (ov1.getD (0, 0, 0)).2.1, .int .u64 (ov1.getD (0, 0, 0)).2.2] 38); have SG := Aside0.mk (ST.out.keep hb); have HAG := Aside0.mk ((hb.block r (blk_lt HT.out)).trans HT.out); have HG := Aside0.mk (heap_alloc_last wa (.cells #[.int .i64 (ov1.getD (0, 0, 0)).1, .int .i64 (ov1.getD (0, 0, 0)).2.1, .int .u64 (ov1.getD (0, 0, 0)).2.2] 38)); have cj2 := blk_cell HAG.out 1; clear hb hb0; dsimp only))
  refine plays26 (l := l) (q := q) (r := r) (j := j) (ga := ov1.getD (0, 0, 0)) (gb := ov2.getD (0, 0, 0)) (ok1 := ov1.isSome) (ok2 := ov2.isSome) rfl ?_ SG.out.ref (by omega) ⟨blk_cell HAG.out 1⟩ ⟨by rw [OV1.out, foundV_fv]⟩ ⟨by rw [OV2.out, foundV_fv]⟩ ?_
  · exact ⟨fun _ _ _ _ _ h => hPQ.out _ _ _ _ _ h⟩
  intro w6 r8 r9 z122 z123 z124 z125 z126 z127 z128 z129 h8 h9 hB6
  have S6 := Aside0.mk (SG.out.keep hB6)
  have H8 := Aside0.mk h8
  have H9 := Aside0.mk h9
  have HG6 := Aside0.mk ((hB6.block _ (blk_lt HG.out)).trans HG.out)
  clear h8 h9 hB6
  go_upto_region 27 with fail
  obtain ⟨A6, cap6, hv6⟩ := S6.out.ref.row.sl
  have S6' := S6.out
  rw [hv6] at S6'
  refine plays27 rfl ?_ S6' (by omega) HG6 H8 H9 ?_
  · exact ⟨fun _ _ _ _ _ h => hPQ.out _ _ _ _ _ h⟩
  intro w7 z130 z131 z132 z133 z134 z135 z136 z137 z138 z139 z140 z141 z142 z143 z144 z145 z146 z147 z148 z149 z150 z151 z152 z153 z154 z155 z156 z157 z158 z159 z160 z161 z162 z163 z164 z165 z166 z167 z168 z169 z170 z171 hB7
  have S7 := Aside0.mk (S6'.keep hB7)
  clear hB7 S6' hv6
  go_wp2
  exact hcont.out _ _ _ _ _ _ _ _ _ _ _ _ _ _ _ _ _ _ _ _ _ _ _ _ _ _ _ _ _ _ _ _ _ _ _ _ _ _ _ _ _ _ _ _ _ _ _ _ _ _ _ _ _ _ _ _ _ _ _ _ _ _ _ _ _ _ _ _ _ _ _ _ _ _ _ _ _ _ _ _ _ _ _ _ _ _ _ _ _ _ _ _ _ _ _ _ _ _ _ _ _ _ _ _ _ _ _ _ _ _ _ _ _ _ _ _ _ _ _ _ _ _ _ _ _ _ _ _ _ _ _ _ _ _ _ _ _ _ _ _ _ _ _ _ _ _ _ _ _ _ _ _ _ _ _ _ _ _ _ _ _ _ _ _ _ _ _ _ _ _ _ _ _ _ S7.out PX.out
set_option maxRecDepth 100000 in
set_option maxHeartbeats 8000000 in
theorem plays_new0 {w0 w : World} {a : Addr} {LN cap p b1 b2 q m i : Nat} {n d j u : Int} {l : List G3} {v : Value} {Q : Exit → Act → World → Prop} {N : Nat} {c0 c1 c2 c3 c4 body : Code} {z0 : Nat}  {x1 x6 x7 x8 x9 x10 x11 x12 x13 x14 x15 x16 x17 x18 x19 x20 x21 x22 x23 x24 x25 x26 x27 x28 x29 x30 x31 x32 x33 x34 x35 x36 x37 x38 x39 x40 x41 x42 x43 x44 x45 x46 x47 x48 x49 x50 x51 x52 x53 x54 x55 x56 x57 x58 x59 x60 x61 x62 x63 x64 x65 x66 x67 x68 x69 x70 x71 x72 x73 x74 x75 x76 x77 x78 x79 x80 x81 x82 x83 x84 x85 x86 x87 x88 x89 x90 x91 x92 x93 x94 x95 x96 x97 x98 x99 x100 x101 x102 x103 x104 x105 x106 x107 x108 x109 x110 x111 x112 x113 x114 x115 x116 x117 x118 x119 x120 x121 x122 x123 x124 x125 x126 x127 x128 x129 x130 x131 x132 x133 x134 x135 x136 x137 x138 x139 x140 x141 x142 x143 x144 x145 x146 x147 x148 x149 x150 x151 x152 x153 x154 x155 x156 x157 x158 x159 x160 x161 x162 x163 x164 x165 x166 x167 x168 x169 x170 x171 x172 x173 : Value}
    (hB : Try.f6.body = some (.seq c0 (.seq c1 (.seq c2 (.seq (.seq c3 (.block z0 (.loop body))) c4))))) (hPQ : Aside0 (∀ c a d v w, Q (.panic c) (a.put d v) w → Q (.panic c) a w)) (S : Aside0 (PS w0 w p b1 b2 q m n l n l v)) (P : Aside0 (PI i m n l)) (k0 : Aside0 (w0.cell? (a.add (i * 3 + 0)) = some (.int .i64 d))) (k1 : Aside0 (w0.cell? (a.add (i * 3 + 1)) = some (.int .i64 j))) (k2 : Aside0 (w0.cell? (a.add (i * 3 + 2)) = some (.int .u64 u))) (HAB : Aside0 (a.block < w0.heap.size)) (WD : Aside0 ((Lit.int .i64 d).wf = true)) (WJ : Aside0 ((Lit.int .i64 j).wf = true)) (hi : i < LN) (hl : i < 60) (hlc : LN ≤ maxLen) (HM : Aside0 (∀ w : World, Calls Try.prog 11 #[.int .i64 d, .int .i64 6] w fun e w' => w' = w ∧ e = .returned (.int .i64 0))) (hn : Aside0 (∀ g ∈ l, g.2.1 ≠ j))
    (cont : ∀ (w' : World) (m' : Nat) (n' : Int) (l' : List G3) (v' : Value) (y1 y6 y7 y8 y9 y10 y11 y12 y13 y14 y15 y16 y17 y18 y19 y20 y21 y22 y23 y24 y25 y26 y27 y28 y29 y30 y31 y32 y33 y34 y35 y36 y37 y38 y39 y40 y41 y42 y43 y44 y45 y46 y47 y48 y49 y50 y51 y52 y53 y54 y55 y56 y57 y58 y59 y60 y61 y62 y63 y64 y65 y66 y67 y68 y69 y70 y71 y72 y73 y74 y75 y76 y77 y78 y79 y80 y81 y82 y83 y84 y85 y86 y87 y88 y89 y90 y91 y92 y93 y94 y95 y96 y97 y98 y99 y100 y101 y102 y103 y104 y105 y106 y107 y108 y109 y110 y111 y112 y113 y114 y115 y116 y117 y118 y119 y120 y121 y122 y123 y124 y125 y126 y127 y128 y129 y130 y131 y132 y133 y134 y135 y136 y137 y138 y139 y140 y141 y142 y143 y144 y145 y146 y147 y148 y149 y150 y151 y152 y153 y154 y155 y156 y157 y158 y159 y160 y161 y162 y163 y164 y165 y166 y167 y168 y169 y170 y171 y172 y173 : Value), PS w0 w' p b1 b2 q m' n' l' n' l' v' → PI (i + 1) m' n' l' → Code.rounds Try.prog body Q N ⟨#[.slice (some a) LN cap, y1, .bool false, .pointer (some ⟨p, 0, none⟩), .pointer (some ⟨q, 0, none⟩), .int .i64 (i + 1), y6, y7, y8, y9, y10, y11, y12, y13, y14, y15, y16, y17, y18, y19, y20, y21, y22, y23, y24, y25, y26, y27, y28, y29, y30, y31, y32, y33, y34, y35, y36, y37, y38, y39, y40, y41, y42, y43, y44, y45, y46, y47, y48, y49, y50, y51, y52, y53, y54, y55, y56, y57, y58, y59, y60, y61, y62, y63, y64, y65, y66, y67, y68, y69, y70, y71, y72, y73, y74, y75, y76, y77, y78, y79, y80, y81, y82, y83, y84, y85, y86, y87, y88, y89, y90, y91, y92, y93, y94, y95, y96, y97, y98, y99, y100, y101, y102, y103, y104, y105, y106, y107, y108, y109, y110, y111, y112, y113, y114, y115, y116, y117, y118, y119, y120, y121, y122, y123, y124, y125, y126, y127, y128, y129, y130, y131, y132, y133, y134, y135, y136, y137, y138, y139, y140, y141, y142, y143, y144, y145, y146, y147, y148, y149, y150, y151, y152, y153, y154, y155, y156, y157, y158, y159, y160, y161, y162, y163, y164, y165, y166, y167, y168, y169, y170, y171, y172, y173], []⟩ w') :
    Code.rounds Try.prog body Q (N + 1) ⟨#[.slice (some a) LN cap, x1, .bool false, .pointer (some ⟨p, 0, none⟩), .pointer (some ⟨q, 0, none⟩), .int .i64 i, x6, x7, x8, x9, x10, x11, x12, x13, x14, x15, x16, x17, x18, x19, x20, x21, x22, x23, x24, x25, x26, x27, x28, x29, x30, x31, x32, x33, x34, x35, x36, x37, x38, x39, x40, x41, x42, x43, x44, x45, x46, x47, x48, x49, x50, x51, x52, x53, x54, x55, x56, x57, x58, x59, x60, x61, x62, x63, x64, x65, x66, x67, x68, x69, x70, x71, x72, x73, x74, x75, x76, x77, x78, x79, x80, x81, x82, x83, x84, x85, x86, x87, x88, x89, x90, x91, x92, x93, x94, x95, x96, x97, x98, x99, x100, x101, x102, x103, x104, x105, x106, x107, x108, x109, x110, x111, x112, x113, x114, x115, x116, x117, x118, x119, x120, x121, x122, x123, x124, x125, x126, x127, x128, x129, x130, x131, x132, x133, x134, x135, x136, x137, x138, x139, x140, x141, x142, x143, x144, x145, x146, x147, x148, x149, x150, x151, x152, x153, x154, x155, x156, x157, x158, x159, x160, x161, x162, x163, x164, x165, x166, x167, x168, x169, x170, x171, x172, x173], []⟩ w := by
  have hbody := plays_body0 rfl hB
  clear hB
  subst hbody
  have hcont := Aside0.mk cont
  clear cont
  rw [rounds_succ]
  unfold maxLen at hlc
  have AB : ∀ z, (a.add (i * 3 + z)).block < w0.heap.size := fun z => by rw [addr_block3]; exact HAB.out
  have LA := Aside0.mk (load_act ((S.out.below.cell (AB 0)).trans k0.out) ((S.out.below.cell (AB 1)).trans k1.out) ((S.out.below.cell (AB 2)).trans k2.out))
  have HT0 := Aside0.mk (heap_alloc_last w (.cells #[.int .i64 d, .int .i64 j, .int .u64 u] 30))
  have ST0 := Aside0.mk (S.out.keep ((Below.refl w.heap.size w).alloc (Nat.le_refl _) (.cells #[.int .i64 d, .int .i64 j, .int .u64 u] 30)))
  have HR : Aside0 (w.heap.size ≠ p ∧ w.heap.size ≠ b1 ∧ w.heap.size ≠ b2 ∧ w.heap.size ≠ q) := ⟨by have h1 := blk_lt S.out.ref.head; obtain ⟨h2, h3, h4⟩ := S.out.ord; refine ⟨?_, ?_, ?_, ?_⟩ <;> omega⟩
  clear AB
  go_upto_region 8 with (refine Great.wpList_readTo rfl (some 38) rfl (.agg #[.int .i64 d, .int .i64 j, .int .u64 u]) (exec_load rfl LA.out) ?_)
  generalize hw1 : w.alloc (.cells #[.int .i64 d, .int .i64 j, .int .u64 u] 30) = w1 at HT0 ST0 ⊢
  generalize w.heap.size = r at HT0 HR ⊢
  clear hw1
  have cd := blk_cell HT0.out 0
  have cj := blk_cell HT0.out 1
  have cu := blk_cell HT0.out 2
  have HT := HT0
  have ST := ST0
  have PLEN := P.out.len
  have hm2 := P.out.mm
  have hn0 := P.out.lo
  have hn1 := P.out.hi
  go_upto_region 24 with (first
    | (go_at_call 18; refine (rgrant_new (n := n) (j := j) (u := u) SA.out.ref (by omega) hn.out (by omega) (by omega) SA.out.qlt (Nat.lt_succ_self _)).mono ?_; rintro e wb ⟨vb, rfl, hT, hb, hf, hz⟩; have ST := Aside0.mk (SA.out.onRef hT hb); have HT := Aside0.mk ((hf r (blk_lt HTA.out) HR.out.2.2.2).trans HTA.out); have cj1 := blk_cell HT.out 1; clear hT hb hf hz; dsimp only)
    | (go_at_call 9; refine (grant_l (j := j) (u := u) ST0.out.tab WJ.out (by omega) (by omega) (by unfold maxLen; omega) hn.out P.out.nums).mono ?_; rintro e wa ⟨rfl, hT, hb, hz, hf⟩; have SA := Aside0.mk (ST0.out.onTab hT hb hf); have HTA := Aside0.mk ((hf r (blk_lt HT0.out) HR.out.1 HR.out.2.1 HR.out.2.2.1).trans HT0.out); have cj0 := blk_cell HTA.out 1; have cu0 := blk_cell HTA.out 2; clear hT hb hz hf; dsimp only)
    | (go_at_call 11; refine (HM.out _).mono ?_; rintro e z ⟨hz, rfl⟩; obtain rfl := hz.symm; dsimp only))
  clear hm2 hn0 hn1
  obtain ⟨ov1, hov1⟩ : ∃ ov, (l ++ [(n + 1, j, u)]).find? (fun g => decide (g.1 = j)) = ov := ⟨_, rfl⟩
  obtain ⟨ov2, hov2⟩ : ∃ ov, (l ++ [(n + 1, j, u)]).find? (fun g => decide (g.2.1 = j)) = ov := ⟨_, rfl⟩
  have OV1 := Aside0.mk hov1
  have OV2 := Aside0.mk hov2
  have PX := Aside0.mk (P.out.more j u)
  have NX : (l ++ [(n + 1, j, u)]).length ≤ 60 := by have := PX.out.len; omega
  clear hov1 hov2
  have cj := blk_cell HT.out 1
  go_upto_region 26 with (first
    | (go_at_call 17; refine (of_any SG.out.tab WJ.out OV2.out).mono ?_; rintro e z ⟨hz, rfl⟩; obtain rfl := hz.symm; dsimp only)
    | (go_at_call 14; refine (look_any ST.out.tab WJ.out OV1.out).mono ?_; rintro e wa ⟨hb0, rfl⟩; have hb := hb0.alloc hb0.size (.cells #[.int .i64 (ov1.getD (0, 0, 0)).1, .int .i64 (ov1.getD (0, 0, 0)).2.1, .int .u64 (ov1.getD (0, 0, 0)).2.2] 38); have SG := Aside0.mk (ST.out.keep hb); have HAG := Aside0.mk ((hb.block r (blk_lt HT.out)).trans HT.out); have HG := Aside0.mk (heap_alloc_last wa (.cells #[.int .i64 (ov1.getD (0, 0, 0)).1, .int .i64 (ov1.getD (0, 0, 0)).2.1, .int .u64 (ov1.getD (0, 0, 0)).2.2] 38)); have cj2 := blk_cell HAG.out 1; clear hb hb0; dsimp only))
  refine plays26 (l := l ++ [(n + 1, j, u)]) (q := q) (r := r) (j := j) (ga := ov1.getD (0, 0, 0)) (gb := ov2.getD (0, 0, 0)) (ok1 := ov1.isSome) (ok2 := ov2.isSome) rfl ?_ SG.out.ref (by omega) ⟨blk_cell HAG.out 1⟩ ⟨by rw [OV1.out, foundV_fv]⟩ ⟨by rw [OV2.out, foundV_fv]⟩ ?_
  · exact ⟨fun _ _ _ _ _ h => hPQ.out _ _ _ _ _ h⟩
  intro w6 r8 r9 z122 z123 z124 z125 z126 z127 z128 z129 h8 h9 hB6
  have S6 := Aside0.mk (SG.out.keep hB6)
  have H8 := Aside0.mk h8
  have H9 := Aside0.mk h9
  have HG6 := Aside0.mk ((hB6.block _ (blk_lt HG.out)).trans HG.out)
  clear h8 h9 hB6
  go_upto_region 27 with fail
  obtain ⟨A6, cap6, hv6⟩ := S6.out.ref.row.sl
  have S6' := S6.out
  rw [hv6] at S6'
  refine plays27 rfl ?_ S6' (by omega) HG6 H8 H9 ?_
  · exact ⟨fun _ _ _ _ _ h => hPQ.out _ _ _ _ _ h⟩
  intro w7 z130 z131 z132 z133 z134 z135 z136 z137 z138 z139 z140 z141 z142 z143 z144 z145 z146 z147 z148 z149 z150 z151 z152 z153 z154 z155 z156 z157 z158 z159 z160 z161 z162 z163 z164 z165 z166 z167 z168 z169 z170 z171 hB7
  have S7 := Aside0.mk (S6'.keep hB7)
  clear hB7 S6' hv6
  go_wp2
  exact hcont.out _ _ _ _ _ _ _ _ _ _ _ _ _ _ _ _ _ _ _ _ _ _ _ _ _ _ _ _ _ _ _ _ _ _ _ _ _ _ _ _ _ _ _ _ _ _ _ _ _ _ _ _ _ _ _ _ _ _ _ _ _ _ _ _ _ _ _ _ _ _ _ _ _ _ _ _ _ _ _ _ _ _ _ _ _ _ _ _ _ _ _ _ _ _ _ _ _ _ _ _ _ _ _ _ _ _ _ _ _ _ _ _ _ _ _ _ _ _ _ _ _ _ _ _ _ _ _ _ _ _ _ _ _ _ _ _ _ _ _ _ _ _ _ _ _ _ _ _ _ _ _ _ _ _ _ _ _ _ _ _ _ _ _ _ _ _ _ _ _ _ _ _ _ _ S7.out PX.out
set_option maxRecDepth 100000 in
set_option maxHeartbeats 8000000 in
theorem plays_had1 {w0 w : World} {a : Addr} {LN cap p b1 b2 q m i : Nat} {n d j u : Int} {l : List G3} {v : Value} {Q : Exit → Act → World → Prop} {N : Nat} {c0 c1 c2 c3 c4 body : Code} {z0 : Nat}  {x1 x6 x7 x8 x9 x10 x11 x12 x13 x14 x15 x16 x17 x18 x19 x20 x21 x22 x23 x24 x25 x26 x27 x28 x29 x30 x31 x32 x33 x34 x35 x36 x37 x38 x39 x40 x41 x42 x43 x44 x45 x46 x47 x48 x49 x50 x51 x52 x53 x54 x55 x56 x57 x58 x59 x60 x61 x62 x63 x64 x65 x66 x67 x68 x69 x70 x71 x72 x73 x74 x75 x76 x77 x78 x79 x80 x81 x82 x83 x84 x85 x86 x87 x88 x89 x90 x91 x92 x93 x94 x95 x96 x97 x98 x99 x100 x101 x102 x103 x104 x105 x106 x107 x108 x109 x110 x111 x112 x113 x114 x115 x116 x117 x118 x119 x120 x121 x122 x123 x124 x125 x126 x127 x128 x129 x130 x131 x132 x133 x134 x135 x136 x137 x138 x139 x140 x141 x142 x143 x144 x145 x146 x147 x148 x149 x150 x151 x152 x153 x154 x155 x156 x157 x158 x159 x160 x161 x162 x163 x164 x165 x166 x167 x168 x169 x170 x171 x172 x173 : Value}
    (hB : Try.f6.body = some (.seq c0 (.seq c1 (.seq c2 (.seq (.seq c3 (.block z0 (.loop body))) c4))))) (hPQ : Aside0 (∀ c a d v w, Q (.panic c) (a.put d v) w → Q (.panic c) a w)) (S : Aside0 (PS w0 w p b1 b2 q m n l n l v)) (P : Aside0 (PI i m n l)) (k0 : Aside0 (w0.cell? (a.add (i * 3 + 0)) = some (.int .i64 d))) (k1 : Aside0 (w0.cell? (a.add (i * 3 + 1)) = some (.int .i64 j))) (k2 : Aside0 (w0.cell? (a.add (i * 3 + 2)) = some (.int .u64 u))) (HAB : Aside0 (a.block < w0.heap.size)) (WD : Aside0 ((Lit.int .i64 d).wf = true)) (WJ : Aside0 ((Lit.int .i64 j).wf = true)) (hi : i < LN) (hl : i < 60) (hlc : LN ≤ maxLen) (HM : Aside0 (∀ w : World, Calls Try.prog 11 #[.int .i64 d, .int .i64 6] w fun e w' => w' = w ∧ e = .returned (.int .i64 1))) {g : G3} (hg : Aside0 (g ∈ l ∧ g.2.1 = j))
    (cont : ∀ (w' : World) (m' : Nat) (n' : Int) (l' : List G3) (v' : Value) (y1 y6 y7 y8 y9 y10 y11 y12 y13 y14 y15 y16 y17 y18 y19 y20 y21 y22 y23 y24 y25 y26 y27 y28 y29 y30 y31 y32 y33 y34 y35 y36 y37 y38 y39 y40 y41 y42 y43 y44 y45 y46 y47 y48 y49 y50 y51 y52 y53 y54 y55 y56 y57 y58 y59 y60 y61 y62 y63 y64 y65 y66 y67 y68 y69 y70 y71 y72 y73 y74 y75 y76 y77 y78 y79 y80 y81 y82 y83 y84 y85 y86 y87 y88 y89 y90 y91 y92 y93 y94 y95 y96 y97 y98 y99 y100 y101 y102 y103 y104 y105 y106 y107 y108 y109 y110 y111 y112 y113 y114 y115 y116 y117 y118 y119 y120 y121 y122 y123 y124 y125 y126 y127 y128 y129 y130 y131 y132 y133 y134 y135 y136 y137 y138 y139 y140 y141 y142 y143 y144 y145 y146 y147 y148 y149 y150 y151 y152 y153 y154 y155 y156 y157 y158 y159 y160 y161 y162 y163 y164 y165 y166 y167 y168 y169 y170 y171 y172 y173 : Value), PS w0 w' p b1 b2 q m' n' l' n' l' v' → PI (i + 1) m' n' l' → Code.rounds Try.prog body Q N ⟨#[.slice (some a) LN cap, y1, .bool false, .pointer (some ⟨p, 0, none⟩), .pointer (some ⟨q, 0, none⟩), .int .i64 (i + 1), y6, y7, y8, y9, y10, y11, y12, y13, y14, y15, y16, y17, y18, y19, y20, y21, y22, y23, y24, y25, y26, y27, y28, y29, y30, y31, y32, y33, y34, y35, y36, y37, y38, y39, y40, y41, y42, y43, y44, y45, y46, y47, y48, y49, y50, y51, y52, y53, y54, y55, y56, y57, y58, y59, y60, y61, y62, y63, y64, y65, y66, y67, y68, y69, y70, y71, y72, y73, y74, y75, y76, y77, y78, y79, y80, y81, y82, y83, y84, y85, y86, y87, y88, y89, y90, y91, y92, y93, y94, y95, y96, y97, y98, y99, y100, y101, y102, y103, y104, y105, y106, y107, y108, y109, y110, y111, y112, y113, y114, y115, y116, y117, y118, y119, y120, y121, y122, y123, y124, y125, y126, y127, y128, y129, y130, y131, y132, y133, y134, y135, y136, y137, y138, y139, y140, y141, y142, y143, y144, y145, y146, y147, y148, y149, y150, y151, y152, y153, y154, y155, y156, y157, y158, y159, y160, y161, y162, y163, y164, y165, y166, y167, y168, y169, y170, y171, y172, y173], []⟩ w') :
    Code.rounds Try.prog body Q (N + 1) ⟨#[.slice (some a) LN cap, x1, .bool false, .pointer (some ⟨p, 0, none⟩), .pointer (some ⟨q, 0, none⟩), .int .i64 i, x6, x7, x8, x9, x10, x11, x12, x13, x14, x15, x16, x17, x18, x19, x20, x21, x22, x23, x24, x25, x26, x27, x28, x29, x30, x31, x32, x33, x34, x35, x36, x37, x38, x39, x40, x41, x42, x43, x44, x45, x46, x47, x48, x49, x50, x51, x52, x53, x54, x55, x56, x57, x58, x59, x60, x61, x62, x63, x64, x65, x66, x67, x68, x69, x70, x71, x72, x73, x74, x75, x76, x77, x78, x79, x80, x81, x82, x83, x84, x85, x86, x87, x88, x89, x90, x91, x92, x93, x94, x95, x96, x97, x98, x99, x100, x101, x102, x103, x104, x105, x106, x107, x108, x109, x110, x111, x112, x113, x114, x115, x116, x117, x118, x119, x120, x121, x122, x123, x124, x125, x126, x127, x128, x129, x130, x131, x132, x133, x134, x135, x136, x137, x138, x139, x140, x141, x142, x143, x144, x145, x146, x147, x148, x149, x150, x151, x152, x153, x154, x155, x156, x157, x158, x159, x160, x161, x162, x163, x164, x165, x166, x167, x168, x169, x170, x171, x172, x173], []⟩ w := by
  have hbody := plays_body0 rfl hB
  clear hB
  subst hbody
  have hcont := Aside0.mk cont
  clear cont
  rw [rounds_succ]
  unfold maxLen at hlc
  have AB : ∀ z, (a.add (i * 3 + z)).block < w0.heap.size := fun z => by rw [addr_block3]; exact HAB.out
  have LA := Aside0.mk (load_act ((S.out.below.cell (AB 0)).trans k0.out) ((S.out.below.cell (AB 1)).trans k1.out) ((S.out.below.cell (AB 2)).trans k2.out))
  have HT0 := Aside0.mk (heap_alloc_last w (.cells #[.int .i64 d, .int .i64 j, .int .u64 u] 30))
  have ST0 := Aside0.mk (S.out.keep ((Below.refl w.heap.size w).alloc (Nat.le_refl _) (.cells #[.int .i64 d, .int .i64 j, .int .u64 u] 30)))
  have HR : Aside0 (w.heap.size ≠ p ∧ w.heap.size ≠ b1 ∧ w.heap.size ≠ b2 ∧ w.heap.size ≠ q) := ⟨by have h1 := blk_lt S.out.ref.head; obtain ⟨h2, h3, h4⟩ := S.out.ord; refine ⟨?_, ?_, ?_, ?_⟩ <;> omega⟩
  clear AB
  go_upto_region 8 with (refine Great.wpList_readTo rfl (some 38) rfl (.agg #[.int .i64 d, .int .i64 j, .int .u64 u]) (exec_load rfl LA.out) ?_)
  generalize hw1 : w.alloc (.cells #[.int .i64 d, .int .i64 j, .int .u64 u] 30) = w1 at HT0 ST0 ⊢
  generalize w.heap.size = r at HT0 HR ⊢
  clear hw1
  have cd := blk_cell HT0.out 0
  have cj := blk_cell HT0.out 1
  have cu := blk_cell HT0.out 2
  have HT := HT0
  have ST := ST0
  have PLEN := P.out.len
  go_upto_region 24 with (first
    | (go_at_call 18; rw [← hg.out.2]; refine (rgrant_had (u := u) SA.out.ref (by omega) hg.out.1).mono ?_; rintro e wb ⟨rfl, hb⟩; have ST := Aside0.mk (SA.out.keep hb); have HT := Aside0.mk ((hb.block r (blk_lt HT0.out)).trans HT0.out); have cj1 := blk_cell HT.out 1; clear hb; dsimp only)
    | (go_at_call 9; rw [← hg.out.2]; refine (grant_l_had (u := u) ST0.out.tab hg.out.1).mono ?_; rintro e z ⟨hz, rfl⟩; obtain rfl := hz.symm; have SA := ST0; dsimp only)
    | (go_at_call 11; refine (HM.out _).mono ?_; rintro e z ⟨hz, rfl⟩; obtain rfl := hz.symm; dsimp only))
  obtain ⟨ov1, hov1⟩ : ∃ ov, (l).find? (fun g => decide (g.1 = j)) = ov := ⟨_, rfl⟩
  obtain ⟨ov2, hov2⟩ : ∃ ov, (l).find? (fun g => decide (g.2.1 = j)) = ov := ⟨_, rfl⟩
  have OV1 := Aside0.mk hov1
  have OV2 := Aside0.mk hov2
  have PX := Aside0.mk (P.out.next)
  have NX : (l).length ≤ 60 := by have := PX.out.len; omega
  clear hov1 hov2
  have cj := blk_cell HT.out 1
  go_upto_region 26 with (first
    | (go_at_call 17; refine (of_any SG.out.tab WJ.out OV2.out).mono ?_; rintro e z ⟨hz, rfl⟩; obtain rfl := hz.symm; dsimp only)
    | (go_at_call 14; refine (look_any ST.out.tab WJ.out OV1.out).mono ?_; rintro e wa ⟨hb0, rfl⟩; have hb := hb0.alloc hb0.size (.cells #[.int .i64 (ov1.getD (0, 0, 0)).1, .int .i64 (ov1.getD (0, 0, 0)).2.1, .int .u64 (ov1.getD (0, 0, 0)).2.2] 38); have SG := Aside0.mk (ST.out.keep hb); have HAG := Aside0.mk ((hb.block r (blk_lt HT.out)).trans HT.out); have HG := Aside0.mk (heap_alloc_last wa (.cells #[.int .i64 (ov1.getD (0, 0, 0)).1, .int .i64 (ov1.getD (0, 0, 0)).2.1, .int .u64 (ov1.getD (0, 0, 0)).2.2] 38)); have cj2 := blk_cell HAG.out 1; clear hb hb0; dsimp only))
  refine plays26 (l := l) (q := q) (r := r) (j := j) (ga := ov1.getD (0, 0, 0)) (gb := ov2.getD (0, 0, 0)) (ok1 := ov1.isSome) (ok2 := ov2.isSome) rfl ?_ SG.out.ref (by omega) ⟨blk_cell HAG.out 1⟩ ⟨by rw [OV1.out, foundV_fv]⟩ ⟨by rw [OV2.out, foundV_fv]⟩ ?_
  · exact ⟨fun _ _ _ _ _ h => hPQ.out _ _ _ _ _ h⟩
  intro w6 r8 r9 z122 z123 z124 z125 z126 z127 z128 z129 h8 h9 hB6
  have S6 := Aside0.mk (SG.out.keep hB6)
  have H8 := Aside0.mk h8
  have H9 := Aside0.mk h9
  have HG6 := Aside0.mk ((hB6.block _ (blk_lt HG.out)).trans HG.out)
  clear h8 h9 hB6
  go_upto_region 27 with fail
  obtain ⟨A6, cap6, hv6⟩ := S6.out.ref.row.sl
  have S6' := S6.out
  rw [hv6] at S6'
  refine plays27 rfl ?_ S6' (by omega) HG6 H8 H9 ?_
  · exact ⟨fun _ _ _ _ _ h => hPQ.out _ _ _ _ _ h⟩
  intro w7 z130 z131 z132 z133 z134 z135 z136 z137 z138 z139 z140 z141 z142 z143 z144 z145 z146 z147 z148 z149 z150 z151 z152 z153 z154 z155 z156 z157 z158 z159 z160 z161 z162 z163 z164 z165 z166 z167 z168 z169 z170 z171 hB7
  have S7 := Aside0.mk (S6'.keep hB7)
  clear hB7 S6' hv6
  go_wp2
  exact hcont.out _ _ _ _ _ _ _ _ _ _ _ _ _ _ _ _ _ _ _ _ _ _ _ _ _ _ _ _ _ _ _ _ _ _ _ _ _ _ _ _ _ _ _ _ _ _ _ _ _ _ _ _ _ _ _ _ _ _ _ _ _ _ _ _ _ _ _ _ _ _ _ _ _ _ _ _ _ _ _ _ _ _ _ _ _ _ _ _ _ _ _ _ _ _ _ _ _ _ _ _ _ _ _ _ _ _ _ _ _ _ _ _ _ _ _ _ _ _ _ _ _ _ _ _ _ _ _ _ _ _ _ _ _ _ _ _ _ _ _ _ _ _ _ _ _ _ _ _ _ _ _ _ _ _ _ _ _ _ _ _ _ _ _ _ _ _ _ _ _ _ _ _ _ _ S7.out PX.out
set_option maxRecDepth 100000 in
set_option maxHeartbeats 8000000 in
theorem plays_new1 {w0 w : World} {a : Addr} {LN cap p b1 b2 q m i : Nat} {n d j u : Int} {l : List G3} {v : Value} {Q : Exit → Act → World → Prop} {N : Nat} {c0 c1 c2 c3 c4 body : Code} {z0 : Nat}  {x1 x6 x7 x8 x9 x10 x11 x12 x13 x14 x15 x16 x17 x18 x19 x20 x21 x22 x23 x24 x25 x26 x27 x28 x29 x30 x31 x32 x33 x34 x35 x36 x37 x38 x39 x40 x41 x42 x43 x44 x45 x46 x47 x48 x49 x50 x51 x52 x53 x54 x55 x56 x57 x58 x59 x60 x61 x62 x63 x64 x65 x66 x67 x68 x69 x70 x71 x72 x73 x74 x75 x76 x77 x78 x79 x80 x81 x82 x83 x84 x85 x86 x87 x88 x89 x90 x91 x92 x93 x94 x95 x96 x97 x98 x99 x100 x101 x102 x103 x104 x105 x106 x107 x108 x109 x110 x111 x112 x113 x114 x115 x116 x117 x118 x119 x120 x121 x122 x123 x124 x125 x126 x127 x128 x129 x130 x131 x132 x133 x134 x135 x136 x137 x138 x139 x140 x141 x142 x143 x144 x145 x146 x147 x148 x149 x150 x151 x152 x153 x154 x155 x156 x157 x158 x159 x160 x161 x162 x163 x164 x165 x166 x167 x168 x169 x170 x171 x172 x173 : Value}
    (hB : Try.f6.body = some (.seq c0 (.seq c1 (.seq c2 (.seq (.seq c3 (.block z0 (.loop body))) c4))))) (hPQ : Aside0 (∀ c a d v w, Q (.panic c) (a.put d v) w → Q (.panic c) a w)) (S : Aside0 (PS w0 w p b1 b2 q m n l n l v)) (P : Aside0 (PI i m n l)) (k0 : Aside0 (w0.cell? (a.add (i * 3 + 0)) = some (.int .i64 d))) (k1 : Aside0 (w0.cell? (a.add (i * 3 + 1)) = some (.int .i64 j))) (k2 : Aside0 (w0.cell? (a.add (i * 3 + 2)) = some (.int .u64 u))) (HAB : Aside0 (a.block < w0.heap.size)) (WD : Aside0 ((Lit.int .i64 d).wf = true)) (WJ : Aside0 ((Lit.int .i64 j).wf = true)) (hi : i < LN) (hl : i < 60) (hlc : LN ≤ maxLen) (HM : Aside0 (∀ w : World, Calls Try.prog 11 #[.int .i64 d, .int .i64 6] w fun e w' => w' = w ∧ e = .returned (.int .i64 1))) (hn : Aside0 (∀ g ∈ l, g.2.1 ≠ j))
    (cont : ∀ (w' : World) (m' : Nat) (n' : Int) (l' : List G3) (v' : Value) (y1 y6 y7 y8 y9 y10 y11 y12 y13 y14 y15 y16 y17 y18 y19 y20 y21 y22 y23 y24 y25 y26 y27 y28 y29 y30 y31 y32 y33 y34 y35 y36 y37 y38 y39 y40 y41 y42 y43 y44 y45 y46 y47 y48 y49 y50 y51 y52 y53 y54 y55 y56 y57 y58 y59 y60 y61 y62 y63 y64 y65 y66 y67 y68 y69 y70 y71 y72 y73 y74 y75 y76 y77 y78 y79 y80 y81 y82 y83 y84 y85 y86 y87 y88 y89 y90 y91 y92 y93 y94 y95 y96 y97 y98 y99 y100 y101 y102 y103 y104 y105 y106 y107 y108 y109 y110 y111 y112 y113 y114 y115 y116 y117 y118 y119 y120 y121 y122 y123 y124 y125 y126 y127 y128 y129 y130 y131 y132 y133 y134 y135 y136 y137 y138 y139 y140 y141 y142 y143 y144 y145 y146 y147 y148 y149 y150 y151 y152 y153 y154 y155 y156 y157 y158 y159 y160 y161 y162 y163 y164 y165 y166 y167 y168 y169 y170 y171 y172 y173 : Value), PS w0 w' p b1 b2 q m' n' l' n' l' v' → PI (i + 1) m' n' l' → Code.rounds Try.prog body Q N ⟨#[.slice (some a) LN cap, y1, .bool false, .pointer (some ⟨p, 0, none⟩), .pointer (some ⟨q, 0, none⟩), .int .i64 (i + 1), y6, y7, y8, y9, y10, y11, y12, y13, y14, y15, y16, y17, y18, y19, y20, y21, y22, y23, y24, y25, y26, y27, y28, y29, y30, y31, y32, y33, y34, y35, y36, y37, y38, y39, y40, y41, y42, y43, y44, y45, y46, y47, y48, y49, y50, y51, y52, y53, y54, y55, y56, y57, y58, y59, y60, y61, y62, y63, y64, y65, y66, y67, y68, y69, y70, y71, y72, y73, y74, y75, y76, y77, y78, y79, y80, y81, y82, y83, y84, y85, y86, y87, y88, y89, y90, y91, y92, y93, y94, y95, y96, y97, y98, y99, y100, y101, y102, y103, y104, y105, y106, y107, y108, y109, y110, y111, y112, y113, y114, y115, y116, y117, y118, y119, y120, y121, y122, y123, y124, y125, y126, y127, y128, y129, y130, y131, y132, y133, y134, y135, y136, y137, y138, y139, y140, y141, y142, y143, y144, y145, y146, y147, y148, y149, y150, y151, y152, y153, y154, y155, y156, y157, y158, y159, y160, y161, y162, y163, y164, y165, y166, y167, y168, y169, y170, y171, y172, y173], []⟩ w') :
    Code.rounds Try.prog body Q (N + 1) ⟨#[.slice (some a) LN cap, x1, .bool false, .pointer (some ⟨p, 0, none⟩), .pointer (some ⟨q, 0, none⟩), .int .i64 i, x6, x7, x8, x9, x10, x11, x12, x13, x14, x15, x16, x17, x18, x19, x20, x21, x22, x23, x24, x25, x26, x27, x28, x29, x30, x31, x32, x33, x34, x35, x36, x37, x38, x39, x40, x41, x42, x43, x44, x45, x46, x47, x48, x49, x50, x51, x52, x53, x54, x55, x56, x57, x58, x59, x60, x61, x62, x63, x64, x65, x66, x67, x68, x69, x70, x71, x72, x73, x74, x75, x76, x77, x78, x79, x80, x81, x82, x83, x84, x85, x86, x87, x88, x89, x90, x91, x92, x93, x94, x95, x96, x97, x98, x99, x100, x101, x102, x103, x104, x105, x106, x107, x108, x109, x110, x111, x112, x113, x114, x115, x116, x117, x118, x119, x120, x121, x122, x123, x124, x125, x126, x127, x128, x129, x130, x131, x132, x133, x134, x135, x136, x137, x138, x139, x140, x141, x142, x143, x144, x145, x146, x147, x148, x149, x150, x151, x152, x153, x154, x155, x156, x157, x158, x159, x160, x161, x162, x163, x164, x165, x166, x167, x168, x169, x170, x171, x172, x173], []⟩ w := by
  have hbody := plays_body0 rfl hB
  clear hB
  subst hbody
  have hcont := Aside0.mk cont
  clear cont
  rw [rounds_succ]
  unfold maxLen at hlc
  have AB : ∀ z, (a.add (i * 3 + z)).block < w0.heap.size := fun z => by rw [addr_block3]; exact HAB.out
  have LA := Aside0.mk (load_act ((S.out.below.cell (AB 0)).trans k0.out) ((S.out.below.cell (AB 1)).trans k1.out) ((S.out.below.cell (AB 2)).trans k2.out))
  have HT0 := Aside0.mk (heap_alloc_last w (.cells #[.int .i64 d, .int .i64 j, .int .u64 u] 30))
  have ST0 := Aside0.mk (S.out.keep ((Below.refl w.heap.size w).alloc (Nat.le_refl _) (.cells #[.int .i64 d, .int .i64 j, .int .u64 u] 30)))
  have HR : Aside0 (w.heap.size ≠ p ∧ w.heap.size ≠ b1 ∧ w.heap.size ≠ b2 ∧ w.heap.size ≠ q) := ⟨by have h1 := blk_lt S.out.ref.head; obtain ⟨h2, h3, h4⟩ := S.out.ord; refine ⟨?_, ?_, ?_, ?_⟩ <;> omega⟩
  clear AB
  go_upto_region 8 with (refine Great.wpList_readTo rfl (some 38) rfl (.agg #[.int .i64 d, .int .i64 j, .int .u64 u]) (exec_load rfl LA.out) ?_)
  generalize hw1 : w.alloc (.cells #[.int .i64 d, .int .i64 j, .int .u64 u] 30) = w1 at HT0 ST0 ⊢
  generalize w.heap.size = r at HT0 HR ⊢
  clear hw1
  have cd := blk_cell HT0.out 0
  have cj := blk_cell HT0.out 1
  have cu := blk_cell HT0.out 2
  have HT := HT0
  have ST := ST0
  have PLEN := P.out.len
  have hm2 := P.out.mm
  have hn0 := P.out.lo
  have hn1 := P.out.hi
  go_upto_region 24 with (first
    | (go_at_call 18; refine (rgrant_new (n := n) (j := j) (u := u) SA.out.ref (by omega) hn.out (by omega) (by omega) SA.out.qlt (Nat.lt_succ_self _)).mono ?_; rintro e wb ⟨vb, rfl, hT, hb, hf, hz⟩; have ST := Aside0.mk (SA.out.onRef hT hb); have HT := Aside0.mk ((hf r (blk_lt HTA.out) HR.out.2.2.2).trans HTA.out); have cj1 := blk_cell HT.out 1; clear hT hb hf hz; dsimp only)
    | (go_at_call 9; refine (grant_l (j := j) (u := u) ST0.out.tab WJ.out (by omega) (by omega) (by unfold maxLen; omega) hn.out P.out.nums).mono ?_; rintro e wa ⟨rfl, hT, hb, hz, hf⟩; have SA := Aside0.mk (ST0.out.onTab hT hb hf); have HTA := Aside0.mk ((hf r (blk_lt HT0.out) HR.out.1 HR.out.2.1 HR.out.2.2.1).trans HT0.out); have cj0 := blk_cell HTA.out 1; have cu0 := blk_cell HTA.out 2; clear hT hb hz hf; dsimp only)
    | (go_at_call 11; refine (HM.out _).mono ?_; rintro e z ⟨hz, rfl⟩; obtain rfl := hz.symm; dsimp only))
  clear hm2 hn0 hn1
  obtain ⟨ov1, hov1⟩ : ∃ ov, (l ++ [(n + 1, j, u)]).find? (fun g => decide (g.1 = j)) = ov := ⟨_, rfl⟩
  obtain ⟨ov2, hov2⟩ : ∃ ov, (l ++ [(n + 1, j, u)]).find? (fun g => decide (g.2.1 = j)) = ov := ⟨_, rfl⟩
  have OV1 := Aside0.mk hov1
  have OV2 := Aside0.mk hov2
  have PX := Aside0.mk (P.out.more j u)
  have NX : (l ++ [(n + 1, j, u)]).length ≤ 60 := by have := PX.out.len; omega
  clear hov1 hov2
  have cj := blk_cell HT.out 1
  go_upto_region 26 with (first
    | (go_at_call 17; refine (of_any SG.out.tab WJ.out OV2.out).mono ?_; rintro e z ⟨hz, rfl⟩; obtain rfl := hz.symm; dsimp only)
    | (go_at_call 14; refine (look_any ST.out.tab WJ.out OV1.out).mono ?_; rintro e wa ⟨hb0, rfl⟩; have hb := hb0.alloc hb0.size (.cells #[.int .i64 (ov1.getD (0, 0, 0)).1, .int .i64 (ov1.getD (0, 0, 0)).2.1, .int .u64 (ov1.getD (0, 0, 0)).2.2] 38); have SG := Aside0.mk (ST.out.keep hb); have HAG := Aside0.mk ((hb.block r (blk_lt HT.out)).trans HT.out); have HG := Aside0.mk (heap_alloc_last wa (.cells #[.int .i64 (ov1.getD (0, 0, 0)).1, .int .i64 (ov1.getD (0, 0, 0)).2.1, .int .u64 (ov1.getD (0, 0, 0)).2.2] 38)); have cj2 := blk_cell HAG.out 1; clear hb hb0; dsimp only))
  refine plays26 (l := l ++ [(n + 1, j, u)]) (q := q) (r := r) (j := j) (ga := ov1.getD (0, 0, 0)) (gb := ov2.getD (0, 0, 0)) (ok1 := ov1.isSome) (ok2 := ov2.isSome) rfl ?_ SG.out.ref (by omega) ⟨blk_cell HAG.out 1⟩ ⟨by rw [OV1.out, foundV_fv]⟩ ⟨by rw [OV2.out, foundV_fv]⟩ ?_
  · exact ⟨fun _ _ _ _ _ h => hPQ.out _ _ _ _ _ h⟩
  intro w6 r8 r9 z122 z123 z124 z125 z126 z127 z128 z129 h8 h9 hB6
  have S6 := Aside0.mk (SG.out.keep hB6)
  have H8 := Aside0.mk h8
  have H9 := Aside0.mk h9
  have HG6 := Aside0.mk ((hB6.block _ (blk_lt HG.out)).trans HG.out)
  clear h8 h9 hB6
  go_upto_region 27 with fail
  obtain ⟨A6, cap6, hv6⟩ := S6.out.ref.row.sl
  have S6' := S6.out
  rw [hv6] at S6'
  refine plays27 rfl ?_ S6' (by omega) HG6 H8 H9 ?_
  · exact ⟨fun _ _ _ _ _ h => hPQ.out _ _ _ _ _ h⟩
  intro w7 z130 z131 z132 z133 z134 z135 z136 z137 z138 z139 z140 z141 z142 z143 z144 z145 z146 z147 z148 z149 z150 z151 z152 z153 z154 z155 z156 z157 z158 z159 z160 z161 z162 z163 z164 z165 z166 z167 z168 z169 z170 z171 hB7
  have S7 := Aside0.mk (S6'.keep hB7)
  clear hB7 S6' hv6
  go_wp2
  exact hcont.out _ _ _ _ _ _ _ _ _ _ _ _ _ _ _ _ _ _ _ _ _ _ _ _ _ _ _ _ _ _ _ _ _ _ _ _ _ _ _ _ _ _ _ _ _ _ _ _ _ _ _ _ _ _ _ _ _ _ _ _ _ _ _ _ _ _ _ _ _ _ _ _ _ _ _ _ _ _ _ _ _ _ _ _ _ _ _ _ _ _ _ _ _ _ _ _ _ _ _ _ _ _ _ _ _ _ _ _ _ _ _ _ _ _ _ _ _ _ _ _ _ _ _ _ _ _ _ _ _ _ _ _ _ _ _ _ _ _ _ _ _ _ _ _ _ _ _ _ _ _ _ _ _ _ _ _ _ _ _ _ _ _ _ _ _ _ _ _ _ _ _ _ _ _ S7.out PX.out
set_option maxRecDepth 100000 in
set_option maxHeartbeats 8000000 in
theorem plays_had2 {w0 w : World} {a : Addr} {LN cap p b1 b2 q m i : Nat} {n d j u : Int} {l : List G3} {v : Value} {Q : Exit → Act → World → Prop} {N : Nat} {c0 c1 c2 c3 c4 body : Code} {z0 : Nat}  {x1 x6 x7 x8 x9 x10 x11 x12 x13 x14 x15 x16 x17 x18 x19 x20 x21 x22 x23 x24 x25 x26 x27 x28 x29 x30 x31 x32 x33 x34 x35 x36 x37 x38 x39 x40 x41 x42 x43 x44 x45 x46 x47 x48 x49 x50 x51 x52 x53 x54 x55 x56 x57 x58 x59 x60 x61 x62 x63 x64 x65 x66 x67 x68 x69 x70 x71 x72 x73 x74 x75 x76 x77 x78 x79 x80 x81 x82 x83 x84 x85 x86 x87 x88 x89 x90 x91 x92 x93 x94 x95 x96 x97 x98 x99 x100 x101 x102 x103 x104 x105 x106 x107 x108 x109 x110 x111 x112 x113 x114 x115 x116 x117 x118 x119 x120 x121 x122 x123 x124 x125 x126 x127 x128 x129 x130 x131 x132 x133 x134 x135 x136 x137 x138 x139 x140 x141 x142 x143 x144 x145 x146 x147 x148 x149 x150 x151 x152 x153 x154 x155 x156 x157 x158 x159 x160 x161 x162 x163 x164 x165 x166 x167 x168 x169 x170 x171 x172 x173 : Value}
    (hB : Try.f6.body = some (.seq c0 (.seq c1 (.seq c2 (.seq (.seq c3 (.block z0 (.loop body))) c4))))) (hPQ : Aside0 (∀ c a d v w, Q (.panic c) (a.put d v) w → Q (.panic c) a w)) (S : Aside0 (PS w0 w p b1 b2 q m n l n l v)) (P : Aside0 (PI i m n l)) (k0 : Aside0 (w0.cell? (a.add (i * 3 + 0)) = some (.int .i64 d))) (k1 : Aside0 (w0.cell? (a.add (i * 3 + 1)) = some (.int .i64 j))) (k2 : Aside0 (w0.cell? (a.add (i * 3 + 2)) = some (.int .u64 u))) (HAB : Aside0 (a.block < w0.heap.size)) (WD : Aside0 ((Lit.int .i64 d).wf = true)) (WJ : Aside0 ((Lit.int .i64 j).wf = true)) (hi : i < LN) (hl : i < 60) (hlc : LN ≤ maxLen) (HM : Aside0 (∀ w : World, Calls Try.prog 11 #[.int .i64 d, .int .i64 6] w fun e w' => w' = w ∧ e = .returned (.int .i64 2))) {g : G3} (hg : Aside0 (g ∈ l ∧ g.2.1 = j))
    (cont : ∀ (w' : World) (m' : Nat) (n' : Int) (l' : List G3) (v' : Value) (y1 y6 y7 y8 y9 y10 y11 y12 y13 y14 y15 y16 y17 y18 y19 y20 y21 y22 y23 y24 y25 y26 y27 y28 y29 y30 y31 y32 y33 y34 y35 y36 y37 y38 y39 y40 y41 y42 y43 y44 y45 y46 y47 y48 y49 y50 y51 y52 y53 y54 y55 y56 y57 y58 y59 y60 y61 y62 y63 y64 y65 y66 y67 y68 y69 y70 y71 y72 y73 y74 y75 y76 y77 y78 y79 y80 y81 y82 y83 y84 y85 y86 y87 y88 y89 y90 y91 y92 y93 y94 y95 y96 y97 y98 y99 y100 y101 y102 y103 y104 y105 y106 y107 y108 y109 y110 y111 y112 y113 y114 y115 y116 y117 y118 y119 y120 y121 y122 y123 y124 y125 y126 y127 y128 y129 y130 y131 y132 y133 y134 y135 y136 y137 y138 y139 y140 y141 y142 y143 y144 y145 y146 y147 y148 y149 y150 y151 y152 y153 y154 y155 y156 y157 y158 y159 y160 y161 y162 y163 y164 y165 y166 y167 y168 y169 y170 y171 y172 y173 : Value), PS w0 w' p b1 b2 q m' n' l' n' l' v' → PI (i + 1) m' n' l' → Code.rounds Try.prog body Q N ⟨#[.slice (some a) LN cap, y1, .bool false, .pointer (some ⟨p, 0, none⟩), .pointer (some ⟨q, 0, none⟩), .int .i64 (i + 1), y6, y7, y8, y9, y10, y11, y12, y13, y14, y15, y16, y17, y18, y19, y20, y21, y22, y23, y24, y25, y26, y27, y28, y29, y30, y31, y32, y33, y34, y35, y36, y37, y38, y39, y40, y41, y42, y43, y44, y45, y46, y47, y48, y49, y50, y51, y52, y53, y54, y55, y56, y57, y58, y59, y60, y61, y62, y63, y64, y65, y66, y67, y68, y69, y70, y71, y72, y73, y74, y75, y76, y77, y78, y79, y80, y81, y82, y83, y84, y85, y86, y87, y88, y89, y90, y91, y92, y93, y94, y95, y96, y97, y98, y99, y100, y101, y102, y103, y104, y105, y106, y107, y108, y109, y110, y111, y112, y113, y114, y115, y116, y117, y118, y119, y120, y121, y122, y123, y124, y125, y126, y127, y128, y129, y130, y131, y132, y133, y134, y135, y136, y137, y138, y139, y140, y141, y142, y143, y144, y145, y146, y147, y148, y149, y150, y151, y152, y153, y154, y155, y156, y157, y158, y159, y160, y161, y162, y163, y164, y165, y166, y167, y168, y169, y170, y171, y172, y173], []⟩ w') :
    Code.rounds Try.prog body Q (N + 1) ⟨#[.slice (some a) LN cap, x1, .bool false, .pointer (some ⟨p, 0, none⟩), .pointer (some ⟨q, 0, none⟩), .int .i64 i, x6, x7, x8, x9, x10, x11, x12, x13, x14, x15, x16, x17, x18, x19, x20, x21, x22, x23, x24, x25, x26, x27, x28, x29, x30, x31, x32, x33, x34, x35, x36, x37, x38, x39, x40, x41, x42, x43, x44, x45, x46, x47, x48, x49, x50, x51, x52, x53, x54, x55, x56, x57, x58, x59, x60, x61, x62, x63, x64, x65, x66, x67, x68, x69, x70, x71, x72, x73, x74, x75, x76, x77, x78, x79, x80, x81, x82, x83, x84, x85, x86, x87, x88, x89, x90, x91, x92, x93, x94, x95, x96, x97, x98, x99, x100, x101, x102, x103, x104, x105, x106, x107, x108, x109, x110, x111, x112, x113, x114, x115, x116, x117, x118, x119, x120, x121, x122, x123, x124, x125, x126, x127, x128, x129, x130, x131, x132, x133, x134, x135, x136, x137, x138, x139, x140, x141, x142, x143, x144, x145, x146, x147, x148, x149, x150, x151, x152, x153, x154, x155, x156, x157, x158, x159, x160, x161, x162, x163, x164, x165, x166, x167, x168, x169, x170, x171, x172, x173], []⟩ w := by
  have hbody := plays_body0 rfl hB
  clear hB
  subst hbody
  have hcont := Aside0.mk cont
  clear cont
  rw [rounds_succ]
  unfold maxLen at hlc
  have AB : ∀ z, (a.add (i * 3 + z)).block < w0.heap.size := fun z => by rw [addr_block3]; exact HAB.out
  have LA := Aside0.mk (load_act ((S.out.below.cell (AB 0)).trans k0.out) ((S.out.below.cell (AB 1)).trans k1.out) ((S.out.below.cell (AB 2)).trans k2.out))
  have HT0 := Aside0.mk (heap_alloc_last w (.cells #[.int .i64 d, .int .i64 j, .int .u64 u] 30))
  have ST0 := Aside0.mk (S.out.keep ((Below.refl w.heap.size w).alloc (Nat.le_refl _) (.cells #[.int .i64 d, .int .i64 j, .int .u64 u] 30)))
  have HR : Aside0 (w.heap.size ≠ p ∧ w.heap.size ≠ b1 ∧ w.heap.size ≠ b2 ∧ w.heap.size ≠ q) := ⟨by have h1 := blk_lt S.out.ref.head; obtain ⟨h2, h3, h4⟩ := S.out.ord; refine ⟨?_, ?_, ?_, ?_⟩ <;> omega⟩
  clear AB
  go_upto_region 8 with (refine Great.wpList_readTo rfl (some 38) rfl (.agg #[.int .i64 d, .int .i64 j, .int .u64 u]) (exec_load rfl LA.out) ?_)
  generalize hw1 : w.alloc (.cells #[.int .i64 d, .int .i64 j, .int .u64 u] 30) = w1 at HT0 ST0 ⊢
  generalize w.heap.size = r at HT0 HR ⊢
  clear hw1
  have cd := blk_cell HT0.out 0
  have cj := blk_cell HT0.out 1
  have cu := blk_cell HT0.out 2
  have HT := HT0
  have ST := ST0
  have PLEN := P.out.len
  go_upto_region 24 with (first
    | (go_at_call 18; rw [← hg.out.2]; refine (rgrant_had (u := u) SA.out.ref (by omega) hg.out.1).mono ?_; rintro e wb ⟨rfl, hb⟩; have ST := Aside0.mk (SA.out.keep hb); have HT := Aside0.mk ((hb.block r (blk_lt HT0.out)).trans HT0.out); have cj1 := blk_cell HT.out 1; clear hb; dsimp only)
    | (go_at_call 9; rw [← hg.out.2]; refine (grant_l_had (u := u) ST0.out.tab hg.out.1).mono ?_; rintro e z ⟨hz, rfl⟩; obtain rfl := hz.symm; have SA := ST0; dsimp only)
    | (go_at_call 11; refine (HM.out _).mono ?_; rintro e z ⟨hz, rfl⟩; obtain rfl := hz.symm; dsimp only))
  obtain ⟨ov1, hov1⟩ : ∃ ov, (l).find? (fun g => decide (g.1 = j)) = ov := ⟨_, rfl⟩
  obtain ⟨ov2, hov2⟩ : ∃ ov, (l).find? (fun g => decide (g.2.1 = j)) = ov := ⟨_, rfl⟩
  have OV1 := Aside0.mk hov1
  have OV2 := Aside0.mk hov2
  have PX := Aside0.mk (P.out.next)
  have NX : (l).length ≤ 60 := by have := PX.out.len; omega
  clear hov1 hov2
  have cj := blk_cell HT.out 1
  go_upto_region 26 with (first
    | (go_at_call 17; refine (of_any SG.out.tab WJ.out OV2.out).mono ?_; rintro e z ⟨hz, rfl⟩; obtain rfl := hz.symm; dsimp only)
    | (go_at_call 14; refine (look_any ST.out.tab WJ.out OV1.out).mono ?_; rintro e wa ⟨hb0, rfl⟩; have hb := hb0.alloc hb0.size (.cells #[.int .i64 (ov1.getD (0, 0, 0)).1, .int .i64 (ov1.getD (0, 0, 0)).2.1, .int .u64 (ov1.getD (0, 0, 0)).2.2] 38); have SG := Aside0.mk (ST.out.keep hb); have HAG := Aside0.mk ((hb.block r (blk_lt HT.out)).trans HT.out); have HG := Aside0.mk (heap_alloc_last wa (.cells #[.int .i64 (ov1.getD (0, 0, 0)).1, .int .i64 (ov1.getD (0, 0, 0)).2.1, .int .u64 (ov1.getD (0, 0, 0)).2.2] 38)); have cj2 := blk_cell HAG.out 1; clear hb hb0; dsimp only))
  refine plays26 (l := l) (q := q) (r := r) (j := j) (ga := ov1.getD (0, 0, 0)) (gb := ov2.getD (0, 0, 0)) (ok1 := ov1.isSome) (ok2 := ov2.isSome) rfl ?_ SG.out.ref (by omega) ⟨blk_cell HAG.out 1⟩ ⟨by rw [OV1.out, foundV_fv]⟩ ⟨by rw [OV2.out, foundV_fv]⟩ ?_
  · exact ⟨fun _ _ _ _ _ h => hPQ.out _ _ _ _ _ h⟩
  intro w6 r8 r9 z122 z123 z124 z125 z126 z127 z128 z129 h8 h9 hB6
  have S6 := Aside0.mk (SG.out.keep hB6)
  have H8 := Aside0.mk h8
  have H9 := Aside0.mk h9
  have HG6 := Aside0.mk ((hB6.block _ (blk_lt HG.out)).trans HG.out)
  clear h8 h9 hB6
  go_upto_region 27 with fail
  obtain ⟨A6, cap6, hv6⟩ := S6.out.ref.row.sl
  have S6' := S6.out
  rw [hv6] at S6'
  refine plays27 rfl ?_ S6' (by omega) HG6 H8 H9 ?_
  · exact ⟨fun _ _ _ _ _ h => hPQ.out _ _ _ _ _ h⟩
  intro w7 z130 z131 z132 z133 z134 z135 z136 z137 z138 z139 z140 z141 z142 z143 z144 z145 z146 z147 z148 z149 z150 z151 z152 z153 z154 z155 z156 z157 z158 z159 z160 z161 z162 z163 z164 z165 z166 z167 z168 z169 z170 z171 hB7
  have S7 := Aside0.mk (S6'.keep hB7)
  clear hB7 S6' hv6
  go_wp2
  exact hcont.out _ _ _ _ _ _ _ _ _ _ _ _ _ _ _ _ _ _ _ _ _ _ _ _ _ _ _ _ _ _ _ _ _ _ _ _ _ _ _ _ _ _ _ _ _ _ _ _ _ _ _ _ _ _ _ _ _ _ _ _ _ _ _ _ _ _ _ _ _ _ _ _ _ _ _ _ _ _ _ _ _ _ _ _ _ _ _ _ _ _ _ _ _ _ _ _ _ _ _ _ _ _ _ _ _ _ _ _ _ _ _ _ _ _ _ _ _ _ _ _ _ _ _ _ _ _ _ _ _ _ _ _ _ _ _ _ _ _ _ _ _ _ _ _ _ _ _ _ _ _ _ _ _ _ _ _ _ _ _ _ _ _ _ _ _ _ _ _ _ _ _ _ _ _ S7.out PX.out
set_option maxRecDepth 100000 in
set_option maxHeartbeats 8000000 in
theorem plays_new2 {w0 w : World} {a : Addr} {LN cap p b1 b2 q m i : Nat} {n d j u : Int} {l : List G3} {v : Value} {Q : Exit → Act → World → Prop} {N : Nat} {c0 c1 c2 c3 c4 body : Code} {z0 : Nat}  {x1 x6 x7 x8 x9 x10 x11 x12 x13 x14 x15 x16 x17 x18 x19 x20 x21 x22 x23 x24 x25 x26 x27 x28 x29 x30 x31 x32 x33 x34 x35 x36 x37 x38 x39 x40 x41 x42 x43 x44 x45 x46 x47 x48 x49 x50 x51 x52 x53 x54 x55 x56 x57 x58 x59 x60 x61 x62 x63 x64 x65 x66 x67 x68 x69 x70 x71 x72 x73 x74 x75 x76 x77 x78 x79 x80 x81 x82 x83 x84 x85 x86 x87 x88 x89 x90 x91 x92 x93 x94 x95 x96 x97 x98 x99 x100 x101 x102 x103 x104 x105 x106 x107 x108 x109 x110 x111 x112 x113 x114 x115 x116 x117 x118 x119 x120 x121 x122 x123 x124 x125 x126 x127 x128 x129 x130 x131 x132 x133 x134 x135 x136 x137 x138 x139 x140 x141 x142 x143 x144 x145 x146 x147 x148 x149 x150 x151 x152 x153 x154 x155 x156 x157 x158 x159 x160 x161 x162 x163 x164 x165 x166 x167 x168 x169 x170 x171 x172 x173 : Value}
    (hB : Try.f6.body = some (.seq c0 (.seq c1 (.seq c2 (.seq (.seq c3 (.block z0 (.loop body))) c4))))) (hPQ : Aside0 (∀ c a d v w, Q (.panic c) (a.put d v) w → Q (.panic c) a w)) (S : Aside0 (PS w0 w p b1 b2 q m n l n l v)) (P : Aside0 (PI i m n l)) (k0 : Aside0 (w0.cell? (a.add (i * 3 + 0)) = some (.int .i64 d))) (k1 : Aside0 (w0.cell? (a.add (i * 3 + 1)) = some (.int .i64 j))) (k2 : Aside0 (w0.cell? (a.add (i * 3 + 2)) = some (.int .u64 u))) (HAB : Aside0 (a.block < w0.heap.size)) (WD : Aside0 ((Lit.int .i64 d).wf = true)) (WJ : Aside0 ((Lit.int .i64 j).wf = true)) (hi : i < LN) (hl : i < 60) (hlc : LN ≤ maxLen) (HM : Aside0 (∀ w : World, Calls Try.prog 11 #[.int .i64 d, .int .i64 6] w fun e w' => w' = w ∧ e = .returned (.int .i64 2))) (hn : Aside0 (∀ g ∈ l, g.2.1 ≠ j))
    (cont : ∀ (w' : World) (m' : Nat) (n' : Int) (l' : List G3) (v' : Value) (y1 y6 y7 y8 y9 y10 y11 y12 y13 y14 y15 y16 y17 y18 y19 y20 y21 y22 y23 y24 y25 y26 y27 y28 y29 y30 y31 y32 y33 y34 y35 y36 y37 y38 y39 y40 y41 y42 y43 y44 y45 y46 y47 y48 y49 y50 y51 y52 y53 y54 y55 y56 y57 y58 y59 y60 y61 y62 y63 y64 y65 y66 y67 y68 y69 y70 y71 y72 y73 y74 y75 y76 y77 y78 y79 y80 y81 y82 y83 y84 y85 y86 y87 y88 y89 y90 y91 y92 y93 y94 y95 y96 y97 y98 y99 y100 y101 y102 y103 y104 y105 y106 y107 y108 y109 y110 y111 y112 y113 y114 y115 y116 y117 y118 y119 y120 y121 y122 y123 y124 y125 y126 y127 y128 y129 y130 y131 y132 y133 y134 y135 y136 y137 y138 y139 y140 y141 y142 y143 y144 y145 y146 y147 y148 y149 y150 y151 y152 y153 y154 y155 y156 y157 y158 y159 y160 y161 y162 y163 y164 y165 y166 y167 y168 y169 y170 y171 y172 y173 : Value), PS w0 w' p b1 b2 q m' n' l' n' l' v' → PI (i + 1) m' n' l' → Code.rounds Try.prog body Q N ⟨#[.slice (some a) LN cap, y1, .bool false, .pointer (some ⟨p, 0, none⟩), .pointer (some ⟨q, 0, none⟩), .int .i64 (i + 1), y6, y7, y8, y9, y10, y11, y12, y13, y14, y15, y16, y17, y18, y19, y20, y21, y22, y23, y24, y25, y26, y27, y28, y29, y30, y31, y32, y33, y34, y35, y36, y37, y38, y39, y40, y41, y42, y43, y44, y45, y46, y47, y48, y49, y50, y51, y52, y53, y54, y55, y56, y57, y58, y59, y60, y61, y62, y63, y64, y65, y66, y67, y68, y69, y70, y71, y72, y73, y74, y75, y76, y77, y78, y79, y80, y81, y82, y83, y84, y85, y86, y87, y88, y89, y90, y91, y92, y93, y94, y95, y96, y97, y98, y99, y100, y101, y102, y103, y104, y105, y106, y107, y108, y109, y110, y111, y112, y113, y114, y115, y116, y117, y118, y119, y120, y121, y122, y123, y124, y125, y126, y127, y128, y129, y130, y131, y132, y133, y134, y135, y136, y137, y138, y139, y140, y141, y142, y143, y144, y145, y146, y147, y148, y149, y150, y151, y152, y153, y154, y155, y156, y157, y158, y159, y160, y161, y162, y163, y164, y165, y166, y167, y168, y169, y170, y171, y172, y173], []⟩ w') :
    Code.rounds Try.prog body Q (N + 1) ⟨#[.slice (some a) LN cap, x1, .bool false, .pointer (some ⟨p, 0, none⟩), .pointer (some ⟨q, 0, none⟩), .int .i64 i, x6, x7, x8, x9, x10, x11, x12, x13, x14, x15, x16, x17, x18, x19, x20, x21, x22, x23, x24, x25, x26, x27, x28, x29, x30, x31, x32, x33, x34, x35, x36, x37, x38, x39, x40, x41, x42, x43, x44, x45, x46, x47, x48, x49, x50, x51, x52, x53, x54, x55, x56, x57, x58, x59, x60, x61, x62, x63, x64, x65, x66, x67, x68, x69, x70, x71, x72, x73, x74, x75, x76, x77, x78, x79, x80, x81, x82, x83, x84, x85, x86, x87, x88, x89, x90, x91, x92, x93, x94, x95, x96, x97, x98, x99, x100, x101, x102, x103, x104, x105, x106, x107, x108, x109, x110, x111, x112, x113, x114, x115, x116, x117, x118, x119, x120, x121, x122, x123, x124, x125, x126, x127, x128, x129, x130, x131, x132, x133, x134, x135, x136, x137, x138, x139, x140, x141, x142, x143, x144, x145, x146, x147, x148, x149, x150, x151, x152, x153, x154, x155, x156, x157, x158, x159, x160, x161, x162, x163, x164, x165, x166, x167, x168, x169, x170, x171, x172, x173], []⟩ w := by
  have hbody := plays_body0 rfl hB
  clear hB
  subst hbody
  have hcont := Aside0.mk cont
  clear cont
  rw [rounds_succ]
  unfold maxLen at hlc
  have AB : ∀ z, (a.add (i * 3 + z)).block < w0.heap.size := fun z => by rw [addr_block3]; exact HAB.out
  have LA := Aside0.mk (load_act ((S.out.below.cell (AB 0)).trans k0.out) ((S.out.below.cell (AB 1)).trans k1.out) ((S.out.below.cell (AB 2)).trans k2.out))
  have HT0 := Aside0.mk (heap_alloc_last w (.cells #[.int .i64 d, .int .i64 j, .int .u64 u] 30))
  have ST0 := Aside0.mk (S.out.keep ((Below.refl w.heap.size w).alloc (Nat.le_refl _) (.cells #[.int .i64 d, .int .i64 j, .int .u64 u] 30)))
  have HR : Aside0 (w.heap.size ≠ p ∧ w.heap.size ≠ b1 ∧ w.heap.size ≠ b2 ∧ w.heap.size ≠ q) := ⟨by have h1 := blk_lt S.out.ref.head; obtain ⟨h2, h3, h4⟩ := S.out.ord; refine ⟨?_, ?_, ?_, ?_⟩ <;> omega⟩
  clear AB
  go_upto_region 8 with (refine Great.wpList_readTo rfl (some 38) rfl (.agg #[.int .i64 d, .int .i64 j, .int .u64 u]) (exec_load rfl LA.out) ?_)
  generalize hw1 : w.alloc (.cells #[.int .i64 d, .int .i64 j, .int .u64 u] 30) = w1 at HT0 ST0 ⊢
  generalize w.heap.size = r at HT0 HR ⊢
  clear hw1
  have cd := blk_cell HT0.out 0
  have cj := blk_cell HT0.out 1
  have cu := blk_cell HT0.out 2
  have HT := HT0
  have ST := ST0
  have PLEN := P.out.len
  have hm2 := P.out.mm
  have hn0 := P.out.lo
  have hn1 := P.out.hi
  go_upto_region 24 with (first
    | (go_at_call 18; refine (rgrant_new (n := n) (j := j) (u := u) SA.out.ref (by omega) hn.out (by omega) (by omega) SA.out.qlt (Nat.lt_succ_self _)).mono ?_; rintro e wb ⟨vb, rfl, hT, hb, hf, hz⟩; have ST := Aside0.mk (SA.out.onRef hT hb); have HT := Aside0.mk ((hf r (blk_lt HTA.out) HR.out.2.2.2).trans HTA.out); have cj1 := blk_cell HT.out 1; clear hT hb hf hz; dsimp only)
    | (go_at_call 9; refine (grant_l (j := j) (u := u) ST0.out.tab WJ.out (by omega) (by omega) (by unfold maxLen; omega) hn.out P.out.nums).mono ?_; rintro e wa ⟨rfl, hT, hb, hz, hf⟩; have SA := Aside0.mk (ST0.out.onTab hT hb hf); have HTA := Aside0.mk ((hf r (blk_lt HT0.out) HR.out.1 HR.out.2.1 HR.out.2.2.1).trans HT0.out); have cj0 := blk_cell HTA.out 1; have cu0 := blk_cell HTA.out 2; clear hT hb hz hf; dsimp only)
    | (go_at_call 11; refine (HM.out _).mono ?_; rintro e z ⟨hz, rfl⟩; obtain rfl := hz.symm; dsimp only))
  clear hm2 hn0 hn1
  obtain ⟨ov1, hov1⟩ : ∃ ov, (l ++ [(n + 1, j, u)]).find? (fun g => decide (g.1 = j)) = ov := ⟨_, rfl⟩
  obtain ⟨ov2, hov2⟩ : ∃ ov, (l ++ [(n + 1, j, u)]).find? (fun g => decide (g.2.1 = j)) = ov := ⟨_, rfl⟩
  have OV1 := Aside0.mk hov1
  have OV2 := Aside0.mk hov2
  have PX := Aside0.mk (P.out.more j u)
  have NX : (l ++ [(n + 1, j, u)]).length ≤ 60 := by have := PX.out.len; omega
  clear hov1 hov2
  have cj := blk_cell HT.out 1
  go_upto_region 26 with (first
    | (go_at_call 17; refine (of_any SG.out.tab WJ.out OV2.out).mono ?_; rintro e z ⟨hz, rfl⟩; obtain rfl := hz.symm; dsimp only)
    | (go_at_call 14; refine (look_any ST.out.tab WJ.out OV1.out).mono ?_; rintro e wa ⟨hb0, rfl⟩; have hb := hb0.alloc hb0.size (.cells #[.int .i64 (ov1.getD (0, 0, 0)).1, .int .i64 (ov1.getD (0, 0, 0)).2.1, .int .u64 (ov1.getD (0, 0, 0)).2.2] 38); have SG := Aside0.mk (ST.out.keep hb); have HAG := Aside0.mk ((hb.block r (blk_lt HT.out)).trans HT.out); have HG := Aside0.mk (heap_alloc_last wa (.cells #[.int .i64 (ov1.getD (0, 0, 0)).1, .int .i64 (ov1.getD (0, 0, 0)).2.1, .int .u64 (ov1.getD (0, 0, 0)).2.2] 38)); have cj2 := blk_cell HAG.out 1; clear hb hb0; dsimp only))
  refine plays26 (l := l ++ [(n + 1, j, u)]) (q := q) (r := r) (j := j) (ga := ov1.getD (0, 0, 0)) (gb := ov2.getD (0, 0, 0)) (ok1 := ov1.isSome) (ok2 := ov2.isSome) rfl ?_ SG.out.ref (by omega) ⟨blk_cell HAG.out 1⟩ ⟨by rw [OV1.out, foundV_fv]⟩ ⟨by rw [OV2.out, foundV_fv]⟩ ?_
  · exact ⟨fun _ _ _ _ _ h => hPQ.out _ _ _ _ _ h⟩
  intro w6 r8 r9 z122 z123 z124 z125 z126 z127 z128 z129 h8 h9 hB6
  have S6 := Aside0.mk (SG.out.keep hB6)
  have H8 := Aside0.mk h8
  have H9 := Aside0.mk h9
  have HG6 := Aside0.mk ((hB6.block _ (blk_lt HG.out)).trans HG.out)
  clear h8 h9 hB6
  go_upto_region 27 with fail
  obtain ⟨A6, cap6, hv6⟩ := S6.out.ref.row.sl
  have S6' := S6.out
  rw [hv6] at S6'
  refine plays27 rfl ?_ S6' (by omega) HG6 H8 H9 ?_
  · exact ⟨fun _ _ _ _ _ h => hPQ.out _ _ _ _ _ h⟩
  intro w7 z130 z131 z132 z133 z134 z135 z136 z137 z138 z139 z140 z141 z142 z143 z144 z145 z146 z147 z148 z149 z150 z151 z152 z153 z154 z155 z156 z157 z158 z159 z160 z161 z162 z163 z164 z165 z166 z167 z168 z169 z170 z171 hB7
  have S7 := Aside0.mk (S6'.keep hB7)
  clear hB7 S6' hv6
  go_wp2
  exact hcont.out _ _ _ _ _ _ _ _ _ _ _ _ _ _ _ _ _ _ _ _ _ _ _ _ _ _ _ _ _ _ _ _ _ _ _ _ _ _ _ _ _ _ _ _ _ _ _ _ _ _ _ _ _ _ _ _ _ _ _ _ _ _ _ _ _ _ _ _ _ _ _ _ _ _ _ _ _ _ _ _ _ _ _ _ _ _ _ _ _ _ _ _ _ _ _ _ _ _ _ _ _ _ _ _ _ _ _ _ _ _ _ _ _ _ _ _ _ _ _ _ _ _ _ _ _ _ _ _ _ _ _ _ _ _ _ _ _ _ _ _ _ _ _ _ _ _ _ _ _ _ _ _ _ _ _ _ _ _ _ _ _ _ _ _ _ _ _ _ _ _ _ _ _ _ S7.out PX.out
set_option maxRecDepth 100000 in
set_option maxHeartbeats 8000000 in
theorem plays_drop {w0 w : World} {a : Addr} {LN cap p b1 b2 q m i : Nat} {n d j u : Int} {l : List G3} {v : Value} {Q : Exit → Act → World → Prop} {N : Nat} {c0 c1 c2 c3 c4 body : Code} {z0 : Nat}  {x1 x6 x7 x8 x9 x10 x11 x12 x13 x14 x15 x16 x17 x18 x19 x20 x21 x22 x23 x24 x25 x26 x27 x28 x29 x30 x31 x32 x33 x34 x35 x36 x37 x38 x39 x40 x41 x42 x43 x44 x45 x46 x47 x48 x49 x50 x51 x52 x53 x54 x55 x56 x57 x58 x59 x60 x61 x62 x63 x64 x65 x66 x67 x68 x69 x70 x71 x72 x73 x74 x75 x76 x77 x78 x79 x80 x81 x82 x83 x84 x85 x86 x87 x88 x89 x90 x91 x92 x93 x94 x95 x96 x97 x98 x99 x100 x101 x102 x103 x104 x105 x106 x107 x108 x109 x110 x111 x112 x113 x114 x115 x116 x117 x118 x119 x120 x121 x122 x123 x124 x125 x126 x127 x128 x129 x130 x131 x132 x133 x134 x135 x136 x137 x138 x139 x140 x141 x142 x143 x144 x145 x146 x147 x148 x149 x150 x151 x152 x153 x154 x155 x156 x157 x158 x159 x160 x161 x162 x163 x164 x165 x166 x167 x168 x169 x170 x171 x172 x173 : Value}
    (hB : Try.f6.body = some (.seq c0 (.seq c1 (.seq c2 (.seq (.seq c3 (.block z0 (.loop body))) c4))))) (hPQ : Aside0 (∀ c a d v w, Q (.panic c) (a.put d v) w → Q (.panic c) a w)) (S : Aside0 (PS w0 w p b1 b2 q m n l n l v)) (P : Aside0 (PI i m n l)) (k0 : Aside0 (w0.cell? (a.add (i * 3 + 0)) = some (.int .i64 d))) (k1 : Aside0 (w0.cell? (a.add (i * 3 + 1)) = some (.int .i64 j))) (k2 : Aside0 (w0.cell? (a.add (i * 3 + 2)) = some (.int .u64 u))) (HAB : Aside0 (a.block < w0.heap.size)) (WD : Aside0 ((Lit.int .i64 d).wf = true)) (WJ : Aside0 ((Lit.int .i64 j).wf = true)) (hi : i < LN) (hl : i < 60) (hlc : LN ≤ maxLen) (HM : Aside0 (∀ w : World, Calls Try.prog 11 #[.int .i64 d, .int .i64 6] w fun e w' => w' = w ∧ e = .returned (.int .i64 3)))
    (cont : ∀ (w' : World) (m' : Nat) (n' : Int) (l' : List G3) (v' : Value) (y1 y6 y7 y8 y9 y10 y11 y12 y13 y14 y15 y16 y17 y18 y19 y20 y21 y22 y23 y24 y25 y26 y27 y28 y29 y30 y31 y32 y33 y34 y35 y36 y37 y38 y39 y40 y41 y42 y43 y44 y45 y46 y47 y48 y49 y50 y51 y52 y53 y54 y55 y56 y57 y58 y59 y60 y61 y62 y63 y64 y65 y66 y67 y68 y69 y70 y71 y72 y73 y74 y75 y76 y77 y78 y79 y80 y81 y82 y83 y84 y85 y86 y87 y88 y89 y90 y91 y92 y93 y94 y95 y96 y97 y98 y99 y100 y101 y102 y103 y104 y105 y106 y107 y108 y109 y110 y111 y112 y113 y114 y115 y116 y117 y118 y119 y120 y121 y122 y123 y124 y125 y126 y127 y128 y129 y130 y131 y132 y133 y134 y135 y136 y137 y138 y139 y140 y141 y142 y143 y144 y145 y146 y147 y148 y149 y150 y151 y152 y153 y154 y155 y156 y157 y158 y159 y160 y161 y162 y163 y164 y165 y166 y167 y168 y169 y170 y171 y172 y173 : Value), PS w0 w' p b1 b2 q m' n' l' n' l' v' → PI (i + 1) m' n' l' → Code.rounds Try.prog body Q N ⟨#[.slice (some a) LN cap, y1, .bool false, .pointer (some ⟨p, 0, none⟩), .pointer (some ⟨q, 0, none⟩), .int .i64 (i + 1), y6, y7, y8, y9, y10, y11, y12, y13, y14, y15, y16, y17, y18, y19, y20, y21, y22, y23, y24, y25, y26, y27, y28, y29, y30, y31, y32, y33, y34, y35, y36, y37, y38, y39, y40, y41, y42, y43, y44, y45, y46, y47, y48, y49, y50, y51, y52, y53, y54, y55, y56, y57, y58, y59, y60, y61, y62, y63, y64, y65, y66, y67, y68, y69, y70, y71, y72, y73, y74, y75, y76, y77, y78, y79, y80, y81, y82, y83, y84, y85, y86, y87, y88, y89, y90, y91, y92, y93, y94, y95, y96, y97, y98, y99, y100, y101, y102, y103, y104, y105, y106, y107, y108, y109, y110, y111, y112, y113, y114, y115, y116, y117, y118, y119, y120, y121, y122, y123, y124, y125, y126, y127, y128, y129, y130, y131, y132, y133, y134, y135, y136, y137, y138, y139, y140, y141, y142, y143, y144, y145, y146, y147, y148, y149, y150, y151, y152, y153, y154, y155, y156, y157, y158, y159, y160, y161, y162, y163, y164, y165, y166, y167, y168, y169, y170, y171, y172, y173], []⟩ w') :
    Code.rounds Try.prog body Q (N + 1) ⟨#[.slice (some a) LN cap, x1, .bool false, .pointer (some ⟨p, 0, none⟩), .pointer (some ⟨q, 0, none⟩), .int .i64 i, x6, x7, x8, x9, x10, x11, x12, x13, x14, x15, x16, x17, x18, x19, x20, x21, x22, x23, x24, x25, x26, x27, x28, x29, x30, x31, x32, x33, x34, x35, x36, x37, x38, x39, x40, x41, x42, x43, x44, x45, x46, x47, x48, x49, x50, x51, x52, x53, x54, x55, x56, x57, x58, x59, x60, x61, x62, x63, x64, x65, x66, x67, x68, x69, x70, x71, x72, x73, x74, x75, x76, x77, x78, x79, x80, x81, x82, x83, x84, x85, x86, x87, x88, x89, x90, x91, x92, x93, x94, x95, x96, x97, x98, x99, x100, x101, x102, x103, x104, x105, x106, x107, x108, x109, x110, x111, x112, x113, x114, x115, x116, x117, x118, x119, x120, x121, x122, x123, x124, x125, x126, x127, x128, x129, x130, x131, x132, x133, x134, x135, x136, x137, x138, x139, x140, x141, x142, x143, x144, x145, x146, x147, x148, x149, x150, x151, x152, x153, x154, x155, x156, x157, x158, x159, x160, x161, x162, x163, x164, x165, x166, x167, x168, x169, x170, x171, x172, x173], []⟩ w := by
  have hbody := plays_body0 rfl hB
  clear hB
  subst hbody
  have hcont := Aside0.mk cont
  clear cont
  rw [rounds_succ]
  unfold maxLen at hlc
  have AB : ∀ z, (a.add (i * 3 + z)).block < w0.heap.size := fun z => by rw [addr_block3]; exact HAB.out
  have LA := Aside0.mk (load_act ((S.out.below.cell (AB 0)).trans k0.out) ((S.out.below.cell (AB 1)).trans k1.out) ((S.out.below.cell (AB 2)).trans k2.out))
  have HT0 := Aside0.mk (heap_alloc_last w (.cells #[.int .i64 d, .int .i64 j, .int .u64 u] 30))
  have ST0 := Aside0.mk (S.out.keep ((Below.refl w.heap.size w).alloc (Nat.le_refl _) (.cells #[.int .i64 d, .int .i64 j, .int .u64 u] 30)))
  have HR : Aside0 (w.heap.size ≠ p ∧ w.heap.size ≠ b1 ∧ w.heap.size ≠ b2 ∧ w.heap.size ≠ q) := ⟨by have h1 := blk_lt S.out.ref.head; obtain ⟨h2, h3, h4⟩ := S.out.ord; refine ⟨?_, ?_, ?_, ?_⟩ <;> omega⟩
  clear AB
  go_upto_region 8 with (refine Great.wpList_readTo rfl (some 38) rfl (.agg #[.int .i64 d, .int .i64 j, .int .u64 u]) (exec_load rfl LA.out) ?_)
  generalize hw1 : w.alloc (.cells #[.int .i64 d, .int .i64 j, .int .u64 u] 30) = w1 at HT0 ST0 ⊢
  generalize w.heap.size = r at HT0 HR ⊢
  clear hw1
  have cd := blk_cell HT0.out 0
  have cj := blk_cell HT0.out 1
  have cu := blk_cell HT0.out 2
  have HT := HT0
  have ST := ST0
  have PLEN := P.out.len
  obtain ⟨ov, hov⟩ : ∃ ov, l.find? (fun g => decide (g.1 = j)) = ov := ⟨_, rfl⟩
  have OV := Aside0.mk hov
  clear hov
  go_upto_region 19 with (first
    | (go_at_call 19; refine (rdrop_calls (num := j) SA.out.ref (by omega) SA.out.qlt).mono ?_; rintro e wb ⟨vb, rfl, hT, hb, hf, hz⟩; rw [OV.out, foundV_fv]; have SB := SA.out.onRef hT hb; have hbx := (Below.refl wb.heap.size wb).alloc (Nat.le_refl _) (.cells (fcs (ov.getD (0, 0, 0)) ov.isSome) 53); have ST := Aside0.mk (SB.keep hbx); have HT1 := (hf r (blk_lt HTA.out) HR.out.2.2.2).trans HTA.out; have HT := Aside0.mk ((hbx.block r (blk_lt HT1)).trans HT1); have H13 := Aside0.mk (heap_alloc_last wb (.cells (fcs (ov.getD (0, 0, 0)) ov.isSome) 53)); have cj1 := blk_cell HT.out 1; have c131 := blk_cell H13.out 1; have c133 := blk_cell H13.out 3; clear hT hb hf hz SB hbx HT1; dsimp only)
    | (go_at_call 10; refine (drop_found ST0.out.tab P.out.up WJ.out OV.out).mono ?_; rintro e wa ⟨rfl, hT, hb, hf⟩; have SA := Aside0.mk (ST0.out.onTab hT hb hf); have HTA := Aside0.mk ((hf r (blk_lt HT0.out) HR.out.1 HR.out.2.1 HR.out.2.2.1).trans HT0.out); have cj0 := blk_cell HTA.out 1; clear hT hb hf; dsimp only)
    | (go_at_call 11; refine (HM.out _).mono ?_; rintro e z ⟨hz, rfl⟩; obtain rfl := hz.symm; dsimp only))
  obtain ⟨ov1, hov1⟩ : ∃ ov, (l.filter (fun (x : G3) => decide (x.1 ≠ j))).find? (fun g => decide (g.1 = j)) = ov := ⟨_, rfl⟩
  obtain ⟨ov2, hov2⟩ : ∃ ov, (l.filter (fun (x : G3) => decide (x.1 ≠ j))).find? (fun g => decide (g.2.1 = j)) = ov := ⟨_, rfl⟩
  have OV1 := Aside0.mk hov1
  have OV2 := Aside0.mk hov2
  have PX := Aside0.mk (P.out.filter (fun (x : G3) => decide (x.1 ≠ j)))
  have NX : (l.filter (fun (x : G3) => decide (x.1 ≠ j))).length ≤ 60 := by have := PX.out.len; omega
  clear hov1 hov2
  have cj := blk_cell HT.out 1
  go_upto_region 26 with (first
    | (go_at_call 17; refine (of_any SG.out.tab WJ.out OV2.out).mono ?_; rintro e z ⟨hz, rfl⟩; obtain rfl := hz.symm; dsimp only)
    | (go_at_call 14; refine (look_any ST.out.tab WJ.out OV1.out).mono ?_; rintro e wa ⟨hb0, rfl⟩; have hb := hb0.alloc hb0.size (.cells #[.int .i64 (ov1.getD (0, 0, 0)).1, .int .i64 (ov1.getD (0, 0, 0)).2.1, .int .u64 (ov1.getD (0, 0, 0)).2.2] 38); have SG := Aside0.mk (ST.out.keep hb); have HAG := Aside0.mk ((hb.block r (blk_lt HT.out)).trans HT.out); have HG := Aside0.mk (heap_alloc_last wa (.cells #[.int .i64 (ov1.getD (0, 0, 0)).1, .int .i64 (ov1.getD (0, 0, 0)).2.1, .int .u64 (ov1.getD (0, 0, 0)).2.2] 38)); have cj2 := blk_cell HAG.out 1; clear hb hb0; dsimp only))
  refine plays26 (l := l.filter (fun (x : G3) => decide (x.1 ≠ j))) (q := q) (r := r) (j := j) (ga := ov1.getD (0, 0, 0)) (gb := ov2.getD (0, 0, 0)) (ok1 := ov1.isSome) (ok2 := ov2.isSome) rfl ?_ SG.out.ref (by omega) ⟨blk_cell HAG.out 1⟩ ⟨by rw [OV1.out, foundV_fv]⟩ ⟨by rw [OV2.out, foundV_fv]⟩ ?_
  · exact ⟨fun _ _ _ _ _ h => hPQ.out _ _ _ _ _ h⟩
  intro w6 r8 r9 z122 z123 z124 z125 z126 z127 z128 z129 h8 h9 hB6
  have S6 := Aside0.mk (SG.out.keep hB6)
  have H8 := Aside0.mk h8
  have H9 := Aside0.mk h9
  have HG6 := Aside0.mk ((hB6.block _ (blk_lt HG.out)).trans HG.out)
  clear h8 h9 hB6
  go_upto_region 27 with fail
  obtain ⟨A6, cap6, hv6⟩ := S6.out.ref.row.sl
  have S6' := S6.out
  rw [hv6] at S6'
  refine plays27 rfl ?_ S6' (by omega) HG6 H8 H9 ?_
  · exact ⟨fun _ _ _ _ _ h => hPQ.out _ _ _ _ _ h⟩
  intro w7 z130 z131 z132 z133 z134 z135 z136 z137 z138 z139 z140 z141 z142 z143 z144 z145 z146 z147 z148 z149 z150 z151 z152 z153 z154 z155 z156 z157 z158 z159 z160 z161 z162 z163 z164 z165 z166 z167 z168 z169 z170 z171 hB7
  have S7 := Aside0.mk (S6'.keep hB7)
  clear hB7 S6' hv6
  go_wp2
  exact hcont.out _ _ _ _ _ _ _ _ _ _ _ _ _ _ _ _ _ _ _ _ _ _ _ _ _ _ _ _ _ _ _ _ _ _ _ _ _ _ _ _ _ _ _ _ _ _ _ _ _ _ _ _ _ _ _ _ _ _ _ _ _ _ _ _ _ _ _ _ _ _ _ _ _ _ _ _ _ _ _ _ _ _ _ _ _ _ _ _ _ _ _ _ _ _ _ _ _ _ _ _ _ _ _ _ _ _ _ _ _ _ _ _ _ _ _ _ _ _ _ _ _ _ _ _ _ _ _ _ _ _ _ _ _ _ _ _ _ _ _ _ _ _ _ _ _ _ _ _ _ _ _ _ _ _ _ _ _ _ _ _ _ _ _ _ _ _ _ _ _ _ _ _ _ _ S7.out PX.out
set_option maxRecDepth 100000 in
set_option maxHeartbeats 8000000 in
theorem plays_over {w0 w : World} {a : Addr} {LN cap p b1 b2 q m i : Nat} {n d j u : Int} {l : List G3} {v : Value} {Q : Exit → Act → World → Prop} {N : Nat} {c0 c1 c2 c3 c4 body : Code} {z0 : Nat}  {x1 x6 x7 x8 x9 x10 x11 x12 x13 x14 x15 x16 x17 x18 x19 x20 x21 x22 x23 x24 x25 x26 x27 x28 x29 x30 x31 x32 x33 x34 x35 x36 x37 x38 x39 x40 x41 x42 x43 x44 x45 x46 x47 x48 x49 x50 x51 x52 x53 x54 x55 x56 x57 x58 x59 x60 x61 x62 x63 x64 x65 x66 x67 x68 x69 x70 x71 x72 x73 x74 x75 x76 x77 x78 x79 x80 x81 x82 x83 x84 x85 x86 x87 x88 x89 x90 x91 x92 x93 x94 x95 x96 x97 x98 x99 x100 x101 x102 x103 x104 x105 x106 x107 x108 x109 x110 x111 x112 x113 x114 x115 x116 x117 x118 x119 x120 x121 x122 x123 x124 x125 x126 x127 x128 x129 x130 x131 x132 x133 x134 x135 x136 x137 x138 x139 x140 x141 x142 x143 x144 x145 x146 x147 x148 x149 x150 x151 x152 x153 x154 x155 x156 x157 x158 x159 x160 x161 x162 x163 x164 x165 x166 x167 x168 x169 x170 x171 x172 x173 : Value}
    (hB : Try.f6.body = some (.seq c0 (.seq c1 (.seq c2 (.seq (.seq c3 (.block z0 (.loop body))) c4))))) (hPQ : Aside0 (∀ c a d v w, Q (.panic c) (a.put d v) w → Q (.panic c) a w)) (S : Aside0 (PS w0 w p b1 b2 q m n l n l v)) (P : Aside0 (PI i m n l)) (k0 : Aside0 (w0.cell? (a.add (i * 3 + 0)) = some (.int .i64 d))) (k1 : Aside0 (w0.cell? (a.add (i * 3 + 1)) = some (.int .i64 j))) (k2 : Aside0 (w0.cell? (a.add (i * 3 + 2)) = some (.int .u64 u))) (HAB : Aside0 (a.block < w0.heap.size)) (WD : Aside0 ((Lit.int .i64 d).wf = true)) (WJ : Aside0 ((Lit.int .i64 j).wf = true)) (hi : i < LN) (hl : i < 60) (hlc : LN ≤ maxLen) (HM : Aside0 (∀ w : World, Calls Try.prog 11 #[.int .i64 d, .int .i64 6] w fun e w' => w' = w ∧ e = .returned (.int .i64 4)))
    (cont : ∀ (w' : World) (m' : Nat) (n' : Int) (l' : List G3) (v' : Value) (y1 y6 y7 y8 y9 y10 y11 y12 y13 y14 y15 y16 y17 y18 y19 y20 y21 y22 y23 y24 y25 y26 y27 y28 y29 y30 y31 y32 y33 y34 y35 y36 y37 y38 y39 y40 y41 y42 y43 y44 y45 y46 y47 y48 y49 y50 y51 y52 y53 y54 y55 y56 y57 y58 y59 y60 y61 y62 y63 y64 y65 y66 y67 y68 y69 y70 y71 y72 y73 y74 y75 y76 y77 y78 y79 y80 y81 y82 y83 y84 y85 y86 y87 y88 y89 y90 y91 y92 y93 y94 y95 y96 y97 y98 y99 y100 y101 y102 y103 y104 y105 y106 y107 y108 y109 y110 y111 y112 y113 y114 y115 y116 y117 y118 y119 y120 y121 y122 y123 y124 y125 y126 y127 y128 y129 y130 y131 y132 y133 y134 y135 y136 y137 y138 y139 y140 y141 y142 y143 y144 y145 y146 y147 y148 y149 y150 y151 y152 y153 y154 y155 y156 y157 y158 y159 y160 y161 y162 y163 y164 y165 y166 y167 y168 y169 y170 y171 y172 y173 : Value), PS w0 w' p b1 b2 q m' n' l' n' l' v' → PI (i + 1) m' n' l' → Code.rounds Try.prog body Q N ⟨#[.slice (some a) LN cap, y1, .bool false, .pointer (some ⟨p, 0, none⟩), .pointer (some ⟨q, 0, none⟩), .int .i64 (i + 1), y6, y7, y8, y9, y10, y11, y12, y13, y14, y15, y16, y17, y18, y19, y20, y21, y22, y23, y24, y25, y26, y27, y28, y29, y30, y31, y32, y33, y34, y35, y36, y37, y38, y39, y40, y41, y42, y43, y44, y45, y46, y47, y48, y49, y50, y51, y52, y53, y54, y55, y56, y57, y58, y59, y60, y61, y62, y63, y64, y65, y66, y67, y68, y69, y70, y71, y72, y73, y74, y75, y76, y77, y78, y79, y80, y81, y82, y83, y84, y85, y86, y87, y88, y89, y90, y91, y92, y93, y94, y95, y96, y97, y98, y99, y100, y101, y102, y103, y104, y105, y106, y107, y108, y109, y110, y111, y112, y113, y114, y115, y116, y117, y118, y119, y120, y121, y122, y123, y124, y125, y126, y127, y128, y129, y130, y131, y132, y133, y134, y135, y136, y137, y138, y139, y140, y141, y142, y143, y144, y145, y146, y147, y148, y149, y150, y151, y152, y153, y154, y155, y156, y157, y158, y159, y160, y161, y162, y163, y164, y165, y166, y167, y168, y169, y170, y171, y172, y173], []⟩ w') :
    Code.rounds Try.prog body Q (N + 1) ⟨#[.slice (some a) LN cap, x1, .bool false, .pointer (some ⟨p, 0, none⟩), .pointer (some ⟨q, 0, none⟩), .int .i64 i, x6, x7, x8, x9, x10, x11, x12, x13, x14, x15, x16, x17, x18, x19, x20, x21, x22, x23, x24, x25, x26, x27, x28, x29, x30, x31, x32, x33, x34, x35, x36, x37, x38, x39, x40, x41, x42, x43, x44, x45, x46, x47, x48, x49, x50, x51, x52, x53, x54, x55, x56, x57, x58, x59, x60, x61, x62, x63, x64, x65, x66, x67, x68, x69, x70, x71, x72, x73, x74, x75, x76, x77, x78, x79, x80, x81, x82, x83, x84, x85, x86, x87, x88, x89, x90, x91, x92, x93, x94, x95, x96, x97, x98, x99, x100, x101, x102, x103, x104, x105, x106, x107, x108, x109, x110, x111, x112, x113, x114, x115, x116, x117, x118, x119, x120, x121, x122, x123, x124, x125, x126, x127, x128, x129, x130, x131, x132, x133, x134, x135, x136, x137, x138, x139, x140, x141, x142, x143, x144, x145, x146, x147, x148, x149, x150, x151, x152, x153, x154, x155, x156, x157, x158, x159, x160, x161, x162, x163, x164, x165, x166, x167, x168, x169, x170, x171, x172, x173], []⟩ w := by
  have hbody := plays_body0 rfl hB
  clear hB
  subst hbody
  have hcont := Aside0.mk cont
  clear cont
  rw [rounds_succ]
  unfold maxLen at hlc
  have AB : ∀ z, (a.add (i * 3 + z)).block < w0.heap.size := fun z => by rw [addr_block3]; exact HAB.out
  have LA := Aside0.mk (load_act ((S.out.below.cell (AB 0)).trans k0.out) ((S.out.below.cell (AB 1)).trans k1.out) ((S.out.below.cell (AB 2)).trans k2.out))
  have HT0 := Aside0.mk (heap_alloc_last w (.cells #[.int .i64 d, .int .i64 j, .int .u64 u] 30))
  have ST0 := Aside0.mk (S.out.keep ((Below.refl w.heap.size w).alloc (Nat.le_refl _) (.cells #[.int .i64 d, .int .i64 j, .int .u64 u] 30)))
  have HR : Aside0 (w.heap.size ≠ p ∧ w.heap.size ≠ b1 ∧ w.heap.size ≠ b2 ∧ w.heap.size ≠ q) := ⟨by have h1 := blk_lt S.out.ref.head; obtain ⟨h2, h3, h4⟩ := S.out.ord; refine ⟨?_, ?_, ?_, ?_⟩ <;> omega⟩
  clear AB
  go_upto_region 8 with (refine Great.wpList_readTo rfl (some 38) rfl (.agg #[.int .i64 d, .int .i64 j, .int .u64 u]) (exec_load rfl LA.out) ?_)
  generalize hw1 : w.alloc (.cells #[.int .i64 d, .int .i64 j, .int .u64 u] 30) = w1 at HT0 ST0 ⊢
  generalize w.heap.size = r at HT0 HR ⊢
  clear hw1
  have cd := blk_cell HT0.out 0
  have cj := blk_cell HT0.out 1
  have cu := blk_cell HT0.out 2
  have HT := HT0
  have ST := ST0
  have PLEN := P.out.len
  go_upto_region 22 with (go_at_call 11; refine (HM.out _).mono ?_; rintro e z ⟨hz, rfl⟩; obtain rfl := hz.symm; dsimp only)
  refine plays22 (r := r) (d := d) (j := j) (u := u) rfl ?_ ST0.out (by omega) P.out.up HT0 HR ?_
  · exact ⟨fun _ _ _ _ _ h => hPQ.out _ _ _ _ _ h⟩
  intro w3 v3 z98 z99 z100 z101 z102 z103 z104 z105 z106 hS hH
  have ST := Aside0.mk hS
  have HT := Aside0.mk hH
  clear hS hH cd cj cu
  obtain ⟨ov1, hov1⟩ : ∃ ov, (l.filter (fun x => !due u x)).find? (fun g => decide (g.1 = j)) = ov := ⟨_, rfl⟩
  obtain ⟨ov2, hov2⟩ : ∃ ov, (l.filter (fun x => !due u x)).find? (fun g => decide (g.2.1 = j)) = ov := ⟨_, rfl⟩
  have OV1 := Aside0.mk hov1
  have OV2 := Aside0.mk hov2
  have PX := Aside0.mk (P.out.filter (fun x => !due u x))
  have NX : (l.filter (fun x => !due u x)).length ≤ 60 := by have := PX.out.len; omega
  clear hov1 hov2
  have cj := blk_cell HT.out 1
  go_upto_region 26 with (first
    | (go_at_call 17; refine (of_any SG.out.tab WJ.out OV2.out).mono ?_; rintro e z ⟨hz, rfl⟩; obtain rfl := hz.symm; dsimp only)
    | (go_at_call 14; refine (look_any ST.out.tab WJ.out OV1.out).mono ?_; rintro e wa ⟨hb0, rfl⟩; have hb := hb0.alloc hb0.size (.cells #[.int .i64 (ov1.getD (0, 0, 0)).1, .int .i64 (ov1.getD (0, 0, 0)).2.1, .int .u64 (ov1.getD (0, 0, 0)).2.2] 38); have SG := Aside0.mk (ST.out.keep hb); have HAG := Aside0.mk ((hb.block r (blk_lt HT.out)).trans HT.out); have HG := Aside0.mk (heap_alloc_last wa (.cells #[.int .i64 (ov1.getD (0, 0, 0)).1, .int .i64 (ov1.getD (0, 0, 0)).2.1, .int .u64 (ov1.getD (0, 0, 0)).2.2] 38)); have cj2 := blk_cell HAG.out 1; clear hb hb0; dsimp only))
  refine plays26 (l := l.filter (fun x => !due u x)) (q := q) (r := r) (j := j) (ga := ov1.getD (0, 0, 0)) (gb := ov2.getD (0, 0, 0)) (ok1 := ov1.isSome) (ok2 := ov2.isSome) rfl ?_ SG.out.ref (by omega) ⟨blk_cell HAG.out 1⟩ ⟨by rw [OV1.out, foundV_fv]⟩ ⟨by rw [OV2.out, foundV_fv]⟩ ?_
  · exact ⟨fun _ _ _ _ _ h => hPQ.out _ _ _ _ _ h⟩
  intro w6 r8 r9 z122 z123 z124 z125 z126 z127 z128 z129 h8 h9 hB6
  have S6 := Aside0.mk (SG.out.keep hB6)
  have H8 := Aside0.mk h8
  have H9 := Aside0.mk h9
  have HG6 := Aside0.mk ((hB6.block _ (blk_lt HG.out)).trans HG.out)
  clear h8 h9 hB6
  go_upto_region 27 with fail
  obtain ⟨A6, cap6, hv6⟩ := S6.out.ref.row.sl
  have S6' := S6.out
  rw [hv6] at S6'
  refine plays27 rfl ?_ S6' (by omega) HG6 H8 H9 ?_
  · exact ⟨fun _ _ _ _ _ h => hPQ.out _ _ _ _ _ h⟩
  intro w7 z130 z131 z132 z133 z134 z135 z136 z137 z138 z139 z140 z141 z142 z143 z144 z145 z146 z147 z148 z149 z150 z151 z152 z153 z154 z155 z156 z157 z158 z159 z160 z161 z162 z163 z164 z165 z166 z167 z168 z169 z170 z171 hB7
  have S7 := Aside0.mk (S6'.keep hB7)
  clear hB7 S6' hv6
  go_wp2
  exact hcont.out _ _ _ _ _ _ _ _ _ _ _ _ _ _ _ _ _ _ _ _ _ _ _ _ _ _ _ _ _ _ _ _ _ _ _ _ _ _ _ _ _ _ _ _ _ _ _ _ _ _ _ _ _ _ _ _ _ _ _ _ _ _ _ _ _ _ _ _ _ _ _ _ _ _ _ _ _ _ _ _ _ _ _ _ _ _ _ _ _ _ _ _ _ _ _ _ _ _ _ _ _ _ _ _ _ _ _ _ _ _ _ _ _ _ _ _ _ _ _ _ _ _ _ _ _ _ _ _ _ _ _ _ _ _ _ _ _ _ _ _ _ _ _ _ _ _ _ _ _ _ _ _ _ _ _ _ _ _ _ _ _ _ _ _ _ _ _ _ _ _ _ _ _ _ S7.out PX.out
set_option maxRecDepth 100000 in
set_option maxHeartbeats 8000000 in
theorem plays_idle {w0 w : World} {a : Addr} {LN cap p b1 b2 q m i : Nat} {n d j u : Int} {l : List G3} {v : Value} {Q : Exit → Act → World → Prop} {N : Nat} {c0 c1 c2 c3 c4 body : Code} {z0 : Nat}  {x1 x6 x7 x8 x9 x10 x11 x12 x13 x14 x15 x16 x17 x18 x19 x20 x21 x22 x23 x24 x25 x26 x27 x28 x29 x30 x31 x32 x33 x34 x35 x36 x37 x38 x39 x40 x41 x42 x43 x44 x45 x46 x47 x48 x49 x50 x51 x52 x53 x54 x55 x56 x57 x58 x59 x60 x61 x62 x63 x64 x65 x66 x67 x68 x69 x70 x71 x72 x73 x74 x75 x76 x77 x78 x79 x80 x81 x82 x83 x84 x85 x86 x87 x88 x89 x90 x91 x92 x93 x94 x95 x96 x97 x98 x99 x100 x101 x102 x103 x104 x105 x106 x107 x108 x109 x110 x111 x112 x113 x114 x115 x116 x117 x118 x119 x120 x121 x122 x123 x124 x125 x126 x127 x128 x129 x130 x131 x132 x133 x134 x135 x136 x137 x138 x139 x140 x141 x142 x143 x144 x145 x146 x147 x148 x149 x150 x151 x152 x153 x154 x155 x156 x157 x158 x159 x160 x161 x162 x163 x164 x165 x166 x167 x168 x169 x170 x171 x172 x173 : Value}
    (hB : Try.f6.body = some (.seq c0 (.seq c1 (.seq c2 (.seq (.seq c3 (.block z0 (.loop body))) c4))))) (hPQ : Aside0 (∀ c a d v w, Q (.panic c) (a.put d v) w → Q (.panic c) a w)) (S : Aside0 (PS w0 w p b1 b2 q m n l n l v)) (P : Aside0 (PI i m n l)) (k0 : Aside0 (w0.cell? (a.add (i * 3 + 0)) = some (.int .i64 d))) (k1 : Aside0 (w0.cell? (a.add (i * 3 + 1)) = some (.int .i64 j))) (k2 : Aside0 (w0.cell? (a.add (i * 3 + 2)) = some (.int .u64 u))) (HAB : Aside0 (a.block < w0.heap.size)) (WD : Aside0 ((Lit.int .i64 d).wf = true)) (WJ : Aside0 ((Lit.int .i64 j).wf = true)) (hi : i < LN) (hl : i < 60) (hlc : LN ≤ maxLen) (HM : Aside0 (∀ w : World, Calls Try.prog 11 #[.int .i64 d, .int .i64 6] w fun e w' => w' = w ∧ e = .returned (.int .i64 5)))
    (cont : ∀ (w' : World) (m' : Nat) (n' : Int) (l' : List G3) (v' : Value) (y1 y6 y7 y8 y9 y10 y11 y12 y13 y14 y15 y16 y17 y18 y19 y20 y21 y22 y23 y24 y25 y26 y27 y28 y29 y30 y31 y32 y33 y34 y35 y36 y37 y38 y39 y40 y41 y42 y43 y44 y45 y46 y47 y48 y49 y50 y51 y52 y53 y54 y55 y56 y57 y58 y59 y60 y61 y62 y63 y64 y65 y66 y67 y68 y69 y70 y71 y72 y73 y74 y75 y76 y77 y78 y79 y80 y81 y82 y83 y84 y85 y86 y87 y88 y89 y90 y91 y92 y93 y94 y95 y96 y97 y98 y99 y100 y101 y102 y103 y104 y105 y106 y107 y108 y109 y110 y111 y112 y113 y114 y115 y116 y117 y118 y119 y120 y121 y122 y123 y124 y125 y126 y127 y128 y129 y130 y131 y132 y133 y134 y135 y136 y137 y138 y139 y140 y141 y142 y143 y144 y145 y146 y147 y148 y149 y150 y151 y152 y153 y154 y155 y156 y157 y158 y159 y160 y161 y162 y163 y164 y165 y166 y167 y168 y169 y170 y171 y172 y173 : Value), PS w0 w' p b1 b2 q m' n' l' n' l' v' → PI (i + 1) m' n' l' → Code.rounds Try.prog body Q N ⟨#[.slice (some a) LN cap, y1, .bool false, .pointer (some ⟨p, 0, none⟩), .pointer (some ⟨q, 0, none⟩), .int .i64 (i + 1), y6, y7, y8, y9, y10, y11, y12, y13, y14, y15, y16, y17, y18, y19, y20, y21, y22, y23, y24, y25, y26, y27, y28, y29, y30, y31, y32, y33, y34, y35, y36, y37, y38, y39, y40, y41, y42, y43, y44, y45, y46, y47, y48, y49, y50, y51, y52, y53, y54, y55, y56, y57, y58, y59, y60, y61, y62, y63, y64, y65, y66, y67, y68, y69, y70, y71, y72, y73, y74, y75, y76, y77, y78, y79, y80, y81, y82, y83, y84, y85, y86, y87, y88, y89, y90, y91, y92, y93, y94, y95, y96, y97, y98, y99, y100, y101, y102, y103, y104, y105, y106, y107, y108, y109, y110, y111, y112, y113, y114, y115, y116, y117, y118, y119, y120, y121, y122, y123, y124, y125, y126, y127, y128, y129, y130, y131, y132, y133, y134, y135, y136, y137, y138, y139, y140, y141, y142, y143, y144, y145, y146, y147, y148, y149, y150, y151, y152, y153, y154, y155, y156, y157, y158, y159, y160, y161, y162, y163, y164, y165, y166, y167, y168, y169, y170, y171, y172, y173], []⟩ w') :
    Code.rounds Try.prog body Q (N + 1) ⟨#[.slice (some a) LN cap, x1, .bool false, .pointer (some ⟨p, 0, none⟩), .pointer (some ⟨q, 0, none⟩), .int .i64 i, x6, x7, x8, x9, x10, x11, x12, x13, x14, x15, x16, x17, x18, x19, x20, x21, x22, x23, x24, x25, x26, x27, x28, x29, x30, x31, x32, x33, x34, x35, x36, x37, x38, x39, x40, x41, x42, x43, x44, x45, x46, x47, x48, x49, x50, x51, x52, x53, x54, x55, x56, x57, x58, x59, x60, x61, x62, x63, x64, x65, x66, x67, x68, x69, x70, x71, x72, x73, x74, x75, x76, x77, x78, x79, x80, x81, x82, x83, x84, x85, x86, x87, x88, x89, x90, x91, x92, x93, x94, x95, x96, x97, x98, x99, x100, x101, x102, x103, x104, x105, x106, x107, x108, x109, x110, x111, x112, x113, x114, x115, x116, x117, x118, x119, x120, x121, x122, x123, x124, x125, x126, x127, x128, x129, x130, x131, x132, x133, x134, x135, x136, x137, x138, x139, x140, x141, x142, x143, x144, x145, x146, x147, x148, x149, x150, x151, x152, x153, x154, x155, x156, x157, x158, x159, x160, x161, x162, x163, x164, x165, x166, x167, x168, x169, x170, x171, x172, x173], []⟩ w := by
  have hbody := plays_body0 rfl hB
  clear hB
  subst hbody
  have hcont := Aside0.mk cont
  clear cont
  rw [rounds_succ]
  unfold maxLen at hlc
  have AB : ∀ z, (a.add (i * 3 + z)).block < w0.heap.size := fun z => by rw [addr_block3]; exact HAB.out
  have LA := Aside0.mk (load_act ((S.out.below.cell (AB 0)).trans k0.out) ((S.out.below.cell (AB 1)).trans k1.out) ((S.out.below.cell (AB 2)).trans k2.out))
  have HT0 := Aside0.mk (heap_alloc_last w (.cells #[.int .i64 d, .int .i64 j, .int .u64 u] 30))
  have ST0 := Aside0.mk (S.out.keep ((Below.refl w.heap.size w).alloc (Nat.le_refl _) (.cells #[.int .i64 d, .int .i64 j, .int .u64 u] 30)))
  have HR : Aside0 (w.heap.size ≠ p ∧ w.heap.size ≠ b1 ∧ w.heap.size ≠ b2 ∧ w.heap.size ≠ q) := ⟨by have h1 := blk_lt S.out.ref.head; obtain ⟨h2, h3, h4⟩ := S.out.ord; refine ⟨?_, ?_, ?_, ?_⟩ <;> omega⟩
  clear AB
  go_upto_region 8 with (refine Great.wpList_readTo rfl (some 38) rfl (.agg #[.int .i64 d, .int .i64 j, .int .u64 u]) (exec_load rfl LA.out) ?_)
  generalize hw1 : w.alloc (.cells #[.int .i64 d, .int .i64 j, .int .u64 u] 30) = w1 at HT0 ST0 ⊢
  generalize w.heap.size = r at HT0 HR ⊢
  clear hw1
  have cd := blk_cell HT0.out 0
  have cj := blk_cell HT0.out 1
  have cu := blk_cell HT0.out 2
  have HT := HT0
  have ST := ST0
  have PLEN := P.out.len
  go_upto_region 24 with (go_at_call 11; refine (HM.out _).mono ?_; rintro e z ⟨hz, rfl⟩; obtain rfl := hz.symm; dsimp only)
  obtain ⟨ov1, hov1⟩ : ∃ ov, (l).find? (fun g => decide (g.1 = j)) = ov := ⟨_, rfl⟩
  obtain ⟨ov2, hov2⟩ : ∃ ov, (l).find? (fun g => decide (g.2.1 = j)) = ov := ⟨_, rfl⟩
  have OV1 := Aside0.mk hov1
  have OV2 := Aside0.mk hov2
  have PX := Aside0.mk (P.out.next)
  have NX : (l).length ≤ 60 := by have := PX.out.len; omega
  clear hov1 hov2
  have cj := blk_cell HT.out 1
  go_upto_region 26 with (first
    | (go_at_call 17; refine (of_any SG.out.tab WJ.out OV2.out).mono ?_; rintro e z ⟨hz, rfl⟩; obtain rfl := hz.symm; dsimp only)
    | (go_at_call 14; refine (look_any ST.out.tab WJ.out OV1.out).mono ?_; rintro e wa ⟨hb0, rfl⟩; have hb := hb0.alloc hb0.size (.cells #[.int .i64 (ov1.getD (0, 0, 0)).1, .int .i64 (ov1.getD (0, 0, 0)).2.1, .int .u64 (ov1.getD (0, 0, 0)).2.2] 38); have SG := Aside0.mk (ST.out.keep hb); have HAG := Aside0.mk ((hb.block r (blk_lt HT.out)).trans HT.out); have HG := Aside0.mk (heap_alloc_last wa (.cells #[.int .i64 (ov1.getD (0, 0, 0)).1, .int .i64 (ov1.getD (0, 0, 0)).2.1, .int .u64 (ov1.getD (0, 0, 0)).2.2] 38)); have cj2 := blk_cell HAG.out 1; clear hb hb0; dsimp only))
  refine plays26 (l := l) (q := q) (r := r) (j := j) (ga := ov1.getD (0, 0, 0)) (gb := ov2.getD (0, 0, 0)) (ok1 := ov1.isSome) (ok2 := ov2.isSome) rfl ?_ SG.out.ref (by omega) ⟨blk_cell HAG.out 1⟩ ⟨by rw [OV1.out, foundV_fv]⟩ ⟨by rw [OV2.out, foundV_fv]⟩ ?_
  · exact ⟨fun _ _ _ _ _ h => hPQ.out _ _ _ _ _ h⟩
  intro w6 r8 r9 z122 z123 z124 z125 z126 z127 z128 z129 h8 h9 hB6
  have S6 := Aside0.mk (SG.out.keep hB6)
  have H8 := Aside0.mk h8
  have H9 := Aside0.mk h9
  have HG6 := Aside0.mk ((hB6.block _ (blk_lt HG.out)).trans HG.out)
  clear h8 h9 hB6
  go_upto_region 27 with fail
  obtain ⟨A6, cap6, hv6⟩ := S6.out.ref.row.sl
  have S6' := S6.out
  rw [hv6] at S6'
  refine plays27 rfl ?_ S6' (by omega) HG6 H8 H9 ?_
  · exact ⟨fun _ _ _ _ _ h => hPQ.out _ _ _ _ _ h⟩
  intro w7 z130 z131 z132 z133 z134 z135 z136 z137 z138 z139 z140 z141 z142 z143 z144 z145 z146 z147 z148 z149 z150 z151 z152 z153 z154 z155 z156 z157 z158 z159 z160 z161 z162 z163 z164 z165 z166 z167 z168 z169 z170 z171 hB7
  have S7 := Aside0.mk (S6'.keep hB7)
  clear hB7 S6' hv6
  go_wp2
  exact hcont.out _ _ _ _ _ _ _ _ _ _ _ _ _ _ _ _ _ _ _ _ _ _ _ _ _ _ _ _ _ _ _ _ _ _ _ _ _ _ _ _ _ _ _ _ _ _ _ _ _ _ _ _ _ _ _ _ _ _ _ _ _ _ _ _ _ _ _ _ _ _ _ _ _ _ _ _ _ _ _ _ _ _ _ _ _ _ _ _ _ _ _ _ _ _ _ _ _ _ _ _ _ _ _ _ _ _ _ _ _ _ _ _ _ _ _ _ _ _ _ _ _ _ _ _ _ _ _ _ _ _ _ _ _ _ _ _ _ _ _ _ _ _ _ _ _ _ _ _ _ _ _ _ _ _ _ _ _ _ _ _ _ _ _ _ _ _ _ _ _ _ _ _ _ _ S7.out PX.out
end Go.Proofs.Ytikbgoppmailjaa.H
