import Derived.Test.YtikbgoppmailjaaHLs8
import Derived.LoopN
/- LeaseOnce: a job has one lease at most; its number finds it, and it the number; dropped, neither does, and the next one has another number. -/
namespace Go.Proofs.Ytikbgoppmailjaa.H
open Go.RowKit Go.HK Go.Maps Go.WideShapes Go.ChangeShapes Go.Proofs.YtikbgoppmailjaaW.PrintWords Go.Proofs.YtikbgoppmailjaaW.PrintLast Go.Proofs.YtikbgoppmailjaaW.PrintMore
set_option linter.unusedVariables false
set_option linter.unusedSimpArgs false
theorem once_body {r0 c1 r3 c4 r6 r7 body rt r0' c1' r3' c4' r6' r7' body' rt' : Code} {q q' : Nat} (h : Try.f5.body = some (.seq r0 (.seq c1 (.seq r3 (.seq c4 (.seq r6 (.seq (.seq r7 (.block q (.loop body))) rt))))))) (h' : Try.f5.body = some (.seq r0' (.seq c1' (.seq r3' (.seq c4' (.seq r6' (.seq (.seq r7' (.block q' (.loop body'))) rt'))))))) : body' = body := by
  rw [h] at h'
  injection h' with h'
  injection h' with _ h'
  injection h' with _ h'
  injection h' with _ h'
  injection h' with _ h'
  injection h' with _ h'
  injection h' with h1 _
  injection h1 with _ h1
  injection h1 with _ h1
  injection h1 with h1
  exact h1.symm
theorem addr_block (a : Addr) (i : Nat) : (a.add i).block = a.block := by cases a; unfold Addr.add; split <;> rfl
theorem lit_inj {c c' : Int} (h : (DataW.lit (.int .i64 c) : DataW Unit) = .lit (.int .i64 c')) : c = c' := by
  injection h with h
  injection h
set_option maxRecDepth 100000 in
set_option maxHeartbeats 8000000 in
theorem once_had {w0 w : World} {a : Addr} {len cap p b1 b2 m i : Nat} {n u j : Int} {D1 D2 : DataW Unit} {K : Act → World → Prop} {R : Ending → World → Prop} {N q : Nat} {r0 c1 r3 c4 r6 r7 body rt : Code} {x2 x3 x8 x9 x10 x11 x12 x13 x14 x15 x16 x17 x18 x19 x20 x21 x22 x23 x24 x25 x26 x27 x28 x29 x30 x31 x32 x33 x34 x35 x36 x37 x38 x39 x40 x41 x42 x43 x44 x45 x46 x47 x48 x49 x50 x51 x52 x53 x54 x55 x56 x57 x58 x59 x60 x61 x62 x63 x64 x65 x66 x67 x68 x69 x70 x71 x72 x73 x74 x75 x76 x77 x78 x79 x80 x81 x82 x83 x84 x85 x86 x87 x88 x89 x90 x91 x92 x93 x94 x95 x96 x97 x98 x99 x100 x101 x102 x103 x104 x105 x106 x107 x108 x109 x110 x111 x112 x113 x114 x115 x116 x117 x118 x119 x120 x121 x122 x123 x124 x125 x126 x127 x128 x129 x130 x131 x132 x133 x134 x135 x136 x137 x138 x139 x140 x141 x142 : Value}
    (hB : Try.f5.body = some (.seq r0 (.seq c1 (.seq r3 (.seq c4 (.seq r6 (.seq (.seq r7 (.block q (.loop body))) rt))))))) (HT : Aside0 (TabAt w p n b1 b2 m D1 D2)) (HB : Aside0 (Below w0.heap.size w0 w)) (HP : Aside0 (w0.heap.size ≤ p ∧ w0.heap.size ≤ b1 ∧ w0.heap.size ≤ b2)) (HA : Aside0 (a.block < w0.heap.size)) (hj0 : w0.cell? (a.add i) = some (.int .i64 j)) (HJ : Aside0 ((Lit.int .i64 j).wf = true)) (hi : i < len) (hl : len ≤ 40) (hm : m ≤ 2 * i) (hn0 : 0 ≤ n) (hn1 : n ≤ i)
    {c : Int} (HD2 : Aside0 (has D2 (kk j) = true)) (AT2 : Aside0 (D2.atKey (kk j) (.lit (.int .i64 0)) = .lit (.int .i64 c))) (HD1 : Aside0 (has D1 (kk c) = true)) (AT1 : Aside0 (D1.atKey (kk c) (gd 0 0 0) = gd c j u))
    (cont : ∀ (w' : World) (y8 y9 y10 y11 y12 y13 y14 y15 y16 y17 y18 y19 y20 y21 y22 y23 y24 y25 y26 y27 y28 y29 y30 y31 y32 y33 y34 y35 y36 y37 y38 y39 y40 y41 y42 y43 y44 y45 y46 y47 y48 y49 y50 y51 y52 y53 y54 y55 y56 y57 y58 y59 y60 y61 y62 y63 y64 y65 y66 y67 y68 y69 y70 y71 y72 y73 y74 y75 y76 y77 y78 y79 y80 y81 y82 y83 y84 y85 y86 y87 y88 y89 y90 y91 y92 y93 y94 y95 y96 y97 y98 y99 y100 y101 y102 y103 y104 y105 y106 y107 y108 y109 y110 y111 y112 y113 y114 y115 y116 y117 y118 y119 y120 y121 y122 y123 y124 y125 y126 y127 y128 y129 y130 y131 y132 y133 y134 y135 y136 y137 y138 y139 y140 y141 y142 : Value), TabAt w' p n b1 b2 m (D1.del (kk c)) (D2.del (kk j)) → Below w0.heap.size w0 w' → Code.rounds Try.prog body (Exit.inBlock 0 (Exit.then K (bodyPost Try.prog Try.f5 R))) N ⟨#[.slice (some a) len cap, .int .u64 u, x2, x3, .bool false, .pointer (some ⟨p, 0, none⟩), .int .i64 n, .int .i64 (i + 1), y8, y9, y10, y11, y12, y13, y14, y15, y16, y17, y18, y19, y20, y21, y22, y23, y24, y25, y26, y27, y28, y29, y30, y31, y32, y33, y34, y35, y36, y37, y38, y39, y40, y41, y42, y43, y44, y45, y46, y47, y48, y49, y50, y51, y52, y53, y54, y55, y56, y57, y58, y59, y60, y61, y62, y63, y64, y65, y66, y67, y68, y69, y70, y71, y72, y73, y74, y75, y76, y77, y78, y79, y80, y81, y82, y83, y84, y85, y86, y87, y88, y89, y90, y91, y92, y93, y94, y95, y96, y97, y98, y99, y100, y101, y102, y103, y104, y105, y106, y107, y108, y109, y110, y111, y112, y113, y114, y115, y116, y117, y118, y119, y120, y121, y122, y123, y124, y125, y126, y127, y128, y129, y130, y131, y132, y133, y134, y135, y136, y137, y138, y139, y140, y141, y142], []⟩ w') :
    Code.rounds Try.prog body (Exit.inBlock 0 (Exit.then K (bodyPost Try.prog Try.f5 R))) (N + 1) ⟨#[.slice (some a) len cap, .int .u64 u, x2, x3, .bool false, .pointer (some ⟨p, 0, none⟩), .int .i64 n, .int .i64 i, x8, x9, x10, x11, x12, x13, x14, x15, x16, x17, x18, x19, x20, x21, x22, x23, x24, x25, x26, x27, x28, x29, x30, x31, x32, x33, x34, x35, x36, x37, x38, x39, x40, x41, x42, x43, x44, x45, x46, x47, x48, x49, x50, x51, x52, x53, x54, x55, x56, x57, x58, x59, x60, x61, x62, x63, x64, x65, x66, x67, x68, x69, x70, x71, x72, x73, x74, x75, x76, x77, x78, x79, x80, x81, x82, x83, x84, x85, x86, x87, x88, x89, x90, x91, x92, x93, x94, x95, x96, x97, x98, x99, x100, x101, x102, x103, x104, x105, x106, x107, x108, x109, x110, x111, x112, x113, x114, x115, x116, x117, x118, x119, x120, x121, x122, x123, x124, x125, x126, x127, x128, x129, x130, x131, x132, x133, x134, x135, x136, x137, x138, x139, x140, x141, x142], []⟩ w := by
  have hbody := once_body rfl hB
  clear hB
  subst hbody
  have cj0 := Aside0.mk hj0
  have cj := (HB.out.cell (show (a.add i).block < w0.heap.size by rw [addr_block]; exact HA.out)).trans hj0
  have HM := Aside0.mk hm
  have hcont := Aside0.mk cont
  clear hj0 hm cont
  rw [rounds_succ]
  go_upto_region 10 with fail
  go_upto_region 18 with (first
    | (go_at_call 14; refine (look_calls HT.out WC.out).mono ?_; rintro e w1 ⟨hb, a1, a2, a3, rfl, hat⟩; obtain ⟨rfl, rfl, rfl⟩ := gd_inj (AT1.out.symm.trans hat); rw [HD1.out]; have hb2 := hb.alloc hb.size (.cells #[.int .i64 c', .int .i64 j, .int .u64 u] 38); have X1 := Aside0.mk (heap_alloc_last w1 (.cells #[.int .i64 c', .int .i64 j, .int .u64 u] 38)); have T1 := Aside0.mk (HT.out.keep hb2); have B1 := Aside0.mk (HB.out.trans (hb2.mono HB.out.size)); clear hb hb2 hat)
    | (go_at_call 9; refine (grant_had HT.out HJ.out HD2.out).mono ?_; rintro e z ⟨hz, rfl⟩; obtain rfl := hz.symm)
    | (go_at_call 17; refine (of_calls HT.out HJ.out).mono ?_; rintro e z ⟨hz, c', rfl, hat, hwc⟩; obtain rfl := hz.symm; obtain rfl := lit_inj (hat.symm.trans AT2.out); rw [HD2.out]; have WC := Aside0.mk hwc; clear hat hwc))
  have k0 := blk_cell X1.out 0
  have k1 := blk_cell X1.out 1
  have k2 := blk_cell X1.out 2
  have cj := (B1.out.cell (show (a.add i).block < w0.heap.size by rw [addr_block]; exact HA.out)).trans cj0.out
  generalize w1.heap.size = g0 at X1 k0 k1 k2 ⊢
  generalize w1.alloc (.cells #[.int .i64 c', .int .i64 j, .int .u64 u] 38) = w2 at X1 T1 B1 k0 k1 k2 cj ⊢
  refine start_ (n := 13) (S := fun w' => w'.cell? ⟨g0, 0, none⟩ = some (.int .i64 c') ∧ w'.cell? ⟨g0, 1, none⟩ = some (.int .i64 j) ∧ w'.cell? ⟨g0, 2, none⟩ = some (.int .u64 u) ∧ w'.cell? (a.add i) = some (.int .i64 j)) (ds := []) #[false, false, false, false, false, false, false, false, false, false, false, false, false] (by kernel_rfl) rfl rfl ⟨k0, k1, k2, cj⟩ (fun hHeld => ?_)
  refine pure_ (i := 0) (N := some 82) (v := ?_) (a' := ?_) #[true, false, false, false, false, false, false, false, false, false, false, false, false] rfl rfl (by kernel_rfl) (fun _ _ _ h => h) (Or.inl ⟨by rfl, ?_⟩) ?_ ?_
  rotate_left
  · intro w'
    go_simp
    with_reducible rfl
  rotate_left
  · simp only [Act.put, List.setIfInBounds_toArray, List.set_cons_zero, List.set_cons_succ, i64_w, i32_w]
    rfl
  refine pure_ (i := 1) (N := some 83) (v := ?_) (a' := ?_) #[true, true, false, false, false, false, false, false, false, false, false, false, false] rfl rfl (by kernel_rfl) (fun _ _ _ h => h) (Or.inl ⟨by rfl, ?_⟩) ?_ ?_
  rotate_left
  · intro w'
    go_simp
    with_reducible rfl
  rotate_left
  · simp only [Act.put, List.setIfInBounds_toArray, List.set_cons_zero, List.set_cons_succ, i64_w, i32_w]
    rfl
  refine pure_ (i := 2) (N := some 84) (v := ?_) (a' := ?_) #[true, true, true, false, false, false, false, false, false, false, false, false, false] rfl rfl (by kernel_rfl) (fun _ _ _ h => h) (Or.inl ⟨by rfl, ?_⟩) ?_ ?_
  rotate_left
  · intro w'
    go_simp
    with_reducible rfl
  rotate_left
  · simp only [Act.put, List.setIfInBounds_toArray, List.set_cons_zero, List.set_cons_succ, i64_w, i32_w]
    rfl
  refine pure_ (i := 4) (N := some 86) (v := ?_) (a' := ?_) #[true, true, true, false, true, false, false, false, false, false, false, false, false] rfl rfl (by kernel_rfl) (fun _ _ _ h => h) (Or.inl ⟨by rfl, ?_⟩) ?_ ?_
  rotate_left
  · intro w'
    go_simp
    with_reducible rfl
  rotate_left
  · simp only [Act.put, List.setIfInBounds_toArray, List.set_cons_zero, List.set_cons_succ, i64_w, i32_w]
    rfl
  refine pure_ (i := 5) (N := some 87) (v := ?_) (a' := ?_) #[true, true, true, false, true, true, false, false, false, false, false, false, false] rfl rfl (by kernel_rfl) (fun _ _ _ h => h) (Or.inl ⟨by rfl, ?_⟩) ?_ ?_
  rotate_left
  · intro w'
    go_simp
    with_reducible rfl
  rotate_left
  · simp only [Act.put, List.setIfInBounds_toArray, List.set_cons_zero, List.set_cons_succ, i64_w, i32_w]
    rfl
  refine pure_ (i := 6) (N := some 88) (v := ?_) (a' := ?_) #[true, true, true, false, true, true, true, false, false, false, false, false, false] rfl rfl (by kernel_rfl) (fun _ _ _ h => h) (Or.inl ⟨by rfl, ?_⟩) ?_ ?_
  rotate_left
  · intro w'
    go_simp
    with_reducible rfl
  rotate_left
  · simp only [Act.put, List.setIfInBounds_toArray, List.set_cons_zero, List.set_cons_succ, i64_w, i32_w]
    rfl
  refine pure_ (i := 7) (N := some 89) (v := ?_) (a' := ?_) #[true, true, true, false, true, true, true, true, false, false, false, false, false] rfl rfl (by kernel_rfl) (fun _ _ _ h => h) (Or.inl ⟨by rfl, ?_⟩) ?_ ?_
  rotate_left
  · intro w'
    go_simp
    with_reducible rfl
  rotate_left
  · simp only [Act.put, List.setIfInBounds_toArray, List.set_cons_zero, List.set_cons_succ, i64_w, i32_w]
    rfl
  refine pure_ (i := 9) (N := some 91) (v := ?_) (a' := ?_) #[true, true, true, false, true, true, true, true, false, true, false, false, false] rfl rfl (by kernel_rfl) (fun _ _ _ h => h) (Or.inl ⟨by rfl, ?_⟩) ?_ ?_
  rotate_left
  · intro w'
    go_simp
    with_reducible rfl
  rotate_left
  · simp only [Act.put, List.setIfInBounds_toArray, List.set_cons_zero, List.set_cons_succ, i64_w, i32_w]
    rfl
  refine take_ (i := 3) (N := some 85) (v := ?_) (a' := ?_) #[true, true, true, true, true, true, true, true, false, true, false, false, false] rfl rfl (by kernel_rfl) (fun _ _ _ h => h) (Or.inl ⟨by rfl, ?_⟩) hHeld ?_ ?_
  rotate_left
  · rintro w' ⟨s0, s1, s2, s3⟩
    go_simp
    with_reducible rfl
  rotate_left
  · simp only [Act.put, List.setIfInBounds_toArray, List.set_cons_zero, List.set_cons_succ, i64_w, i32_w]
    rfl
  refine take_ (i := 8) (N := some 90) (v := ?_) (a' := ?_) #[true, true, true, true, true, true, true, true, true, true, false, false, false] rfl rfl (by kernel_rfl) (fun _ _ _ h => h) (Or.inl ⟨by rfl, ?_⟩) hHeld ?_ ?_
  rotate_left
  · rintro w' ⟨s0, s1, s2, s3⟩
    go_simp
    with_reducible rfl
  rotate_left
  · simp only [Act.put, List.setIfInBounds_toArray, List.set_cons_zero, List.set_cons_succ, i64_w, i32_w]
    rfl
  refine pure_ (i := 10) (N := some 92) (v := ?_) (a' := ?_) #[true, true, true, true, true, true, true, true, true, true, true, false, false] rfl rfl (by kernel_rfl) (fun _ _ _ h => h) (Or.inl ⟨by rfl, ?_⟩) ?_ ?_
  rotate_left
  · intro w'
    go_simp
    with_reducible rfl
  rotate_left
  · simp only [Act.put, List.setIfInBounds_toArray, List.set_cons_zero, List.set_cons_succ, i64_w, i32_w]
    rfl
  refine pure_ (i := 11) (N := some 93) (v := ?_) (a' := ?_) #[true, true, true, true, true, true, true, true, true, true, true, true, false] rfl rfl (by kernel_rfl) (fun _ _ _ h => h) (Or.inl ⟨by rfl, ?_⟩) ?_ ?_
  rotate_left
  · intro w'
    go_simp
    with_reducible rfl
  rotate_left
  · simp only [Act.put, List.setIfInBounds_toArray, List.set_cons_zero, List.set_cons_succ, i64_w, i32_w]
    rfl
  refine pure_ (i := 12) (N := some 94) (v := ?_) (a' := ?_) #[true, true, true, true, true, true, true, true, true, true, true, true, true] rfl rfl (by kernel_rfl) (fun _ _ _ h => h) (Or.inl ⟨by rfl, ?_⟩) ?_ ?_
  rotate_left
  · intro w'
    go_simp
    with_reducible rfl
  rotate_left
  · simp only [Act.put, List.setIfInBounds_toArray, List.set_cons_zero, List.set_cons_succ, i64_w, i32_w]
    rfl
  refine done_ (by kernel_rfl) ?_
  have T2 := Aside0.mk T1.out.drew
  have B2 := Aside0.mk B1.out.drew
  clear T1 B1 k0 k1 k2 cj
  go_upto_region 99 with (first
    | (go_at_call 10; refine (drop_none T4.out WC.out has_del_same).mono ?_; rintro e w6 ⟨hb, rfl⟩; have T6 := Aside0.mk (T4.out.keep hb); have B6 := Aside0.mk (B4.out.trans (hb.mono B4.out.size)); have cj6 := (B6.out.cell (show (a.add i).block < w0.heap.size by rw [addr_block]; exact HA.out)).trans cj0.out; clear hb)
    | (go_at_call 17; refine (of_calls T4.out HJ.out).mono ?_; rintro e z ⟨hz, c2, rfl, hat, hwc⟩; obtain rfl := hz.symm; rw [has_del_same]; clear hat hwc)
    | (go_at_call 14; refine (look_calls T3.out WC.out).mono ?_; rintro e w4 ⟨hb, a1, a2, a3, rfl, hat⟩; rw [has_del_same]; have hb2 := hb.alloc hb.size (.cells #[.int .i64 a1, .int .i64 a2, .int .u64 a3] 38); have T4 := Aside0.mk (T3.out.keep hb2); have B4 := Aside0.mk (B3.out.trans (hb2.mono B3.out.size)); have cj4 := (B4.out.cell (show (a.add i).block < w0.heap.size by rw [addr_block]; exact HA.out)).trans cj0.out; clear hb hb2 hat)
    | (go_at_call 10; refine (drop_some T2.out WC.out HD1.out AT1.out HJ.out).mono ?_; rintro e w3 ⟨rfl, hT, hbl, hs, hf⟩; have T3 := Aside0.mk hT; have B3 := Aside0.mk (B2.out.trans (hbl _ HP.out.1 HP.out.2.1 HP.out.2.2)); clear hT hbl hs hf))
  exact hcont.out _ _ _ _ _ _ _ _ _ _ _ _ _ _ _ _ _ _ _ _ _ _ _ _ _ _ _ _ _ _ _ _ _ _ _ _ _ _ _ _ _ _ _ _ _ _ _ _ _ _ _ _ _ _ _ _ _ _ _ _ _ _ _ _ _ _ _ _ _ _ _ _ _ _ _ _ _ _ _ _ _ _ _ _ _ _ _ _ _ _ _ _ _ _ _ _ _ _ _ _ _ _ _ _ _ _ _ _ _ _ _ _ _ _ _ _ _ _ _ _ _ _ _ _ _ _ _ _ _ _ _ _ _ _ _ _ T6.out B6.out
set_option maxRecDepth 100000 in
set_option maxHeartbeats 8000000 in
theorem once_new {w0 w : World} {a : Addr} {len cap p b1 b2 m i : Nat} {n u j : Int} {D1 D2 : DataW Unit} {K : Act → World → Prop} {R : Ending → World → Prop} {N q : Nat} {r0 c1 r3 c4 r6 r7 body rt : Code} {x2 x3 x8 x9 x10 x11 x12 x13 x14 x15 x16 x17 x18 x19 x20 x21 x22 x23 x24 x25 x26 x27 x28 x29 x30 x31 x32 x33 x34 x35 x36 x37 x38 x39 x40 x41 x42 x43 x44 x45 x46 x47 x48 x49 x50 x51 x52 x53 x54 x55 x56 x57 x58 x59 x60 x61 x62 x63 x64 x65 x66 x67 x68 x69 x70 x71 x72 x73 x74 x75 x76 x77 x78 x79 x80 x81 x82 x83 x84 x85 x86 x87 x88 x89 x90 x91 x92 x93 x94 x95 x96 x97 x98 x99 x100 x101 x102 x103 x104 x105 x106 x107 x108 x109 x110 x111 x112 x113 x114 x115 x116 x117 x118 x119 x120 x121 x122 x123 x124 x125 x126 x127 x128 x129 x130 x131 x132 x133 x134 x135 x136 x137 x138 x139 x140 x141 x142 : Value}
    (hB : Try.f5.body = some (.seq r0 (.seq c1 (.seq r3 (.seq c4 (.seq r6 (.seq (.seq r7 (.block q (.loop body))) rt))))))) (HT : Aside0 (TabAt w p n b1 b2 m D1 D2)) (HB : Aside0 (Below w0.heap.size w0 w)) (HP : Aside0 (w0.heap.size ≤ p ∧ w0.heap.size ≤ b1 ∧ w0.heap.size ≤ b2)) (HA : Aside0 (a.block < w0.heap.size)) (hj0 : w0.cell? (a.add i) = some (.int .i64 j)) (HJ : Aside0 ((Lit.int .i64 j).wf = true)) (hi : i < len) (hl : len ≤ 40) (hm : m ≤ 2 * i) (hn0 : 0 ≤ n) (hn1 : n ≤ i)
    (HD2 : Aside0 (has D2 (kk j) = false))
    (cont : ∀ (w' : World) (y8 y9 y10 y11 y12 y13 y14 y15 y16 y17 y18 y19 y20 y21 y22 y23 y24 y25 y26 y27 y28 y29 y30 y31 y32 y33 y34 y35 y36 y37 y38 y39 y40 y41 y42 y43 y44 y45 y46 y47 y48 y49 y50 y51 y52 y53 y54 y55 y56 y57 y58 y59 y60 y61 y62 y63 y64 y65 y66 y67 y68 y69 y70 y71 y72 y73 y74 y75 y76 y77 y78 y79 y80 y81 y82 y83 y84 y85 y86 y87 y88 y89 y90 y91 y92 y93 y94 y95 y96 y97 y98 y99 y100 y101 y102 y103 y104 y105 y106 y107 y108 y109 y110 y111 y112 y113 y114 y115 y116 y117 y118 y119 y120 y121 y122 y123 y124 y125 y126 y127 y128 y129 y130 y131 y132 y133 y134 y135 y136 y137 y138 y139 y140 y141 y142 : Value), TabAt w' p (n + 1) b1 b2 (m + 2) (D1.put (kk (n + 1)) (gd (n + 1) j u)) (D2.put (kk j) (.lit (.int .i64 (n + 1)))) → Below w0.heap.size w0 w' → Code.rounds Try.prog body (Exit.inBlock 0 (Exit.then K (bodyPost Try.prog Try.f5 R))) N ⟨#[.slice (some a) len cap, .int .u64 u, x2, x3, .bool false, .pointer (some ⟨p, 0, none⟩), .int .i64 (n + 1), .int .i64 (i + 1), y8, y9, y10, y11, y12, y13, y14, y15, y16, y17, y18, y19, y20, y21, y22, y23, y24, y25, y26, y27, y28, y29, y30, y31, y32, y33, y34, y35, y36, y37, y38, y39, y40, y41, y42, y43, y44, y45, y46, y47, y48, y49, y50, y51, y52, y53, y54, y55, y56, y57, y58, y59, y60, y61, y62, y63, y64, y65, y66, y67, y68, y69, y70, y71, y72, y73, y74, y75, y76, y77, y78, y79, y80, y81, y82, y83, y84, y85, y86, y87, y88, y89, y90, y91, y92, y93, y94, y95, y96, y97, y98, y99, y100, y101, y102, y103, y104, y105, y106, y107, y108, y109, y110, y111, y112, y113, y114, y115, y116, y117, y118, y119, y120, y121, y122, y123, y124, y125, y126, y127, y128, y129, y130, y131, y132, y133, y134, y135, y136, y137, y138, y139, y140, y141, y142], []⟩ w') :
    Code.rounds Try.prog body (Exit.inBlock 0 (Exit.then K (bodyPost Try.prog Try.f5 R))) (N + 1) ⟨#[.slice (some a) len cap, .int .u64 u, x2, x3, .bool false, .pointer (some ⟨p, 0, none⟩), .int .i64 n, .int .i64 i, x8, x9, x10, x11, x12, x13, x14, x15, x16, x17, x18, x19, x20, x21, x22, x23, x24, x25, x26, x27, x28, x29, x30, x31, x32, x33, x34, x35, x36, x37, x38, x39, x40, x41, x42, x43, x44, x45, x46, x47, x48, x49, x50, x51, x52, x53, x54, x55, x56, x57, x58, x59, x60, x61, x62, x63, x64, x65, x66, x67, x68, x69, x70, x71, x72, x73, x74, x75, x76, x77, x78, x79, x80, x81, x82, x83, x84, x85, x86, x87, x88, x89, x90, x91, x92, x93, x94, x95, x96, x97, x98, x99, x100, x101, x102, x103, x104, x105, x106, x107, x108, x109, x110, x111, x112, x113, x114, x115, x116, x117, x118, x119, x120, x121, x122, x123, x124, x125, x126, x127, x128, x129, x130, x131, x132, x133, x134, x135, x136, x137, x138, x139, x140, x141, x142], []⟩ w := by
  have hbody := once_body rfl hB
  clear hB
  subst hbody
  have cj0 := Aside0.mk hj0
  have cj := (HB.out.cell (show (a.add i).block < w0.heap.size by rw [addr_block]; exact HA.out)).trans hj0
  have HM := Aside0.mk hm
  have hcont := Aside0.mk cont
  clear hj0 hm cont
  rw [rounds_succ]
  go_upto_region 10 with fail
  have HN := Aside0.mk (show (Lit.int .i64 (n + 1)).wf = true from WalkArith.wf_i64 (by omega))
  go_upto_region 18 with (first
    | (go_at_call 14; refine (look_calls TG.out HN.out).mono ?_; rintro e w1 ⟨hb, a1, a2, a3, rfl, hat⟩; obtain ⟨rfl, rfl, rfl⟩ := gd_inj ((atKey_put_same HT.out.all.isMap (keyI.1 (keyOf_i HN.out)) _ _).symm.trans hat); rw [has_put_same HT.out.all.isMap (keyI.1 (keyOf_i HN.out))]; have hb2 := hb.alloc hb.size (.cells #[.int .i64 (n + 1), .int .i64 j, .int .u64 u] 38); have X1 := Aside0.mk (heap_alloc_last w1 (.cells #[.int .i64 (n + 1), .int .i64 j, .int .u64 u] 38)); have T1 := Aside0.mk (TG.out.keep hb2); have B1 := Aside0.mk (BG.out.trans (hb2.mono BG.out.size)); clear hb hb2 hat)
    | (go_at_call 9; refine (grant_new HT.out HJ.out hn0 (by omega) (by have := HM.out; unfold maxLen; omega) HD2.out).mono ?_; rintro e wg ⟨rfl, hT, hbl, hs, hf⟩; have TG := Aside0.mk hT; have BG := Aside0.mk (HB.out.trans (hbl _ HP.out.1 HP.out.2.1 HP.out.2.2)); clear hT hbl hs hf)
    | (go_at_call 17; refine (of_calls HT.out HJ.out).mono ?_; rintro e z ⟨hz, c', rfl, hat, hwc⟩; obtain rfl := hz.symm; rw [HD2.out]; clear hat hwc))
  have k0 := blk_cell X1.out 0
  have k1 := blk_cell X1.out 1
  have k2 := blk_cell X1.out 2
  have cj := (B1.out.cell (show (a.add i).block < w0.heap.size by rw [addr_block]; exact HA.out)).trans cj0.out
  generalize w1.heap.size = g0 at X1 k0 k1 k2 ⊢
  generalize w1.alloc (.cells #[.int .i64 (n + 1), .int .i64 j, .int .u64 u] 38) = w2 at X1 T1 B1 k0 k1 k2 cj ⊢
  refine start_ (n := 13) (S := fun w' => w'.cell? ⟨g0, 0, none⟩ = some (.int .i64 (n + 1)) ∧ w'.cell? ⟨g0, 1, none⟩ = some (.int .i64 j) ∧ w'.cell? ⟨g0, 2, none⟩ = some (.int .u64 u) ∧ w'.cell? (a.add i) = some (.int .i64 j)) (ds := []) #[false, false, false, false, false, false, false, false, false, false, false, false, false] (by kernel_rfl) rfl rfl ⟨k0, k1, k2, cj⟩ (fun hHeld => ?_)
  refine pure_ (i := 0) (N := some 82) (v := ?_) (a' := ?_) #[true, false, false, false, false, false, false, false, false, false, false, false, false] rfl rfl (by kernel_rfl) (fun _ _ _ h => h) (Or.inl ⟨by rfl, ?_⟩) ?_ ?_
  rotate_left
  · intro w'
    go_simp
    with_reducible rfl
  rotate_left
  · simp only [Act.put, List.setIfInBounds_toArray, List.set_cons_zero, List.set_cons_succ, i64_w, i32_w]
    rfl
  refine pure_ (i := 1) (N := some 83) (v := ?_) (a' := ?_) #[true, true, false, false, false, false, false, false, false, false, false, false, false] rfl rfl (by kernel_rfl) (fun _ _ _ h => h) (Or.inl ⟨by rfl, ?_⟩) ?_ ?_
  rotate_left
  · intro w'
    go_simp
    with_reducible rfl
  rotate_left
  · simp only [Act.put, List.setIfInBounds_toArray, List.set_cons_zero, List.set_cons_succ, i64_w, i32_w]
    rfl
  refine pure_ (i := 2) (N := some 84) (v := ?_) (a' := ?_) #[true, true, true, false, false, false, false, false, false, false, false, false, false] rfl rfl (by kernel_rfl) (fun _ _ _ h => h) (Or.inl ⟨by rfl, ?_⟩) ?_ ?_
  rotate_left
  · intro w'
    go_simp
    with_reducible rfl
  rotate_left
  · simp only [Act.put, List.setIfInBounds_toArray, List.set_cons_zero, List.set_cons_succ, i64_w, i32_w]
    rfl
  refine pure_ (i := 4) (N := some 86) (v := ?_) (a' := ?_) #[true, true, true, false, true, false, false, false, false, false, false, false, false] rfl rfl (by kernel_rfl) (fun _ _ _ h => h) (Or.inl ⟨by rfl, ?_⟩) ?_ ?_
  rotate_left
  · intro w'
    go_simp
    with_reducible rfl
  rotate_left
  · simp only [Act.put, List.setIfInBounds_toArray, List.set_cons_zero, List.set_cons_succ, i64_w, i32_w]
    rfl
  refine pure_ (i := 5) (N := some 87) (v := ?_) (a' := ?_) #[true, true, true, false, true, true, false, false, false, false, false, false, false] rfl rfl (by kernel_rfl) (fun _ _ _ h => h) (Or.inl ⟨by rfl, ?_⟩) ?_ ?_
  rotate_left
  · intro w'
    go_simp
    with_reducible rfl
  rotate_left
  · simp only [Act.put, List.setIfInBounds_toArray, List.set_cons_zero, List.set_cons_succ, i64_w, i32_w]
    rfl
  refine pure_ (i := 6) (N := some 88) (v := ?_) (a' := ?_) #[true, true, true, false, true, true, true, false, false, false, false, false, false] rfl rfl (by kernel_rfl) (fun _ _ _ h => h) (Or.inl ⟨by rfl, ?_⟩) ?_ ?_
  rotate_left
  · intro w'
    go_simp
    with_reducible rfl
  rotate_left
  · simp only [Act.put, List.setIfInBounds_toArray, List.set_cons_zero, List.set_cons_succ, i64_w, i32_w]
    rfl
  refine pure_ (i := 7) (N := some 89) (v := ?_) (a' := ?_) #[true, true, true, false, true, true, true, true, false, false, false, false, false] rfl rfl (by kernel_rfl) (fun _ _ _ h => h) (Or.inl ⟨by rfl, ?_⟩) ?_ ?_
  rotate_left
  · intro w'
    go_simp
    with_reducible rfl
  rotate_left
  · simp only [Act.put, List.setIfInBounds_toArray, List.set_cons_zero, List.set_cons_succ, i64_w, i32_w]
    rfl
  refine pure_ (i := 9) (N := some 91) (v := ?_) (a' := ?_) #[true, true, true, false, true, true, true, true, false, true, false, false, false] rfl rfl (by kernel_rfl) (fun _ _ _ h => h) (Or.inl ⟨by rfl, ?_⟩) ?_ ?_
  rotate_left
  · intro w'
    go_simp
    with_reducible rfl
  rotate_left
  · simp only [Act.put, List.setIfInBounds_toArray, List.set_cons_zero, List.set_cons_succ, i64_w, i32_w]
    rfl
  refine take_ (i := 3) (N := some 85) (v := ?_) (a' := ?_) #[true, true, true, true, true, true, true, true, false, true, false, false, false] rfl rfl (by kernel_rfl) (fun _ _ _ h => h) (Or.inl ⟨by rfl, ?_⟩) hHeld ?_ ?_
  rotate_left
  · rintro w' ⟨s0, s1, s2, s3⟩
    go_simp
    with_reducible rfl
  rotate_left
  · simp only [Act.put, List.setIfInBounds_toArray, List.set_cons_zero, List.set_cons_succ, i64_w, i32_w]
    rfl
  refine take_ (i := 8) (N := some 90) (v := ?_) (a' := ?_) #[true, true, true, true, true, true, true, true, true, true, false, false, false] rfl rfl (by kernel_rfl) (fun _ _ _ h => h) (Or.inl ⟨by rfl, ?_⟩) hHeld ?_ ?_
  rotate_left
  · rintro w' ⟨s0, s1, s2, s3⟩
    go_simp
    with_reducible rfl
  rotate_left
  · simp only [Act.put, List.setIfInBounds_toArray, List.set_cons_zero, List.set_cons_succ, i64_w, i32_w]
    rfl
  refine pure_ (i := 10) (N := some 92) (v := ?_) (a' := ?_) #[true, true, true, true, true, true, true, true, true, true, true, false, false] rfl rfl (by kernel_rfl) (fun _ _ _ h => h) (Or.inl ⟨by rfl, ?_⟩) ?_ ?_
  rotate_left
  · intro w'
    go_simp
    with_reducible rfl
  rotate_left
  · simp only [Act.put, List.setIfInBounds_toArray, List.set_cons_zero, List.set_cons_succ, i64_w, i32_w]
    rfl
  refine pure_ (i := 11) (N := some 93) (v := ?_) (a' := ?_) #[true, true, true, true, true, true, true, true, true, true, true, true, false] rfl rfl (by kernel_rfl) (fun _ _ _ h => h) (Or.inl ⟨by rfl, ?_⟩) ?_ ?_
  rotate_left
  · intro w'
    go_simp
    with_reducible rfl
  rotate_left
  · simp only [Act.put, List.setIfInBounds_toArray, List.set_cons_zero, List.set_cons_succ, i64_w, i32_w]
    rfl
  refine pure_ (i := 12) (N := some 94) (v := ?_) (a' := ?_) #[true, true, true, true, true, true, true, true, true, true, true, true, true] rfl rfl (by kernel_rfl) (fun _ _ _ h => h) (Or.inl ⟨by rfl, ?_⟩) ?_ ?_
  rotate_left
  · intro w'
    go_simp
    with_reducible rfl
  rotate_left
  · simp only [Act.put, List.setIfInBounds_toArray, List.set_cons_zero, List.set_cons_succ, i64_w, i32_w]
    rfl
  refine done_ (by kernel_rfl) ?_
  have T2 := Aside0.mk T1.out.drew
  have B2 := Aside0.mk B1.out.drew
  clear T1 B1 k0 k1 k2 cj
  go_wp2
  exact hcont.out _ _ _ _ _ _ _ _ _ _ _ _ _ _ _ _ _ _ _ _ _ _ _ _ _ _ _ _ _ _ _ _ _ _ _ _ _ _ _ _ _ _ _ _ _ _ _ _ _ _ _ _ _ _ _ _ _ _ _ _ _ _ _ _ _ _ _ _ _ _ _ _ _ _ _ _ _ _ _ _ _ _ _ _ _ _ _ _ _ _ _ _ _ _ _ _ _ _ _ _ _ _ _ _ _ _ _ _ _ _ _ _ _ _ _ _ _ _ _ _ _ _ _ _ _ _ _ _ _ _ _ _ _ _ _ _ T2.out B2.out
end Go.Proofs.Ytikbgoppmailjaa.H
