/- Parts of the proof of LawGuardPrints: words, contracts of the functions, plain laws. -/
import Derived.Test.YtikbgoppmailjaaGreatDoorBA07
/- The document's show: how a guard stands between. -/
namespace Go.Proofs.YtikbgoppmailjaaGreatDoor.H
open Go.RowKit Go.HK Go.Lib Go.WideShapes Go.ChangeShapes Go.Proofs.YtikbgoppmailjaaGreatDoorW.PrintWords Go.Proofs.YtikbgoppmailjaaGreatDoorW.PrintLast Go.Proofs.YtikbgoppmailjaaGreatDoorW.PrintMore
set_option linter.unusedVariables false
set_option linter.unusedSimpArgs false
theorem show_body35 {c0 c1 c2 c3 c4 c5 c6 c7 c8 c9 c10 c11 body : Code}  {c0' c1' c2' c3' c4' c5' c6' c7' c8' c9' c10' c11' body' : Code}  (h : Tryz.f25.body = some (.seq c0 (.seq c1 (.seq c2 (.seq c3 (.seq c4 (.seq c5 (.seq c6 (.seq c7 (.seq c8 (.seq c9 (.seq c10 (.seq body c11))))))))))))) (h' : Tryz.f25.body = some (.seq c0' (.seq c1' (.seq c2' (.seq c3' (.seq c4' (.seq c5' (.seq c6' (.seq c7' (.seq c8' (.seq c9' (.seq c10' (.seq body' c11'))))))))))))) : body' = body := by
  rw [h] at h'
  simp only [Option.some.injEq, Code.seq.injEq, Code.cond.injEq, Code.block.injEq, Code.loop.injEq] at h'
  simp only [h']
set_option maxRecDepth 100000 in
set_option maxHeartbeats 8000000 in
theorem show_tail {w : World} {g Ba Bb : Nat} {xa xb : List S39} {va vb : Value} {kd : Int} {Q : Exit → Act → World → Prop} {c0 c1 c2 c3 c4 c5 c6 c7 c8 c9 c10 c11 body : Code}  {x0 x1 x2 x3 x4 x7 x8 x10 x11 x12 x13 x14 x15 x16 x17 x18 x19 x20 x21 x22 x23 x24 x25 x26 x27 x28 x29 x30 x31 x32 x33 x34 x35 x36 x37 x38 x39 x40 x41 x42 x43 x44 x45 x46 x47 x48 x49 x50 x51 x52 x53 x54 x55 x56 x57 x58 x59 x60 x61 x62 x63 x64 x65 x66 x67 x68 x69 x70 x71 x72 x73 x74 x75 x76 x77 x78 x79 x80 x81 x82 x83 x84 x85 x86 x87 x88 x89 x90 x91 x92 x93 x94 x95 x96 x97 x98 x99 x100 x101 x102 x103 x104 x105 x106 x107 x108 x109 x110 x111 x112 x113 x114 x115 x116 x117 x118 x119 x120 x121 x122 x123 x124 x125 x126 x127 x128 x129 x130 x131 x132 x133 x134 x135 x136 x137 x138 x139 x140 x141 x142 x143 x144 x145 x146 : Value}
  (hB : Tryz.f25.body = some (.seq c0 (.seq c1 (.seq c2 (.seq c3 (.seq c4 (.seq c5 (.seq c6 (.seq c7 (.seq c8 (.seq c9 (.seq c10 (.seq body c11))))))))))))) (hPQ : Aside0 (∀ c a d v w, Q (.panic c) (a.put d v) w → Q (.panic c) a w)) (hct : w.cell? ⟨g, 0, none⟩ = some (.int .i64 kd)) (hA : RowS w Ba va xa) (hZ : RowS w Bb vb xb) (hla : xa.length ≤ 10000) (hlb : xb.length ≤ 10000)
  (cont : ∀ (w' : World) (v' : Value) (y137 y138 y139 y140 y141 y142 y143 y144 y145 y146 : Value), RowS w' w.heap.size v' (xa ++ ⟨kd, 0⟩ :: xb) → Below w.heap.size w w' → Q .normal ⟨#[x0, x1, x2, x3, v', .pointer (some ⟨g, 0, none⟩), vb, x7, x8, va, x10, x11, x12, x13, x14, x15, x16, x17, x18, x19, x20, x21, x22, x23, x24, x25, x26, x27, x28, x29, x30, x31, x32, x33, x34, x35, x36, x37, x38, x39, x40, x41, x42, x43, x44, x45, x46, x47, x48, x49, x50, x51, x52, x53, x54, x55, x56, x57, x58, x59, x60, x61, x62, x63, x64, x65, x66, x67, x68, x69, x70, x71, x72, x73, x74, x75, x76, x77, x78, x79, x80, x81, x82, x83, x84, x85, x86, x87, x88, x89, x90, x91, x92, x93, x94, x95, x96, x97, x98, x99, x100, x101, x102, x103, x104, x105, x106, x107, x108, x109, x110, x111, x112, x113, x114, x115, x116, x117, x118, x119, x120, x121, x122, x123, x124, x125, x126, x127, x128, x129, x130, x131, x132, x133, x134, x135, x136, y137, y138, y139, y140, y141, y142, y143, y144, y145, y146], []⟩ w') : Code.wp Tryz.prog body Q ⟨#[x0, x1, x2, x3, x4, .pointer (some ⟨g, 0, none⟩), vb, x7, x8, va, x10, x11, x12, x13, x14, x15, x16, x17, x18, x19, x20, x21, x22, x23, x24, x25, x26, x27, x28, x29, x30, x31, x32, x33, x34, x35, x36, x37, x38, x39, x40, x41, x42, x43, x44, x45, x46, x47, x48, x49, x50, x51, x52, x53, x54, x55, x56, x57, x58, x59, x60, x61, x62, x63, x64, x65, x66, x67, x68, x69, x70, x71, x72, x73, x74, x75, x76, x77, x78, x79, x80, x81, x82, x83, x84, x85, x86, x87, x88, x89, x90, x91, x92, x93, x94, x95, x96, x97, x98, x99, x100, x101, x102, x103, x104, x105, x106, x107, x108, x109, x110, x111, x112, x113, x114, x115, x116, x117, x118, x119, x120, x121, x122, x123, x124, x125, x126, x127, x128, x129, x130, x131, x132, x133, x134, x135, x136, x137, x138, x139, x140, x141, x142, x143, x144, x145, x146], []⟩ w := by
 have hbody := show_body35 rfl hB
 clear hB
 subst hbody
 have hcont := Aside0.mk cont
 clear cont
 have hla : xa.length ≤ 1000000 := by omega
 have hlb : xb.length ≤ 1000000 := by omega
 have HQ := World.block_lt_of_cell? w _ hct
 have C0 := Aside0.mk hct
 have A0 := Aside0.mk hA
 have Z0 := Aside0.mk hZ
 have B_ := Aside0.mk ((Below.refl w.heap.size w).drew)
 clear hct hA hZ
 refine start_ (n := 11) (S := fun w' => w'.cell? ⟨g, 0, none⟩ = some (.int .i64 kd)) (ds := []) #[false, false, false, false, false, false, false, false, false, false, false] (by kernel_rfl) rfl rfl (C0.out) (fun hHeld => ?_)
 refine pure_ (i := 1) (N := some 138) (v := ?_) (a' := ?_) #[false, true, false, false, false, false, false, false, false, false, false] rfl rfl (by kernel_rfl) (fun _ _ _ h => hPQ.out _ _ _ _ _ h) (Or.inl ⟨by rfl, ?_⟩) ?_ ?_
 rotate_left
 ·intro w'
  go_simp
  with_reducible rfl
 rotate_left
 ·simp only [Act.put, List.setIfInBounds_toArray, List.set_cons_zero, List.set_cons_succ, i64_w, i32_w]
  rfl
 refine pure_ (i := 3) (N := some 140) (v := ?_) (a' := ?_) #[false, true, false, true, false, false, false, false, false, false, false] rfl rfl (by kernel_rfl) (fun _ _ _ h => hPQ.out _ _ _ _ _ h) (Or.inl ⟨by rfl, ?_⟩) ?_ ?_
 rotate_left
 ·intro w'
  go_simp
  with_reducible rfl
 rotate_left
 ·simp only [Act.put, List.setIfInBounds_toArray, List.set_cons_zero, List.set_cons_succ, i64_w, i32_w]
  rfl
 refine pure_ (i := 8) (N := some 145) (v := ?_) (a' := ?_) #[false, true, false, true, false, false, false, false, true, false, false] rfl rfl (by kernel_rfl) (fun _ _ _ h => hPQ.out _ _ _ _ _ h) (Or.inl ⟨by rfl, ?_⟩) ?_ ?_
 rotate_left
 ·intro w'
  go_simp
  with_reducible rfl
 rotate_left
 ·simp only [Act.put, List.setIfInBounds_toArray, List.set_cons_zero, List.set_cons_succ, i64_w, i32_w]
  rfl
 refine take_ (i := 4) (N := some 141) (v := ?_) (a' := ?_) #[false, true, false, true, true, false, false, false, true, false, false] rfl rfl (by kernel_rfl) (fun _ _ _ h => hPQ.out _ _ _ _ _ h) (Or.inl ⟨by rfl, ?_⟩) hHeld ?_ ?_
 rotate_left
 ·intro w' s0
  go_simp
  with_reducible rfl
 rotate_left
 ·simp only [Act.put, List.setIfInBounds_toArray, List.set_cons_zero, List.set_cons_succ, i64_w, i32_w]
  rfl
 refine pure_ (i := 5) (N := some 142) (v := ?_) (a' := ?_) #[false, true, false, true, true, true, false, false, true, false, false] rfl rfl (by kernel_rfl) (fun _ _ _ h => hPQ.out _ _ _ _ _ h) (Or.inl ⟨by rfl, ?_⟩) ?_ ?_
 rotate_left
 ·intro w'
  go_simp
  with_reducible rfl
 rotate_left
 ·simp only [Act.put, List.setIfInBounds_toArray, List.set_cons_zero, List.set_cons_succ, i64_w, i32_w]
  rfl
 refine join_ (σ := Value × Value × Value) 3 #[true, true, true, true, true, true, true, false, true, false, false] (fun s => [(137, s.1), (139, s.2.1), (143, s.2.2)]) (fun s w' => RowS w' w.heap.size s.2.1 ([] ++ xa) ∧ RowS w' w.heap.size s.2.2 [⟨kd, 0⟩] ∧ Below w.heap.size w w') ?_ ?_
 rotate_left
 ·intro hCont
  refine two_ (i := 0) (j := 6) (Ni := some 137) (Nj := some 143) #[true, true, false, true, true, true, false, false, true, false, false] #[false, true, false, true, true, true, true, false, true, false, false] rfl rfl rfl rfl (by kernel_rfl) (by decide) (by decide) (fun K hK => ?_) (fun K hK => ?_)
  ·skip
   obtain ⟨w_0, ge, hrun, e1, e2, e3, e4⟩ := slit0 w.drew
   have B_0 := Aside0.mk (B_.out.grown e4 B_.out.size (fun k e => by cases e))
   have E := Aside0.mk (RowS.down e1 B_.out.size)
   refine value_ (w1 := w_0) (v := .slice (some ⟨ge, 0, none⟩) 0 0) (by rfl) rfl (exec_buildSlice rfl (by first | (simp only [List.map_toArray, List.map_cons, List.map_nil]; done) | (simp only [List.map_toArray, List.map_cons, List.map_nil]; rfl)) hrun) ?_
   clear hrun e1 e2 e3 e4
   refine hK.out _ _ ((B_0.out.cell HQ).trans C0.out) (fun hHeld => ?_)
   clear hK K
   refine norm_ (a' := ?_) ?_ ?_
   rotate_left
   ·show Act.put _ (some 137) _ = _
    simp only [Act.put, List.setIfInBounds_toArray, List.set_cons_zero, List.set_cons_succ, i64_w, i32_w]
    rfl
   refine two_ (i := 2) (j := 6) (Ni := some 139) (Nj := some 143) #[true, true, true, true, true, true, false, false, true, false, false] #[true, true, false, true, true, true, true, false, true, false, false] rfl rfl rfl rfl (by kernel_rfl) (by decide) (by decide) (fun K hK => ?_) (fun K hK => ?_)
   ·skip
    obtain ⟨r, w_0_2, hrun, hR, hG, hO⟩ := sapp E.out (RowS.move A0.out (fun k hk => B_0.out.block k (RowS.lt A0.out k hk))) B_0.out.size (by simp) hla
    have B_0_2 := Aside0.mk (B_0.out.grown hG B_0.out.size (fun k e => RowS.own E.out k e))
    have R := Aside0.mk hR
    refine value_ (w1 := w_0_2) (v := r) (by rfl) rfl (exec_append rfl hrun) ?_
    clear hrun hR hG hO
    refine hK.out _ _ ((B_0_2.out.cell HQ).trans C0.out) (fun hHeld => ?_)
    clear hK K
    refine norm_ (a' := ?_) ?_ ?_
    rotate_left
    ·show Act.put _ (some 139) _ = _
     simp only [Act.put, List.setIfInBounds_toArray, List.set_cons_zero, List.set_cons_succ, i64_w, i32_w]
     rfl
    refine one_ (i := 6) (N := some 143) #[true, true, true, true, true, true, true, false, true, false, false] rfl rfl (by kernel_rfl) (by decide) (fun K hK => ?_)
    obtain ⟨w_0_2_6, gx, hrun, e1, e2, e3, e4⟩ := slit1 w_0_2 kd 0
    have B_0_2_6 := Aside0.mk (B_0_2.out.grown e4 B_0_2.out.size (fun k e => by cases e))
    have R := Aside0.mk (RowS.move R.out (fun k hk => e4.block k (RowS.lt R.out k hk) (fun e => by cases e)))
    have X := Aside0.mk (RowS.down e1 B_0_2.out.size)
    refine value_ (w1 := w_0_2_6) (v := .slice (some ⟨gx, 0, none⟩) 1 1) (by rfl) rfl (exec_buildSlice rfl (by first | (simp only [List.map_toArray, List.map_cons, List.map_nil]; done) | (simp only [List.map_toArray, List.map_cons, List.map_nil]; rfl)) hrun) ?_
    clear hrun e1 e2 e3 e4
    refine hK.out _ _ ((B_0_2_6.out.cell HQ).trans C0.out) (fun hHeld => ?_)
    clear hK K
    refine norm_ (a' := ?_) ?_ ?_
    rotate_left
    ·show Act.put _ (some 143) _ = _
     simp only [Act.put, List.setIfInBounds_toArray, List.set_cons_zero, List.set_cons_succ, i64_w, i32_w]
     rfl
    exact norm_ (by simp only [putAll, Act.put, List.setIfInBounds_toArray, List.set_cons_zero, List.set_cons_succ]) (hCont (.slice (some ⟨ge, 0, none⟩) 0 0, r, .slice (some ⟨gx, 0, none⟩) 1 1) _ ⟨R.out, X.out, B_0_2_6.out⟩)
   ·skip
    obtain ⟨w_0_6, gx, hrun, e1, e2, e3, e4⟩ := slit1 w_0 kd 0
    have B_0_6 := Aside0.mk (B_0.out.grown e4 B_0.out.size (fun k e => by cases e))
    have hne : ge < gx := by have := RowS.lt E.out ge rfl; omega
    have E := Aside0.mk (RowS.move E.out (fun k hk => e4.block k (RowS.lt E.out k hk) (fun e => by cases e)))
    have X := Aside0.mk (RowS.down e1 B_0.out.size)
    refine value_ (w1 := w_0_6) (v := .slice (some ⟨gx, 0, none⟩) 1 1) (by rfl) rfl (exec_buildSlice rfl (by first | (simp only [List.map_toArray, List.map_cons, List.map_nil]; done) | (simp only [List.map_toArray, List.map_cons, List.map_nil]; rfl)) hrun) ?_
    clear hrun e1 e2 e3 e4
    refine hK.out _ _ ((B_0_6.out.cell HQ).trans C0.out) (fun hHeld => ?_)
    clear hK K
    refine norm_ (a' := ?_) ?_ ?_
    rotate_left
    ·show Act.put _ (some 143) _ = _
     simp only [Act.put, List.setIfInBounds_toArray, List.set_cons_zero, List.set_cons_succ, i64_w, i32_w]
     rfl
    refine one_ (i := 2) (N := some 139) #[true, true, true, true, true, true, true, false, true, false, false] rfl rfl (by kernel_rfl) (by decide) (fun K hK => ?_)
    obtain ⟨r, w_0_6_2, hrun, hR, hG, hO⟩ := sapp E.out (RowS.move A0.out (fun k hk => B_0_6.out.block k (RowS.lt A0.out k hk))) B_0_6.out.size (by simp) hla
    have B_0_6_2 := Aside0.mk (B_0_6.out.grown hG B_0_6.out.size (fun k e => RowS.own E.out k e))
    have X := Aside0.mk (RowS.move X.out (fun k hk => hG.block k (RowS.lt X.out k hk) (fun e => by cases hk; injection e with e; dsimp only at e; omega)))
    have R := Aside0.mk hR
    refine value_ (w1 := w_0_6_2) (v := r) (by rfl) rfl (exec_append rfl hrun) ?_
    clear hrun hR hG hO
    refine hK.out _ _ ((B_0_6_2.out.cell HQ).trans C0.out) (fun hHeld => ?_)
    clear hK K
    refine norm_ (a' := ?_) ?_ ?_
    rotate_left
    ·show Act.put _ (some 139) _ = _
     simp only [Act.put, List.setIfInBounds_toArray, List.set_cons_zero, List.set_cons_succ, i64_w, i32_w]
     rfl
    exact norm_ (by simp only [putAll, Act.put, List.setIfInBounds_toArray, List.set_cons_zero, List.set_cons_succ]) (hCont (.slice (some ⟨ge, 0, none⟩) 0 0, r, .slice (some ⟨gx, 0, none⟩) 1 1) _ ⟨R.out, X.out, B_0_6_2.out⟩)
  ·skip
   obtain ⟨w_6, gx, hrun, e1, e2, e3, e4⟩ := slit1 w.drew kd 0
   have B_6 := Aside0.mk (B_.out.grown e4 B_.out.size (fun k e => by cases e))
   have X := Aside0.mk (RowS.down e1 B_.out.size)
   refine value_ (w1 := w_6) (v := .slice (some ⟨gx, 0, none⟩) 1 1) (by rfl) rfl (exec_buildSlice rfl (by first | (simp only [List.map_toArray, List.map_cons, List.map_nil]; done) | (simp only [List.map_toArray, List.map_cons, List.map_nil]; rfl)) hrun) ?_
   clear hrun e1 e2 e3 e4
   refine hK.out _ _ ((B_6.out.cell HQ).trans C0.out) (fun hHeld => ?_)
   clear hK K
   refine norm_ (a' := ?_) ?_ ?_
   rotate_left
   ·show Act.put _ (some 143) _ = _
    simp only [Act.put, List.setIfInBounds_toArray, List.set_cons_zero, List.set_cons_succ, i64_w, i32_w]
    rfl
   refine one_ (i := 0) (N := some 137) #[true, true, false, true, true, true, true, false, true, false, false] rfl rfl (by kernel_rfl) (by decide) (fun K hK => ?_)
   obtain ⟨w_6_0, ge, hrun, e1, e2, e3, e4⟩ := slit0 w_6
   have B_6_0 := Aside0.mk (B_6.out.grown e4 B_6.out.size (fun k e => by cases e))
   have hne : gx < ge := by have := RowS.lt X.out gx rfl; omega
   have X := Aside0.mk (RowS.move X.out (fun k hk => e4.block k (RowS.lt X.out k hk) (fun e => by cases e)))
   have E := Aside0.mk (RowS.down e1 B_6.out.size)
   refine value_ (w1 := w_6_0) (v := .slice (some ⟨ge, 0, none⟩) 0 0) (by rfl) rfl (exec_buildSlice rfl (by first | (simp only [List.map_toArray, List.map_cons, List.map_nil]; done) | (simp only [List.map_toArray, List.map_cons, List.map_nil]; rfl)) hrun) ?_
   clear hrun e1 e2 e3 e4
   refine hK.out _ _ ((B_6_0.out.cell HQ).trans C0.out) (fun hHeld => ?_)
   clear hK K
   refine norm_ (a' := ?_) ?_ ?_
   rotate_left
   ·show Act.put _ (some 137) _ = _
    simp only [Act.put, List.setIfInBounds_toArray, List.set_cons_zero, List.set_cons_succ, i64_w, i32_w]
    rfl
   refine one_ (i := 2) (N := some 139) #[true, true, true, true, true, true, true, false, true, false, false] rfl rfl (by kernel_rfl) (by decide) (fun K hK => ?_)
   obtain ⟨r, w_6_0_2, hrun, hR, hG, hO⟩ := sapp E.out (RowS.move A0.out (fun k hk => B_6_0.out.block k (RowS.lt A0.out k hk))) B_6_0.out.size (by simp) hla
   have B_6_0_2 := Aside0.mk (B_6_0.out.grown hG B_6_0.out.size (fun k e => RowS.own E.out k e))
   have X := Aside0.mk (RowS.move X.out (fun k hk => hG.block k (RowS.lt X.out k hk) (fun e => by cases hk; injection e with e; dsimp only at e; omega)))
   have R := Aside0.mk hR
   refine value_ (w1 := w_6_0_2) (v := r) (by rfl) rfl (exec_append rfl hrun) ?_
   clear hrun hR hG hO
   refine hK.out _ _ ((B_6_0_2.out.cell HQ).trans C0.out) (fun hHeld => ?_)
   clear hK K
   refine norm_ (a' := ?_) ?_ ?_
   rotate_left
   ·show Act.put _ (some 139) _ = _
    simp only [Act.put, List.setIfInBounds_toArray, List.set_cons_zero, List.set_cons_succ, i64_w, i32_w]
    rfl
   exact norm_ (by simp only [putAll, Act.put, List.setIfInBounds_toArray, List.set_cons_zero, List.set_cons_succ]) (hCont (.slice (some ⟨ge, 0, none⟩) 0 0, r, .slice (some ⟨gx, 0, none⟩) 1 1) _ ⟨R.out, X.out, B_6_0_2.out⟩)
 rintro ⟨e0, r, x1⟩ w5 ⟨hR, hX, hB5⟩
 have X := Aside0.mk (show RowS w5 w.heap.size x1 [⟨kd, 0⟩] from hX)
 have R := Aside0.mk (show RowS w5 w.heap.size r ([] ++ xa) from hR)
 have B5 := Aside0.mk hB5
 clear hX hR hB5
 have hHeld : w5.cell? ⟨g, 0, none⟩ = some (.int .i64 kd) := (B5.out.cell HQ).trans C0.out
 refine norm_ (a' := ?_) ?_ ?_
 rotate_left
 ·simp only [putAll, Act.put, List.setIfInBounds_toArray, List.set_cons_zero, List.set_cons_succ]
  rfl
 refine one_ (i := 7) (N := some 144) #[true, true, true, true, true, true, true, true, true, false, false] rfl rfl (by kernel_rfl) (by decide) (fun K hK => ?_)
 obtain ⟨v1, w6, hrun, hR6, hG6, _⟩ := sapp R.out X.out B5.out.size (by simp; omega) (by simp)
 have B6 := Aside0.mk (B5.out.grown hG6 B5.out.size (fun k e => RowS.own R.out k e))
 have R6 := Aside0.mk hR6
 refine value_ (w1 := w6) (v := v1) (by rfl) rfl (exec_append rfl hrun) ?_
 clear hrun hR6 hG6
 refine hK.out _ _ ((B6.out.cell HQ).trans C0.out) (fun hHeld => ?_)
 clear hK K
 refine norm_ (a' := ?_) ?_ ?_
 rotate_left
 ·show Act.put _ (some 144) _ = _
  simp only [Act.put, List.setIfInBounds_toArray, List.set_cons_zero, List.set_cons_succ, i64_w, i32_w]
  rfl
 refine one_ (i := 9) (N := some 146) #[true, true, true, true, true, true, true, true, true, true, false] rfl rfl (by kernel_rfl) (by decide) (fun K hK => ?_)
 obtain ⟨v2, w7, hrun, hR7, hG7, _⟩ := sapp R6.out (RowS.move Z0.out (fun k hk => B6.out.block k (RowS.lt Z0.out k hk))) B6.out.size (by simp; omega) hlb
 have B7 := Aside0.mk (B6.out.grown hG7 B6.out.size (fun k e => RowS.own R6.out k e))
 have R7 := Aside0.mk hR7
 refine value_ (w1 := w7) (v := v2) (by rfl) rfl (exec_append rfl hrun) ?_
 clear hrun hR7 hG7
 refine hK.out _ _ ((B7.out.cell HQ).trans C0.out) (fun hHeld => ?_)
 clear hK K
 refine norm_ (a' := ?_) ?_ ?_
 rotate_left
 ·show Act.put _ (some 146) _ = _
  simp only [Act.put, List.setIfInBounds_toArray, List.set_cons_zero, List.set_cons_succ, i64_w, i32_w]
  rfl
 refine pure_ (i := 10) (N := some 4) (v := ?_) (a' := ?_) #[true, true, true, true, true, true, true, true, true, true, true] rfl rfl (by kernel_rfl) (fun _ _ _ h => hPQ.out _ _ _ _ _ h) (Or.inl ⟨by rfl, ?_⟩) ?_ ?_
 rotate_left
 ·intro w'
  go_simp
  with_reducible rfl
 rotate_left
 ·simp only [Act.put, List.setIfInBounds_toArray, List.set_cons_zero, List.set_cons_succ, i64_w, i32_w]
  rfl
 refine done_ (by kernel_rfl) ?_

 exact hcont.out _ _ _ _ _ _ _ _ _ _ _ _ (by have := R7.out; simpa using this) B7.out
end Go.Proofs.YtikbgoppmailjaaGreatDoor.H
