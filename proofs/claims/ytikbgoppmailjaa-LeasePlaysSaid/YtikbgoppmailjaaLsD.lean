import Derived.Test.YtikbgoppmailjaaHLs25
/- stableCmpFunc over a row of leases: the merges. -/
namespace Go.Proofs.Ytikbgoppmailjaa.H
open Go.RowKit Go.HK Go.Maps Go.Sort Go.Lib Go.WideShapes Go.ChangeShapes Go.Proofs.YtikbgoppmailjaaW.PrintWords Go.Proofs.YtikbgoppmailjaaW.PrintLast Go.Proofs.YtikbgoppmailjaaW.PrintMore
set_option linter.unusedVariables false
set_option linter.unusedSimpArgs false
theorem merge_body {r0 r1 b0 r6 r7 c7 r8 body tl r16 r0' r1' b0' r6' r7' c7' r8' body' tl' r16' : Code} {z2 z3 z4 z2' z3' z4' : Nat} (h : Try.f33.body = some (.seq r0 (.seq r1 (.seq b0 (.seq r6 (.block z2 (.loop (.seq (.seq r7 c7) (.block z3 (.seq r8 (.seq (.block z4 (.loop body)) (.seq tl r16)))))))))))) (h' : Try.f33.body = some (.seq r0' (.seq r1' (.seq b0' (.seq r6' (.block z2' (.loop (.seq (.seq r7' c7') (.block z3' (.seq r8' (.seq (.block z4' (.loop body')) (.seq tl' r16')))))))))))) : body' = body := by
  rw [h] at h'
  injection h' with h'
  injection h' with _ h'
  injection h' with _ h'
  injection h' with _ h'
  injection h' with _ h'
  injection h' with _ h'
  injection h' with h'
  injection h' with _ h'
  injection h' with _ h'
  injection h' with _ h'
  injection h' with h' _
  injection h' with _ h'
  injection h' with h'
  exact h'.symm
set_option maxRecDepth 100000 in
set_option maxHeartbeats 4000000 in
theorem merge_round (SY : SymP) {w : World} {g L cap a s : Nat} {f : Nat → G3} {Q : Exit → Act → World → Prop} {N z2 z3 z4 : Nat} {r0 r1 b0 r6 r7 c7 r8 body tl r16 : Code} {x3 x4 x5 x9 x10 x11 x12 x13 x14 x15 x16 x17 x18 x19 x20 x21 x22 x23 x24 x25 x26 x27 x28 x29 x30 x31 x32 x33 x34 x35 x36 x37 x38 x39 x40 x41 x42 x43 x44 x45 x46 x47 x48 x49 x50 x51 x52 x53 x54 x55 x56 x57 x58 x59 x60 x61 x62 : Value} (hB : Try.f33.body = some (.seq r0 (.seq r1 (.seq b0 (.seq r6 (.block z2 (.loop (.seq (.seq r7 c7) (.block z3 (.seq r8 (.seq (.block z4 (.loop body)) (.seq tl r16)))))))))))) (HF : Aside0 (RowF w g L f)) (hs : 0 < s) (hb : a + 2 * s ≤ L) (hl : L ≤ 100)
    (cont : ∀ (w' : World) (f' : Nat → G3) (y3 y4 y5 y9 y10 y11 y12 y13 y14 y15 y16 y17 y18 y19 y20 y21 y22 y23 y24 y25 y26 y27 y28 y29 y30 y31 y32 y33 y34 y35 y36 y37 y38 y39 y40 y41 y42 y43 y44 y45 y46 y47 y48 y49 y50 y51 y52 y53 y54 y55 y56 y57 y58 y59 y60 y61 y62 : Value), RowF w' g L f' → w.grownBy w' (some g) → SymPost L a (a + s) (a + 2 * s) f f' → Code.rounds Try.prog body Q N ⟨#[.slice (some ⟨g, 0, none⟩) L cap, .int .i64 L, .func (.func 27) #[] #[], y3, y4, y5, .int .i64 s, .int .i64 (a + 2 * s), .int .i64 (a + 2 * s + 2 * s), y9, y10, y11, y12, y13, y14, y15, y16, y17, y18, y19, y20, y21, y22, y23, y24, y25, y26, y27, y28, y29, y30, y31, y32, y33, y34, y35, y36, y37, y38, y39, y40, y41, y42, y43, y44, y45, y46, y47, y48, y49, y50, y51, y52, y53, y54, y55, y56, y57, y58, y59, y60, y61, y62], []⟩ w') :
    Code.rounds Try.prog body Q (N + 1) ⟨#[.slice (some ⟨g, 0, none⟩) L cap, .int .i64 L, .func (.func 27) #[] #[], x3, x4, x5, .int .i64 s, .int .i64 a, .int .i64 (a + 2 * s), x9, x10, x11, x12, x13, x14, x15, x16, x17, x18, x19, x20, x21, x22, x23, x24, x25, x26, x27, x28, x29, x30, x31, x32, x33, x34, x35, x36, x37, x38, x39, x40, x41, x42, x43, x44, x45, x46, x47, x48, x49, x50, x51, x52, x53, x54, x55, x56, x57, x58, x59, x60, x61, x62], []⟩ w := by
  have hbody := merge_body rfl hB
  clear hB
  subst hbody
  have hcont := Aside0.mk cont
  clear cont
  rw [rounds_succ]
  go_wp2_with (go_at_call 39; refine (SY _ g L cap a (a + s) (a + 2 * s) f HF.out (by omega) (by omega) hb hl).mono ?_; rintro e w' ⟨rfl, f', h1, h2, h3⟩; have F2 := Aside0.mk h1; have G2 := Aside0.mk h2; have P2 := Aside0.mk h3; clear h1 h2 h3)

  exact hcont.out _ f' _ _ _ _ _ _ _ _ _ _ _ _ _ _ _ _ _ _ _ _ _ _ _ _ _ _ _ _ _ _ _ _ _ _ _ _ _ _ _ _ _ _ _ _ _ _ _ _ _ _ _ _ _ _ _ _ _ F2.out G2.out P2.out
set_option maxRecDepth 100000 in
set_option maxHeartbeats 4000000 in
theorem merge_end {w : World} {g L cap a s : Nat} {Q : Exit → Act → World → Prop} {N z2 z3 z4 : Nat} {r0 r1 b0 r6 r7 c7 r8 body tl r16 : Code} {x3 x4 x5 x9 x10 x11 x12 x13 x14 x15 x16 x17 x18 x19 x20 x21 x22 x23 x24 x25 x26 x27 x28 x29 x30 x31 x32 x33 x34 x35 x36 x37 x38 x39 x40 x41 x42 x43 x44 x45 x46 x47 x48 x49 x50 x51 x52 x53 x54 x55 x56 x57 x58 x59 x60 x61 x62 : Value} (hB : Try.f33.body = some (.seq r0 (.seq r1 (.seq b0 (.seq r6 (.block z2 (.loop (.seq (.seq r7 c7) (.block z3 (.seq r8 (.seq (.block z4 (.loop body)) (.seq tl r16)))))))))))) (hb : L < a + 2 * s) (ha : a ≤ L) (hs : s < L) (hl : L ≤ 100)
    (cont : ∀ (y3 y4 y5 y9 y10 y11 y12 y13 y14 y15 y16 y17 y18 y19 y20 y21 y22 y23 y24 y25 y26 y27 y28 y29 y30 y31 y32 y33 y34 y35 y36 y37 y38 y39 y40 y41 y42 y43 y44 y45 y46 y47 y48 y49 y50 y51 y52 y53 y54 y55 y56 y57 y58 y59 y60 y61 y62 : Value), Q (.exit 4) ⟨#[.slice (some ⟨g, 0, none⟩) L cap, .int .i64 L, .func (.func 27) #[] #[], y3, y4, y5, .int .i64 s, .int .i64 a, .int .i64 (a + 2 * s), y9, y10, y11, y12, y13, y14, y15, y16, y17, y18, y19, y20, y21, y22, y23, y24, y25, y26, y27, y28, y29, y30, y31, y32, y33, y34, y35, y36, y37, y38, y39, y40, y41, y42, y43, y44, y45, y46, y47, y48, y49, y50, y51, y52, y53, y54, y55, y56, y57, y58, y59, y60, y61, y62], []⟩ w) : Code.rounds Try.prog body Q (N + 1) ⟨#[.slice (some ⟨g, 0, none⟩) L cap, .int .i64 L, .func (.func 27) #[] #[], x3, x4, x5, .int .i64 s, .int .i64 a, .int .i64 (a + 2 * s), x9, x10, x11, x12, x13, x14, x15, x16, x17, x18, x19, x20, x21, x22, x23, x24, x25, x26, x27, x28, x29, x30, x31, x32, x33, x34, x35, x36, x37, x38, x39, x40, x41, x42, x43, x44, x45, x46, x47, x48, x49, x50, x51, x52, x53, x54, x55, x56, x57, x58, x59, x60, x61, x62], []⟩ w := by
  have hbody := merge_body rfl hB
  clear hB
  subst hbody
  have hcont := Aside0.mk cont
  clear cont
  rw [rounds_succ]
  go_wp2
  exact hcont.out _ _ _ _ _ _ _ _ _ _ _ _ _ _ _ _ _ _ _ _ _ _ _ _ _ _ _ _ _ _ _ _ _ _ _ _ _ _ _ _ _ _ _ _ _ _ _ _ _ _ _ _ _ _ _ _ _
theorem merge_loop (SY : SymP) {w0 : World} {g L cap s : Nat} {f0 : Nat → G3} {Q : Exit → Act → World → Prop} {z2 z3 z4 : Nat} {r0 r1 b0 r6 r7 c7 r8 body tl r16 : Code} (hB : Try.f33.body = some (.seq r0 (.seq r1 (.seq b0 (.seq r6 (.block z2 (.loop (.seq (.seq r7 c7) (.block z3 (.seq r8 (.seq (.block z4 (.loop body)) (.seq tl r16)))))))))))) (hl : L ≤ 100) (hz : Sz s) (hs0 : 0 < s) (hs : s < L)
    (hK : ∀ (w' : World) (a : Nat) (f' : Nat → G3) (y3 y4 y5 y9 y10 y11 y12 y13 y14 y15 y16 y17 y18 y19 y20 y21 y22 y23 y24 y25 y26 y27 y28 y29 y30 y31 y32 y33 y34 y35 y36 y37 y38 y39 y40 y41 y42 y43 y44 y45 y46 y47 y48 y49 y50 y51 y52 y53 y54 y55 y56 y57 y58 y59 y60 y61 y62 : Value), a ≤ L → L < a + 2 * s → a % (2 * s) = 0 → RowF w' g L f' → w0.grownBy w' (some g) → SOrd L f0 (Blk L s a) f' → Q (.exit 4) ⟨#[.slice (some ⟨g, 0, none⟩) L cap, .int .i64 L, .func (.func 27) #[] #[], y3, y4, y5, .int .i64 s, .int .i64 a, .int .i64 (a + 2 * s), y9, y10, y11, y12, y13, y14, y15, y16, y17, y18, y19, y20, y21, y22, y23, y24, y25, y26, y27, y28, y29, y30, y31, y32, y33, y34, y35, y36, y37, y38, y39, y40, y41, y42, y43, y44, y45, y46, y47, y48, y49, y50, y51, y52, y53, y54, y55, y56, y57, y58, y59, y60, y61, y62], []⟩ w') :
    ∀ (d a : Nat) (f : Nat → G3) (w : World) {y3 y4 y5 y9 y10 y11 y12 y13 y14 y15 y16 y17 y18 y19 y20 y21 y22 y23 y24 y25 y26 y27 y28 y29 y30 y31 y32 y33 y34 y35 y36 y37 y38 y39 y40 y41 y42 y43 y44 y45 y46 y47 y48 y49 y50 y51 y52 y53 y54 y55 y56 y57 y58 y59 y60 y61 y62 : Value}, L ≤ a + d → a ≤ L → a % (2 * s) = 0 → RowF w g L f → w0.grownBy w (some g) → SOrd L f0 (Blk L s a) f → Code.rounds Try.prog body Q (d + 1) ⟨#[.slice (some ⟨g, 0, none⟩) L cap, .int .i64 L, .func (.func 27) #[] #[], y3, y4, y5, .int .i64 s, .int .i64 a, .int .i64 (a + 2 * s), y9, y10, y11, y12, y13, y14, y15, y16, y17, y18, y19, y20, y21, y22, y23, y24, y25, y26, y27, y28, y29, y30, y31, y32, y33, y34, y35, y36, y37, y38, y39, y40, y41, y42, y43, y44, y45, y46, y47, y48, y49, y50, y51, y52, y53, y54, y55, y56, y57, y58, y59, y60, y61, y62], []⟩ w := by
  intro d
  induction d with
  | zero =>
    intro a f w y3 y4 y5 y9 y10 y11 y12 y13 y14 y15 y16 y17 y18 y19 y20 y21 y22 y23 y24 y25 y26 y27 y28 y29 y30 y31 y32 y33 y34 y35 y36 y37 y38 y39 y40 y41 y42 y43 y44 y45 y46 y47 y48 y49 y50 y51 y52 y53 y54 y55 y56 y57 y58 y59 y60 y61 y62 h1 h2 h3 HF HG HP
    exact merge_end hB (by omega) h2 hs hl (fun y3 y4 y5 y9 y10 y11 y12 y13 y14 y15 y16 y17 y18 y19 y20 y21 y22 y23 y24 y25 y26 y27 y28 y29 y30 y31 y32 y33 y34 y35 y36 y37 y38 y39 y40 y41 y42 y43 y44 y45 y46 y47 y48 y49 y50 y51 y52 y53 y54 y55 y56 y57 y58 y59 y60 y61 y62 => hK w a f y3 y4 y5 y9 y10 y11 y12 y13 y14 y15 y16 y17 y18 y19 y20 y21 y22 y23 y24 y25 y26 y27 y28 y29 y30 y31 y32 y33 y34 y35 y36 y37 y38 y39 y40 y41 y42 y43 y44 y45 y46 y47 y48 y49 y50 y51 y52 y53 y54 y55 y56 y57 y58 y59 y60 y61 y62 h2 (by omega) h3 HF HG HP)
  | succ d ih =>
    intro a f w y3 y4 y5 y9 y10 y11 y12 y13 y14 y15 y16 y17 y18 y19 y20 y21 y22 y23 y24 y25 y26 y27 y28 y29 y30 y31 y32 y33 y34 y35 y36 y37 y38 y39 y40 y41 y42 y43 y44 y45 y46 y47 y48 y49 y50 y51 y52 y53 y54 y55 y56 y57 y58 y59 y60 y61 y62 h1 h2 h3 HF HG HP
    by_cases e : a + 2 * s ≤ L
    · exact merge_round SY hB ⟨HF⟩ hs0 e hl (fun w' f' y3 y4 y5 y9 y10 y11 y12 y13 y14 y15 y16 y17 y18 y19 y20 y21 y22 y23 y24 y25 y26 y27 y28 y29 y30 y31 y32 y33 y34 y35 y36 y37 y38 y39 y40 y41 y42 y43 y44 y45 y46 y47 y48 y49 y50 y51 y52 y53 y54 y55 y56 y57 y58 y59 y60 y61 y62 F' G' P' => ih (a + 2 * s) f' w' (by omega) e (by rw [Nat.add_mod_right]; exact h3) F' (grown_trans HG G') (HP.merge hz h3 (Or.inl rfl) (by omega) e P'))
    · exact merge_end hB (by omega) h2 hs hl (fun y3 y4 y5 y9 y10 y11 y12 y13 y14 y15 y16 y17 y18 y19 y20 y21 y22 y23 y24 y25 y26 y27 y28 y29 y30 y31 y32 y33 y34 y35 y36 y37 y38 y39 y40 y41 y42 y43 y44 y45 y46 y47 y48 y49 y50 y51 y52 y53 y54 y55 y56 y57 y58 y59 y60 y61 y62 => hK w a f y3 y4 y5 y9 y10 y11 y12 y13 y14 y15 y16 y17 y18 y19 y20 y21 y22 y23 y24 y25 y26 y27 y28 y29 y30 y31 y32 y33 y34 y35 y36 y37 y38 y39 y40 y41 y42 y43 y44 y45 y46 y47 y48 y49 y50 y51 y52 y53 y54 y55 y56 y57 y58 y59 y60 y61 y62 h2 (by omega) h3 HF HG HP)
end Go.Proofs.Ytikbgoppmailjaa.H
/- stableCmpFunc over a row of leases: the outer loop. -/
namespace Go.Proofs.Ytikbgoppmailjaa.H
open Go.RowKit Go.HK Go.Maps Go.Sort Go.Lib Go.WideShapes Go.ChangeShapes Go.Proofs.YtikbgoppmailjaaW.PrintWords Go.Proofs.YtikbgoppmailjaaW.PrintLast Go.Proofs.YtikbgoppmailjaaW.PrintMore
set_option linter.unusedVariables false
set_option linter.unusedSimpArgs false
theorem outer_body {r0 r1 b0 r6 body r0' r1' b0' r6' body' : Code} {z2 z2' : Nat} (h : Try.f33.body = some (.seq r0 (.seq r1 (.seq b0 (.seq r6 (.block z2 (.loop body))))))) (h' : Try.f33.body = some (.seq r0' (.seq r1' (.seq b0' (.seq r6' (.block z2' (.loop body'))))))) : body' = body := by
  rw [h] at h'
  injection h' with h'
  injection h' with _ h'
  injection h' with _ h'
  injection h' with _ h'
  injection h' with _ h'
  injection h' with _ h'
  injection h' with h'
  exact h'.symm
set_option maxRecDepth 100000 in
set_option maxHeartbeats 4000000 in
theorem outer_round (SY : SymP) {w : World} {g L cap s : Nat} {f0 f : Nat → G3} {Q : Exit → Act → World → Prop} {N z2 : Nat} {r0 r1 b0 r6 body : Code} {x3 x4 x5 x7 x8 x9 x10 x11 x12 x13 x14 x15 x16 x17 x18 x19 x20 x21 x22 x23 x24 x25 x26 x27 x28 x29 x30 x31 x32 x33 x34 x35 x36 x37 x38 x39 x40 x41 x42 x43 x44 x45 x46 x47 x48 x49 x50 x51 x52 x53 x54 x55 x56 x57 x58 x59 x60 x61 x62 : Value} (hB : Try.f33.body = some (.seq r0 (.seq r1 (.seq b0 (.seq r6 (.block z2 (.loop body))))))) (HF : Aside0 (RowF w g L f)) (HP : Aside0 (SOrd L f0 (Blk L s 0) f)) (hz : Sz s) (hs0 : 0 < s) (hs : s < L) (hl : L ≤ 100)
    (cont : ∀ (w' : World) (f' : Nat → G3) (y3 y4 y5 y7 y8 y9 y10 y11 y12 y13 y14 y15 y16 y17 y18 y19 y20 y21 y22 y23 y24 y25 y26 y27 y28 y29 y30 y31 y32 y33 y34 y35 y36 y37 y38 y39 y40 y41 y42 y43 y44 y45 y46 y47 y48 y49 y50 y51 y52 y53 y54 y55 y56 y57 y58 y59 y60 y61 y62 : Value), RowF w' g L f' → w.grownBy w' (some g) → SOrd L f0 (Blk L (s * 2) 0) f' → Code.rounds Try.prog body Q N ⟨#[.slice (some ⟨g, 0, none⟩) L cap, .int .i64 L, .func (.func 27) #[] #[], y3, y4, y5, .int .i64 (s * 2), y7, y8, y9, y10, y11, y12, y13, y14, y15, y16, y17, y18, y19, y20, y21, y22, y23, y24, y25, y26, y27, y28, y29, y30, y31, y32, y33, y34, y35, y36, y37, y38, y39, y40, y41, y42, y43, y44, y45, y46, y47, y48, y49, y50, y51, y52, y53, y54, y55, y56, y57, y58, y59, y60, y61, y62], []⟩ w') :
    Code.rounds Try.prog body Q (N + 1) ⟨#[.slice (some ⟨g, 0, none⟩) L cap, .int .i64 L, .func (.func 27) #[] #[], x3, x4, x5, .int .i64 s, x7, x8, x9, x10, x11, x12, x13, x14, x15, x16, x17, x18, x19, x20, x21, x22, x23, x24, x25, x26, x27, x28, x29, x30, x31, x32, x33, x34, x35, x36, x37, x38, x39, x40, x41, x42, x43, x44, x45, x46, x47, x48, x49, x50, x51, x52, x53, x54, x55, x56, x57, x58, x59, x60, x61, x62], []⟩ w := by
  have hbody := outer_body rfl hB
  clear hB
  subst hbody
  have hcont := Aside0.mk cont
  clear cont
  rw [rounds_succ]
  go_wp2
  have e0 : (2 * (s : Int)) = ((0 : Nat) : Int) + 2 * (s : Int) := by omega
  rw [e0]
  clear e0
  refine wp_loop_rounds (L + 1) ?_
  refine merge_loop SY (g := g) (L := L) (cap := cap) (s := s) (f0 := f0) rfl hl hz hs0 hs ?_ L 0 f w (by omega) (by omega) (Nat.zero_mod _) HF.out (World.grownBy.refl _ _) HP.out
  intro w1 a f1 y3 y4 y5 y9 y10 y11 y12 y13 y14 y15 y16 y17 y18 y19 y20 y21 y22 y23 y24 y25 y26 y27 y28 y29 y30 y31 y32 y33 y34 y35 y36 y37 y38 y39 y40 y41 y42 y43 y44 y45 y46 y47 y48 y49 y50 y51 y52 y53 y54 y55 y56 y57 y58 y59 y60 y61 y62 ha hlt hmod h1 h2 h3
  have F1 := Aside0.mk h1
  have G1 := Aside0.mk h2
  have P1 := Aside0.mk h3
  clear h1 h2 h3
  by_cases hm : a + s < L
  · go_wp2_with (go_at_call 39; refine (SY _ g L cap a (a + s) L f1 F1.out (by omega) hm (Nat.le_refl _) hl).mono ?_; rintro e w2 ⟨rfl, f2, p1, p2, p3⟩; have F2 := Aside0.mk p1; have G2 := Aside0.mk p2; have P2 := Aside0.mk p3; clear p1 p2 p3)
    exact hcont.out _ f2 _ _ _ _ _ _ _ _ _ _ _ _ _ _ _ _ _ _ _ _ _ _ _ _ _ _ _ _ _ _ _ _ _ _ _ _ _ _ _ _ _ _ _ _ _ _ _ _ _ _ _ _ _ _ _ _ _ _ _ F2.out (grown_trans G1.out G2.out) ((P1.out.merge hz hmod (Or.inr ⟨rfl, by omega⟩) (by omega) (Nat.le_refl _) P2.out).next hz hs hl (by rw [Nat.add_mod_right]; exact hmod) (by omega))
  · go_wp2
    exact hcont.out _ f1 _ _ _ _ _ _ _ _ _ _ _ _ _ _ _ _ _ _ _ _ _ _ _ _ _ _ _ _ _ _ _ _ _ _ _ _ _ _ _ _ _ _ _ _ _ _ _ _ _ _ _ _ _ _ _ _ _ _ _ F1.out G1.out (P1.out.next hz hs hl hmod (by omega))
end Go.Proofs.Ytikbgoppmailjaa.H
/- SortStableFunc over a row of leases, given SymMerge's word. -/
namespace Go.Proofs.Ytikbgoppmailjaa.H
open Go.RowKit Go.HK Go.Maps Go.Sort Go.Lib Go.WideShapes Go.ChangeShapes Go.Proofs.YtikbgoppmailjaaW.PrintWords Go.Proofs.YtikbgoppmailjaaW.PrintLast Go.Proofs.YtikbgoppmailjaaW.PrintMore
set_option linter.unusedVariables false
set_option linter.unusedSimpArgs false
set_option maxRecDepth 100000 in
set_option maxHeartbeats 4000000 in
theorem outer_end {w : World} {g L cap s : Nat} {Q : Exit → Act → World → Prop} {N z2 : Nat} {r0 r1 b0 r6 body : Code} {x3 x4 x5 x7 x8 x9 x10 x11 x12 x13 x14 x15 x16 x17 x18 x19 x20 x21 x22 x23 x24 x25 x26 x27 x28 x29 x30 x31 x32 x33 x34 x35 x36 x37 x38 x39 x40 x41 x42 x43 x44 x45 x46 x47 x48 x49 x50 x51 x52 x53 x54 x55 x56 x57 x58 x59 x60 x61 x62 : Value} (hB : Try.f33.body = some (.seq r0 (.seq r1 (.seq b0 (.seq r6 (.block z2 (.loop body))))))) (hs : L ≤ s) (hl : L ≤ 100) (hs2 : s ≤ 200)
    (cont : ∀ (y3 y4 y5 y7 y8 y9 y10 y11 y12 y13 y14 y15 y16 y17 y18 y19 y20 y21 y22 y23 y24 y25 y26 y27 y28 y29 y30 y31 y32 y33 y34 y35 y36 y37 y38 y39 y40 y41 y42 y43 y44 y45 y46 y47 y48 y49 y50 y51 y52 y53 y54 y55 y56 y57 y58 y59 y60 y61 y62 : Value), Q (.exit 2) ⟨#[.slice (some ⟨g, 0, none⟩) L cap, .int .i64 L, .func (.func 27) #[] #[], y3, y4, y5, .int .i64 s, y7, y8, y9, y10, y11, y12, y13, y14, y15, y16, y17, y18, y19, y20, y21, y22, y23, y24, y25, y26, y27, y28, y29, y30, y31, y32, y33, y34, y35, y36, y37, y38, y39, y40, y41, y42, y43, y44, y45, y46, y47, y48, y49, y50, y51, y52, y53, y54, y55, y56, y57, y58, y59, y60, y61, y62], []⟩ w) : Code.rounds Try.prog body Q (N + 1) ⟨#[.slice (some ⟨g, 0, none⟩) L cap, .int .i64 L, .func (.func 27) #[] #[], x3, x4, x5, .int .i64 s, x7, x8, x9, x10, x11, x12, x13, x14, x15, x16, x17, x18, x19, x20, x21, x22, x23, x24, x25, x26, x27, x28, x29, x30, x31, x32, x33, x34, x35, x36, x37, x38, x39, x40, x41, x42, x43, x44, x45, x46, x47, x48, x49, x50, x51, x52, x53, x54, x55, x56, x57, x58, x59, x60, x61, x62], []⟩ w := by
  have hbody := outer_body rfl hB
  clear hB
  subst hbody
  have hcont := Aside0.mk cont
  clear cont
  rw [rounds_succ]
  go_wp2
  exact hcont.out _ _ _ _ _ _ _ _ _ _ _ _ _ _ _ _ _ _ _ _ _ _ _ _ _ _ _ _ _ _ _ _ _ _ _ _ _ _ _ _ _ _ _ _ _ _ _ _ _ _ _ _ _ _ _ _ _ _ _
theorem outer_loop (SY : SymP) {w0 : World} {g L cap : Nat} {f0 : Nat → G3} {Q : Exit → Act → World → Prop} {z2 : Nat} {r0 r1 b0 r6 body : Code} (hB : Try.f33.body = some (.seq r0 (.seq r1 (.seq b0 (.seq r6 (.block z2 (.loop body))))))) (hl : L ≤ 100)
    (hK : ∀ (w' : World) (s : Nat) (f' : Nat → G3) (y3 y4 y5 y7 y8 y9 y10 y11 y12 y13 y14 y15 y16 y17 y18 y19 y20 y21 y22 y23 y24 y25 y26 y27 y28 y29 y30 y31 y32 y33 y34 y35 y36 y37 y38 y39 y40 y41 y42 y43 y44 y45 y46 y47 y48 y49 y50 y51 y52 y53 y54 y55 y56 y57 y58 y59 y60 y61 y62 : Value), RowF w' g L f' → w0.grownBy w' (some g) → SOrd L f0 (Srt 0 L) f' → Q (.exit 2) ⟨#[.slice (some ⟨g, 0, none⟩) L cap, .int .i64 L, .func (.func 27) #[] #[], y3, y4, y5, .int .i64 s, y7, y8, y9, y10, y11, y12, y13, y14, y15, y16, y17, y18, y19, y20, y21, y22, y23, y24, y25, y26, y27, y28, y29, y30, y31, y32, y33, y34, y35, y36, y37, y38, y39, y40, y41, y42, y43, y44, y45, y46, y47, y48, y49, y50, y51, y52, y53, y54, y55, y56, y57, y58, y59, y60, y61, y62], []⟩ w') :
    ∀ (d s : Nat) (f : Nat → G3) (w : World) {y3 y4 y5 y7 y8 y9 y10 y11 y12 y13 y14 y15 y16 y17 y18 y19 y20 y21 y22 y23 y24 y25 y26 y27 y28 y29 y30 y31 y32 y33 y34 y35 y36 y37 y38 y39 y40 y41 y42 y43 y44 y45 y46 y47 y48 y49 y50 y51 y52 y53 y54 y55 y56 y57 y58 y59 y60 y61 y62 : Value}, L ≤ s + d → 0 < s → Sz s → RowF w g L f → w0.grownBy w (some g) → SOrd L f0 (Blk L s 0) f → Code.rounds Try.prog body Q (d + 1) ⟨#[.slice (some ⟨g, 0, none⟩) L cap, .int .i64 L, .func (.func 27) #[] #[], y3, y4, y5, .int .i64 s, y7, y8, y9, y10, y11, y12, y13, y14, y15, y16, y17, y18, y19, y20, y21, y22, y23, y24, y25, y26, y27, y28, y29, y30, y31, y32, y33, y34, y35, y36, y37, y38, y39, y40, y41, y42, y43, y44, y45, y46, y47, y48, y49, y50, y51, y52, y53, y54, y55, y56, y57, y58, y59, y60, y61, y62], []⟩ w := by
  intro d
  induction d with
  | zero =>
    intro s f w y3 y4 y5 y7 y8 y9 y10 y11 y12 y13 y14 y15 y16 y17 y18 y19 y20 y21 y22 y23 y24 y25 y26 y27 y28 y29 y30 y31 y32 y33 y34 y35 y36 y37 y38 y39 y40 y41 y42 y43 y44 y45 y46 y47 y48 y49 y50 y51 y52 y53 y54 y55 y56 y57 y58 y59 y60 y61 y62 h1 h2 h3 HF HG HP
    exact outer_end hB (by omega) hl (by rcases h3 with rfl | rfl | rfl | rfl <;> omega) (fun y3 y4 y5 y7 y8 y9 y10 y11 y12 y13 y14 y15 y16 y17 y18 y19 y20 y21 y22 y23 y24 y25 y26 y27 y28 y29 y30 y31 y32 y33 y34 y35 y36 y37 y38 y39 y40 y41 y42 y43 y44 y45 y46 y47 y48 y49 y50 y51 y52 y53 y54 y55 y56 y57 y58 y59 y60 y61 y62 => hK w s f y3 y4 y5 y7 y8 y9 y10 y11 y12 y13 y14 y15 y16 y17 y18 y19 y20 y21 y22 y23 y24 y25 y26 y27 y28 y29 y30 y31 y32 y33 y34 y35 y36 y37 y38 y39 y40 y41 y42 y43 y44 y45 y46 y47 y48 y49 y50 y51 y52 y53 y54 y55 y56 y57 y58 y59 y60 y61 y62 HF HG (HP.done h3 (by omega)))
  | succ d ih =>
    intro s f w y3 y4 y5 y7 y8 y9 y10 y11 y12 y13 y14 y15 y16 y17 y18 y19 y20 y21 y22 y23 y24 y25 y26 y27 y28 y29 y30 y31 y32 y33 y34 y35 y36 y37 y38 y39 y40 y41 y42 y43 y44 y45 y46 y47 y48 y49 y50 y51 y52 y53 y54 y55 y56 y57 y58 y59 y60 y61 y62 h1 h2 h3 HF HG HP
    by_cases e : s < L
    · exact outer_round SY hB ⟨HF⟩ ⟨HP⟩ h3 h2 e hl (fun w' f' y3 y4 y5 y7 y8 y9 y10 y11 y12 y13 y14 y15 y16 y17 y18 y19 y20 y21 y22 y23 y24 y25 y26 y27 y28 y29 y30 y31 y32 y33 y34 y35 y36 y37 y38 y39 y40 y41 y42 y43 y44 y45 y46 y47 y48 y49 y50 y51 y52 y53 y54 y55 y56 y57 y58 y59 y60 y61 y62 F' G' P' => ih (s * 2) f' w' (by omega) (by omega) (by unfold Sz at h3 ⊢; omega) F' (grown_trans HG G') P')
    · exact outer_end hB (by omega) hl (by rcases h3 with rfl | rfl | rfl | rfl <;> omega) (fun y3 y4 y5 y7 y8 y9 y10 y11 y12 y13 y14 y15 y16 y17 y18 y19 y20 y21 y22 y23 y24 y25 y26 y27 y28 y29 y30 y31 y32 y33 y34 y35 y36 y37 y38 y39 y40 y41 y42 y43 y44 y45 y46 y47 y48 y49 y50 y51 y52 y53 y54 y55 y56 y57 y58 y59 y60 y61 y62 => hK w s f y3 y4 y5 y7 y8 y9 y10 y11 y12 y13 y14 y15 y16 y17 y18 y19 y20 y21 y22 y23 y24 y25 y26 y27 y28 y29 y30 y31 y32 y33 y34 y35 y36 y37 y38 y39 y40 y41 y42 y43 y44 y45 y46 y47 y48 y49 y50 y51 y52 y53 y54 y55 y56 y57 y58 y59 y60 y61 y62 HF HG (HP.done h3 (by omega)))
set_option maxRecDepth 100000 in
set_option maxHeartbeats 4000000 in
theorem stable_calls (SY : SymP) {w : World} {g L cap : Nat} {f : Nat → G3} (hF : RowF w g L f) (hl : L ≤ 100) :
    Calls Try.prog 33 #[.slice (some ⟨g, 0, none⟩) L cap, .int .i64 L, .func (.func 27) #[] #[]] w fun e w' => e = .returned (.tuple #[]) ∧ ∃ f', RowF w' g L f' ∧ w.grownBy w' (some g) ∧ SOrd L f (Srt 0 L) f' := by
  have F := Aside0.mk hF
  clear hF
  go_enter Try.func33, Try.ntmps33
  go_wp2
  refine wp_loop_rounds (L + 1) ?_
  refine blocks_loop (g := g) (L := L) (cap := cap) (f0 := f) rfl hl ?_ L 0 f w (by omega) (by omega) rfl F.out (World.grownBy.refl _ _) SOrd.start
  intro w1 a f1 y3 y4 y5 y9 y10 y11 y12 y13 y14 y15 y16 y17 y18 y19 y20 y21 y22 y23 y24 y25 y26 y27 y28 y29 y30 y31 y32 y33 y34 y35 y36 y37 y38 y39 y40 y41 y42 y43 y44 y45 y46 y47 y48 y49 y50 y51 y52 y53 y54 y55 y56 y57 y58 y59 y60 y61 y62 ha hlt hmod h1 h2 h3
  have F1 := Aside0.mk h1
  have G1 := Aside0.mk h2
  have P1 := Aside0.mk h3
  clear h1 h2 h3
  go_wp2_with (go_at_call 38; refine (ins_calls (a := a) (b := L) F1.out ha (Nat.le_refl _) (by omega)).mono ?_; rintro e w2 ⟨rfl, h1, h2⟩; have F2 := Aside0.mk h1; have G2 := Aside0.mk (grown_trans G1.out h2); have P2 := Aside0.mk (P1.out.ins hmod (Or.inr ⟨rfl, by omega⟩) ha (Nat.le_refl _) (ins_post L a L f1 ha (Nat.le_refl _))); clear h1 h2)
  refine wp_loop_rounds (L + 1) ?_
  refine outer_loop SY (g := g) (L := L) (cap := cap) (f0 := f) rfl hl ?_ L 20 _ w2 (by omega) (by omega) (Or.inl rfl) F2.out G2.out P2.out.blocks
  intro w3 s f3 y3 y4 y5 y7 y8 y9 y10 y11 y12 y13 y14 y15 y16 y17 y18 y19 y20 y21 y22 y23 y24 y25 y26 y27 y28 y29 y30 y31 y32 y33 y34 y35 y36 y37 y38 y39 y40 y41 y42 y43 y44 y45 y46 y47 y48 y49 y50 y51 y52 y53 y54 y55 y56 y57 y58 y59 y60 y61 y62 q1 q2 q3
  have F3 := Aside0.mk q1
  have G3' := Aside0.mk q2
  have P3 := Aside0.mk q3
  clear q1 q2 q3
  go_wp2
  go_end0
  exact ⟨rfl, f3, F3.out, G3'.out, P3.out⟩
set_option maxRecDepth 100000 in
theorem sort_word (SY : SymP) : SortP StableP := by
  intro w g L cap f hF hl
  have F := Aside0.mk hF
  clear hF
  go_enter Try.func26, Try.ntmps26
  go_wp2_with (go_at_call 33; refine (stable_calls SY F.out hl).mono ?_; rintro e w2 ⟨rfl, f', h1, h2, h3⟩; have F2 := Aside0.mk h1; have G2 := Aside0.mk h2; have P2 := Aside0.mk h3; clear h1 h2 h3)
  go_end0
  exact ⟨rfl, f', F2.out, G2.out, P2.out.word⟩
end Go.Proofs.Ytikbgoppmailjaa.H
