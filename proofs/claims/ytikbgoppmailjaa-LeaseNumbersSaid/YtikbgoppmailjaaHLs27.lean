import Derived.Test.YtikbgoppmailjaaHLs26
/- stableCmpFunc over a row of leases: the outer loop. -/
namespace Go.Proofs.Ytikbgoppmailjaa.H
open Go.RowKit Go.HK Go.Maps Go.Sort Go.Lib Go.WideShapes Go.ChangeShapes Go.Proofs.YtikbgoppmailjaaW.PrintWords Go.Proofs.YtikbgoppmailjaaW.PrintLast Go.Proofs.YtikbgoppmailjaaW.PrintMore
set_option linter.unusedVariables false
set_option linter.unusedSimpArgs false
theorem outer_body {r0 r1 b0 r6 body r0' r1' b0' r6' body' : Code} {z2 z2' : Nat} (h : Try.f33.body = some (.seq r0 (.seq r1 (.seq b0 (.seq r6 (.block z2 (.loop body))))))) (h' : Try.f33.body = some (.seq r0' (.seq r1' (.seq b0' (.seq r6' (.block z2' (.loop body'))))))) : body' = body := by
  rw [h] at h'
  injection h' with h'
  injection h' with _ h'
  injection h' with _ h'
  injection h' with _ h'
  injection h' with _ h'
  injection h' with _ h'
  injection h' with h'
  exact h'.symm
set_option maxRecDepth 100000 in
set_option maxHeartbeats 4000000 in
theorem outer_round (SY : SymP) {w : World} {g L cap s : Nat} {f0 f : Nat → G3} {Q : Exit → Act → World → Prop} {N z2 : Nat} {r0 r1 b0 r6 body : Code} {x3 x4 x5 x7 x8 x9 x10 x11 x12 x13 x14 x15 x16 x17 x18 x19 x20 x21 x22 x23 x24 x25 x26 x27 x28 x29 x30 x31 x32 x33 x34 x35 x36 x37 x38 x39 x40 x41 x42 x43 x44 x45 x46 x47 x48 x49 x50 x51 x52 x53 x54 x55 x56 x57 x58 x59 x60 x61 x62 : Value} (hB : Try.f33.body = some (.seq r0 (.seq r1 (.seq b0 (.seq r6 (.block z2 (.loop body))))))) (HF : Aside0 (RowF w g L f)) (HP : Aside0 (SOrd L f0 (Blk L s 0) f)) (hz : Sz s) (hs0 : 0 < s) (hs : s < L) (hl : L ≤ 100)
    (cont : ∀ (w' : World) (f' : Nat → G3) (y3 y4 y5 y7 y8 y9 y10 y11 y12 y13 y14 y15 y16 y17 y18 y19 y20 y21 y22 y23 y24 y25 y26 y27 y28 y29 y30 y31 y32 y33 y34 y35 y36 y37 y38 y39 y40 y41 y42 y43 y44 y45 y46 y47 y48 y49 y50 y51 y52 y53 y54 y55 y56 y57 y58 y59 y60 y61 y62 : Value), RowF w' g L f' → w.grownBy w' (some g) → SOrd L f0 (Blk L (s * 2) 0) f' → Code.rounds Try.prog body Q N ⟨#[.slice (some ⟨g, 0, none⟩) L cap, .int .i64 L, .func (.func 27) #[] #[], y3, y4, y5, .int .i64 (s * 2), y7, y8, y9, y10, y11, y12, y13, y14, y15, y16, y17, y18, y19, y20, y21, y22, y23, y24, y25, y26, y27, y28, y29, y30, y31, y32, y33, y34, y35, y36, y37, y38, y39, y40, y41, y42, y43, y44, y45, y46, y47, y48, y49, y50, y51, y52, y53, y54, y55, y56, y57, y58, y59, y60, y61, y62], []⟩ w') :
    Code.rounds Try.prog body Q (N + 1) ⟨#[.slice (some ⟨g, 0, none⟩) L cap, .int .i64 L, .func (.func 27) #[] #[], x3, x4, x5, .int .i64 s, x7, x8, x9, x10, x11, x12, x13, x14, x15, x16, x17, x18, x19, x20, x21, x22, x23, x24, x25, x26, x27, x28, x29, x30, x31, x32, x33, x34, x35, x36, x37, x38, x39, x40, x41, x42, x43, x44, x45, x46, x47, x48, x49, x50, x51, x52, x53, x54, x55, x56, x57, x58, x59, x60, x61, x62], []⟩ w := by
  have hbody := outer_body rfl hB
  clear hB
  subst hbody
  have hcont := Aside0.mk cont
  clear cont
  rw [rounds_succ]
  go_wp2
  have e0 : (2 * (s : Int)) = ((0 : Nat) : Int) + 2 * (s : Int) := by omega
  rw [e0]
  clear e0
  refine wp_loop_rounds (L + 1) ?_
  refine merge_loop SY (g := g) (L := L) (cap := cap) (s := s) (f0 := f0) rfl hl hz hs0 hs ?_ L 0 f w (by omega) (by omega) (Nat.zero_mod _) HF.out (World.grownBy.refl _ _) HP.out
  intro w1 a f1 y3 y4 y5 y9 y10 y11 y12 y13 y14 y15 y16 y17 y18 y19 y20 y21 y22 y23 y24 y25 y26 y27 y28 y29 y30 y31 y32 y33 y34 y35 y36 y37 y38 y39 y40 y41 y42 y43 y44 y45 y46 y47 y48 y49 y50 y51 y52 y53 y54 y55 y56 y57 y58 y59 y60 y61 y62 ha hlt hmod h1 h2 h3
  have F1 := Aside0.mk h1
  have G1 := Aside0.mk h2
  have P1 := Aside0.mk h3
  clear h1 h2 h3
  by_cases hm : a + s < L
  · go_wp2_with (go_at_call 39; refine (SY _ g L cap a (a + s) L f1 F1.out (by omega) hm (Nat.le_refl _) hl).mono ?_; rintro e w2 ⟨rfl, f2, p1, p2, p3⟩; have F2 := Aside0.mk p1; have G2 := Aside0.mk p2; have P2 := Aside0.mk p3; clear p1 p2 p3)
    exact hcont.out _ f2 _ _ _ _ _ _ _ _ _ _ _ _ _ _ _ _ _ _ _ _ _ _ _ _ _ _ _ _ _ _ _ _ _ _ _ _ _ _ _ _ _ _ _ _ _ _ _ _ _ _ _ _ _ _ _ _ _ _ _ F2.out (grown_trans G1.out G2.out) ((P1.out.merge hz hmod (Or.inr ⟨rfl, by omega⟩) (by omega) (Nat.le_refl _) P2.out).next hz hs hl (by rw [Nat.add_mod_right]; exact hmod) (by omega))
  · go_wp2
    exact hcont.out _ f1 _ _ _ _ _ _ _ _ _ _ _ _ _ _ _ _ _ _ _ _ _ _ _ _ _ _ _ _ _ _ _ _ _ _ _ _ _ _ _ _ _ _ _ _ _ _ _ _ _ _ _ _ _ _ _ _ _ _ _ F1.out G1.out (P1.out.next hz hs hl hmod (by omega))
end Go.Proofs.Ytikbgoppmailjaa.H
