import Derived.Test.YtikbgoppmailjaaHLs27
/- SortStableFunc over a row of leases, given SymMerge's word. -/
namespace Go.Proofs.Ytikbgoppmailjaa.H
open Go.RowKit Go.HK Go.Maps Go.Sort Go.Lib Go.WideShapes Go.ChangeShapes Go.Proofs.YtikbgoppmailjaaW.PrintWords Go.Proofs.YtikbgoppmailjaaW.PrintLast Go.Proofs.YtikbgoppmailjaaW.PrintMore
set_option linter.unusedVariables false
set_option linter.unusedSimpArgs false
set_option maxRecDepth 100000 in
set_option maxHeartbeats 4000000 in
theorem outer_end {w : World} {g L cap s : Nat} {Q : Exit → Act → World → Prop} {N z2 : Nat} {r0 r1 b0 r6 body : Code} {x3 x4 x5 x7 x8 x9 x10 x11 x12 x13 x14 x15 x16 x17 x18 x19 x20 x21 x22 x23 x24 x25 x26 x27 x28 x29 x30 x31 x32 x33 x34 x35 x36 x37 x38 x39 x40 x41 x42 x43 x44 x45 x46 x47 x48 x49 x50 x51 x52 x53 x54 x55 x56 x57 x58 x59 x60 x61 x62 : Value} (hB : Try.f33.body = some (.seq r0 (.seq r1 (.seq b0 (.seq r6 (.block z2 (.loop body))))))) (hs : L ≤ s) (hl : L ≤ 100) (hs2 : s ≤ 200)
    (cont : ∀ (y3 y4 y5 y7 y8 y9 y10 y11 y12 y13 y14 y15 y16 y17 y18 y19 y20 y21 y22 y23 y24 y25 y26 y27 y28 y29 y30 y31 y32 y33 y34 y35 y36 y37 y38 y39 y40 y41 y42 y43 y44 y45 y46 y47 y48 y49 y50 y51 y52 y53 y54 y55 y56 y57 y58 y59 y60 y61 y62 : Value), Q (.exit 2) ⟨#[.slice (some ⟨g, 0, none⟩) L cap, .int .i64 L, .func (.func 27) #[] #[], y3, y4, y5, .int .i64 s, y7, y8, y9, y10, y11, y12, y13, y14, y15, y16, y17, y18, y19, y20, y21, y22, y23, y24, y25, y26, y27, y28, y29, y30, y31, y32, y33, y34, y35, y36, y37, y38, y39, y40, y41, y42, y43, y44, y45, y46, y47, y48, y49, y50, y51, y52, y53, y54, y55, y56, y57, y58, y59, y60, y61, y62], []⟩ w) : Code.rounds Try.prog body Q (N + 1) ⟨#[.slice (some ⟨g, 0, none⟩) L cap, .int .i64 L, .func (.func 27) #[] #[], x3, x4, x5, .int .i64 s, x7, x8, x9, x10, x11, x12, x13, x14, x15, x16, x17, x18, x19, x20, x21, x22, x23, x24, x25, x26, x27, x28, x29, x30, x31, x32, x33, x34, x35, x36, x37, x38, x39, x40, x41, x42, x43, x44, x45, x46, x47, x48, x49, x50, x51, x52, x53, x54, x55, x56, x57, x58, x59, x60, x61, x62], []⟩ w := by
  have hbody := outer_body rfl hB
  clear hB
  subst hbody
  have hcont := Aside0.mk cont
  clear cont
  rw [rounds_succ]
  go_wp2
  exact hcont.out _ _ _ _ _ _ _ _ _ _ _ _ _ _ _ _ _ _ _ _ _ _ _ _ _ _ _ _ _ _ _ _ _ _ _ _ _ _ _ _ _ _ _ _ _ _ _ _ _ _ _ _ _ _ _ _ _ _ _
theorem outer_loop (SY : SymP) {w0 : World} {g L cap : Nat} {f0 : Nat → G3} {Q : Exit → Act → World → Prop} {z2 : Nat} {r0 r1 b0 r6 body : Code} (hB : Try.f33.body = some (.seq r0 (.seq r1 (.seq b0 (.seq r6 (.block z2 (.loop body))))))) (hl : L ≤ 100)
    (hK : ∀ (w' : World) (s : Nat) (f' : Nat → G3) (y3 y4 y5 y7 y8 y9 y10 y11 y12 y13 y14 y15 y16 y17 y18 y19 y20 y21 y22 y23 y24 y25 y26 y27 y28 y29 y30 y31 y32 y33 y34 y35 y36 y37 y38 y39 y40 y41 y42 y43 y44 y45 y46 y47 y48 y49 y50 y51 y52 y53 y54 y55 y56 y57 y58 y59 y60 y61 y62 : Value), RowF w' g L f' → w0.grownBy w' (some g) → SOrd L f0 (Srt 0 L) f' → Q (.exit 2) ⟨#[.slice (some ⟨g, 0, none⟩) L cap, .int .i64 L, .func (.func 27) #[] #[], y3, y4, y5, .int .i64 s, y7, y8, y9, y10, y11, y12, y13, y14, y15, y16, y17, y18, y19, y20, y21, y22, y23, y24, y25, y26, y27, y28, y29, y30, y31, y32, y33, y34, y35, y36, y37, y38, y39, y40, y41, y42, y43, y44, y45, y46, y47, y48, y49, y50, y51, y52, y53, y54, y55, y56, y57, y58, y59, y60, y61, y62], []⟩ w') :
    ∀ (d s : Nat) (f : Nat → G3) (w : World) {y3 y4 y5 y7 y8 y9 y10 y11 y12 y13 y14 y15 y16 y17 y18 y19 y20 y21 y22 y23 y24 y25 y26 y27 y28 y29 y30 y31 y32 y33 y34 y35 y36 y37 y38 y39 y40 y41 y42 y43 y44 y45 y46 y47 y48 y49 y50 y51 y52 y53 y54 y55 y56 y57 y58 y59 y60 y61 y62 : Value}, L ≤ s + d → 0 < s → Sz s → RowF w g L f → w0.grownBy w (some g) → SOrd L f0 (Blk L s 0) f → Code.rounds Try.prog body Q (d + 1) ⟨#[.slice (some ⟨g, 0, none⟩) L cap, .int .i64 L, .func (.func 27) #[] #[], y3, y4, y5, .int .i64 s, y7, y8, y9, y10, y11, y12, y13, y14, y15, y16, y17, y18, y19, y20, y21, y22, y23, y24, y25, y26, y27, y28, y29, y30, y31, y32, y33, y34, y35, y36, y37, y38, y39, y40, y41, y42, y43, y44, y45, y46, y47, y48, y49, y50, y51, y52, y53, y54, y55, y56, y57, y58, y59, y60, y61, y62], []⟩ w := by
  intro d
  induction d with
  | zero =>
    intro s f w y3 y4 y5 y7 y8 y9 y10 y11 y12 y13 y14 y15 y16 y17 y18 y19 y20 y21 y22 y23 y24 y25 y26 y27 y28 y29 y30 y31 y32 y33 y34 y35 y36 y37 y38 y39 y40 y41 y42 y43 y44 y45 y46 y47 y48 y49 y50 y51 y52 y53 y54 y55 y56 y57 y58 y59 y60 y61 y62 h1 h2 h3 HF HG HP
    exact outer_end hB (by omega) hl (by rcases h3 with rfl | rfl | rfl | rfl <;> omega) (fun y3 y4 y5 y7 y8 y9 y10 y11 y12 y13 y14 y15 y16 y17 y18 y19 y20 y21 y22 y23 y24 y25 y26 y27 y28 y29 y30 y31 y32 y33 y34 y35 y36 y37 y38 y39 y40 y41 y42 y43 y44 y45 y46 y47 y48 y49 y50 y51 y52 y53 y54 y55 y56 y57 y58 y59 y60 y61 y62 => hK w s f y3 y4 y5 y7 y8 y9 y10 y11 y12 y13 y14 y15 y16 y17 y18 y19 y20 y21 y22 y23 y24 y25 y26 y27 y28 y29 y30 y31 y32 y33 y34 y35 y36 y37 y38 y39 y40 y41 y42 y43 y44 y45 y46 y47 y48 y49 y50 y51 y52 y53 y54 y55 y56 y57 y58 y59 y60 y61 y62 HF HG (HP.done h3 (by omega)))
  | succ d ih =>
    intro s f w y3 y4 y5 y7 y8 y9 y10 y11 y12 y13 y14 y15 y16 y17 y18 y19 y20 y21 y22 y23 y24 y25 y26 y27 y28 y29 y30 y31 y32 y33 y34 y35 y36 y37 y38 y39 y40 y41 y42 y43 y44 y45 y46 y47 y48 y49 y50 y51 y52 y53 y54 y55 y56 y57 y58 y59 y60 y61 y62 h1 h2 h3 HF HG HP
    by_cases e : s < L
    · exact outer_round SY hB ⟨HF⟩ ⟨HP⟩ h3 h2 e hl (fun w' f' y3 y4 y5 y7 y8 y9 y10 y11 y12 y13 y14 y15 y16 y17 y18 y19 y20 y21 y22 y23 y24 y25 y26 y27 y28 y29 y30 y31 y32 y33 y34 y35 y36 y37 y38 y39 y40 y41 y42 y43 y44 y45 y46 y47 y48 y49 y50 y51 y52 y53 y54 y55 y56 y57 y58 y59 y60 y61 y62 F' G' P' => ih (s * 2) f' w' (by omega) (by omega) (by unfold Sz at h3 ⊢; omega) F' (grown_trans HG G') P')
    · exact outer_end hB (by omega) hl (by rcases h3 with rfl | rfl | rfl | rfl <;> omega) (fun y3 y4 y5 y7 y8 y9 y10 y11 y12 y13 y14 y15 y16 y17 y18 y19 y20 y21 y22 y23 y24 y25 y26 y27 y28 y29 y30 y31 y32 y33 y34 y35 y36 y37 y38 y39 y40 y41 y42 y43 y44 y45 y46 y47 y48 y49 y50 y51 y52 y53 y54 y55 y56 y57 y58 y59 y60 y61 y62 => hK w s f y3 y4 y5 y7 y8 y9 y10 y11 y12 y13 y14 y15 y16 y17 y18 y19 y20 y21 y22 y23 y24 y25 y26 y27 y28 y29 y30 y31 y32 y33 y34 y35 y36 y37 y38 y39 y40 y41 y42 y43 y44 y45 y46 y47 y48 y49 y50 y51 y52 y53 y54 y55 y56 y57 y58 y59 y60 y61 y62 HF HG (HP.done h3 (by omega)))
set_option maxRecDepth 100000 in
set_option maxHeartbeats 4000000 in
theorem stable_calls (SY : SymP) {w : World} {g L cap : Nat} {f : Nat → G3} (hF : RowF w g L f) (hl : L ≤ 100) :
    Calls Try.prog 33 #[.slice (some ⟨g, 0, none⟩) L cap, .int .i64 L, .func (.func 27) #[] #[]] w fun e w' => e = .returned (.tuple #[]) ∧ ∃ f', RowF w' g L f' ∧ w.grownBy w' (some g) ∧ SOrd L f (Srt 0 L) f' := by
  have F := Aside0.mk hF
  clear hF
  go_enter Try.func33, Try.ntmps33
  go_wp2
  refine wp_loop_rounds (L + 1) ?_
  refine blocks_loop (g := g) (L := L) (cap := cap) (f0 := f) rfl hl ?_ L 0 f w (by omega) (by omega) rfl F.out (World.grownBy.refl _ _) SOrd.start
  intro w1 a f1 y3 y4 y5 y9 y10 y11 y12 y13 y14 y15 y16 y17 y18 y19 y20 y21 y22 y23 y24 y25 y26 y27 y28 y29 y30 y31 y32 y33 y34 y35 y36 y37 y38 y39 y40 y41 y42 y43 y44 y45 y46 y47 y48 y49 y50 y51 y52 y53 y54 y55 y56 y57 y58 y59 y60 y61 y62 ha hlt hmod h1 h2 h3
  have F1 := Aside0.mk h1
  have G1 := Aside0.mk h2
  have P1 := Aside0.mk h3
  clear h1 h2 h3
  go_wp2_with (go_at_call 38; refine (ins_calls (a := a) (b := L) F1.out ha (Nat.le_refl _) (by omega)).mono ?_; rintro e w2 ⟨rfl, h1, h2⟩; have F2 := Aside0.mk h1; have G2 := Aside0.mk (grown_trans G1.out h2); have P2 := Aside0.mk (P1.out.ins hmod (Or.inr ⟨rfl, by omega⟩) ha (Nat.le_refl _) (ins_post L a L f1 ha (Nat.le_refl _))); clear h1 h2)
  refine wp_loop_rounds (L + 1) ?_
  refine outer_loop SY (g := g) (L := L) (cap := cap) (f0 := f) rfl hl ?_ L 20 _ w2 (by omega) (by omega) (Or.inl rfl) F2.out G2.out P2.out.blocks
  intro w3 s f3 y3 y4 y5 y7 y8 y9 y10 y11 y12 y13 y14 y15 y16 y17 y18 y19 y20 y21 y22 y23 y24 y25 y26 y27 y28 y29 y30 y31 y32 y33 y34 y35 y36 y37 y38 y39 y40 y41 y42 y43 y44 y45 y46 y47 y48 y49 y50 y51 y52 y53 y54 y55 y56 y57 y58 y59 y60 y61 y62 q1 q2 q3
  have F3 := Aside0.mk q1
  have G3' := Aside0.mk q2
  have P3 := Aside0.mk q3
  clear q1 q2 q3
  go_wp2
  go_end0
  exact ⟨rfl, f3, F3.out, G3'.out, P3.out⟩
set_option maxRecDepth 100000 in
theorem sort_word (SY : SymP) : SortP StableP := by
  intro w g L cap f hF hl
  have F := Aside0.mk hF
  clear hF
  go_enter Try.func26, Try.ntmps26
  go_wp2_with (go_at_call 33; refine (stable_calls SY F.out hl).mono ?_; rintro e w2 ⟨rfl, f', h1, h2, h3⟩; have F2 := Aside0.mk h1; have G2 := Aside0.mk h2; have P2 := Aside0.mk h3; clear h1 h2 h3)
  go_end0
  exact ⟨rfl, f', F2.out, G2.out, P2.out.word⟩
end Go.Proofs.Ytikbgoppmailjaa.H
