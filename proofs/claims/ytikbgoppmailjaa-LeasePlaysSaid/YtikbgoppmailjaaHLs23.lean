import Derived.Test.YtikbgoppmailjaaHLs22
/- rotateCmpFunc over a row of leases. -/
namespace Go.Proofs.Ytikbgoppmailjaa.H
open Go.RowKit Go.HK Go.Maps Go.WideShapes Go.ChangeShapes Go.Proofs.YtikbgoppmailjaaW.PrintWords Go.Proofs.YtikbgoppmailjaaW.PrintLast Go.Proofs.YtikbgoppmailjaaW.PrintMore
set_option linter.unusedVariables false
set_option linter.unusedSimpArgs false
theorem rot_body {r0 r1 body rt r0' r1' body' rt' : Code} {z z' : Nat} (h : Try.f43.body = some (.seq r0 (.seq r1 (.seq (.block z (.loop body)) rt)))) (h' : Try.f43.body = some (.seq r0' (.seq r1' (.seq (.block z' (.loop body')) rt')))) : body' = body := by
  rw [h] at h'
  injection h' with h'
  injection h' with _ h'
  injection h' with _ h'
  injection h' with h1 _
  injection h1 with _ h1
  injection h1 with h1
  exact h1.symm
set_option maxRecDepth 100000 in
set_option maxHeartbeats 4000000 in
theorem rot_gt {w : World} {g L cap a m b i j k : Nat} {c : Value} {f : Nat → G3} {K : Act → World → Prop} {R : Ending → World → Prop} {N z : Nat} {r0 r1 body rt : Code} {x5 x6 x7 x8 x9 x12 x13 x14 x15 x16 x17 x18 x19 x20 x21 x22 x23 x24 x25 x26 x27 x28 x29 x30 x31 x32 x33 x34 x35 x36 x37 x38 x39 x40 x41 x42 x43 x44 x45 x46 x47 x48 x49 x50 x51 x52 x53 x54 x55 x56 x57 : Value} (hB : Try.f43.body = some (.seq r0 (.seq r1 (.seq (.block z (.loop body)) rt)))) (HF : Aside0 (RowF w g L f)) (hi : i ≤ m) (hj : m + j ≤ L) (hl : L ≤ 100000) (hk : i = j + k) (hk0 : 0 < k)
    (cont : ∀ (w' : World) (y5 y6 y7 y8 y9 y12 y13 y14 y15 y16 y17 y18 y19 y20 y21 y22 y23 y24 y25 y26 y27 y28 y29 y30 y31 y32 y33 y34 y35 y36 y37 y38 y39 y40 y41 y42 y43 y44 y45 y46 y47 y48 y49 y50 y51 y52 y53 y54 y55 y56 y57 : Value), RowF w' g L (swapR f (m - i) m j) → w.grownBy w' (some g) → Code.rounds Try.prog body (Exit.inBlock 0 (Exit.then K (bodyPost Try.prog Try.f43 R))) N ⟨#[.slice (some ⟨g, 0, none⟩) L cap, .int .i64 a, .int .i64 m, .int .i64 b, c, y5, y6, y7, y8, y9, .int .i64 k, .int .i64 j, y12, y13, y14, y15, y16, y17, y18, y19, y20, y21, y22, y23, y24, y25, y26, y27, y28, y29, y30, y31, y32, y33, y34, y35, y36, y37, y38, y39, y40, y41, y42, y43, y44, y45, y46, y47, y48, y49, y50, y51, y52, y53, y54, y55, y56, y57], []⟩ w') :
    Code.rounds Try.prog body (Exit.inBlock 0 (Exit.then K (bodyPost Try.prog Try.f43 R))) (N + 1) ⟨#[.slice (some ⟨g, 0, none⟩) L cap, .int .i64 a, .int .i64 m, .int .i64 b, c, x5, x6, x7, x8, x9, .int .i64 i, .int .i64 j, x12, x13, x14, x15, x16, x17, x18, x19, x20, x21, x22, x23, x24, x25, x26, x27, x28, x29, x30, x31, x32, x33, x34, x35, x36, x37, x38, x39, x40, x41, x42, x43, x44, x45, x46, x47, x48, x49, x50, x51, x52, x53, x54, x55, x56, x57], []⟩ w := by
  have hbody := rot_body rfl hB
  clear hB
  subst hbody
  have hcont := Aside0.mk cont
  clear cont
  have e2 : ((m : Int) - (i : Int)) = ((m - i : Nat) : Int) := by omega
  have e1 : ((i : Int) - (j : Int)) = (k : Int) := by omega
  have E1 := Aside0.mk e1
  have E2 := Aside0.mk e2
  have hgt : j < i := by omega
  clear e1 e2 hk hk0
  rw [rounds_succ]
  go_wp2_with (go_at_call 55; rw [E2.out]; refine (swap_calls HF.out (by omega) (by omega) hl).mono ?_; rintro e w' ⟨rfl, h1, h2⟩; have F2 := Aside0.mk h1; have G2 := Aside0.mk h2; clear h1 h2)
  rw [E1.out]
  exact hcont.out _ _ _ _ _ _ _ _ _ _ _ _ _ _ _ _ _ _ _ _ _ _ _ _ _ _ _ _ _ _ _ _ _ _ _ _ _ _ _ _ _ _ _ _ _ _ _ _ _ _ _ _ F2.out G2.out
set_option maxRecDepth 100000 in
set_option maxHeartbeats 4000000 in
theorem rot_lt {w : World} {g L cap a m b i j k : Nat} {c : Value} {f : Nat → G3} {K : Act → World → Prop} {R : Ending → World → Prop} {N z : Nat} {r0 r1 body rt : Code} {x5 x6 x7 x8 x9 x12 x13 x14 x15 x16 x17 x18 x19 x20 x21 x22 x23 x24 x25 x26 x27 x28 x29 x30 x31 x32 x33 x34 x35 x36 x37 x38 x39 x40 x41 x42 x43 x44 x45 x46 x47 x48 x49 x50 x51 x52 x53 x54 x55 x56 x57 : Value} (hB : Try.f43.body = some (.seq r0 (.seq r1 (.seq (.block z (.loop body)) rt)))) (HF : Aside0 (RowF w g L f)) (hi : i ≤ m) (hj : m + j ≤ L) (hl : L ≤ 100000) (hk : j = i + k) (hk0 : 0 < k)
    (cont : ∀ (w' : World) (y5 y6 y7 y8 y9 y12 y13 y14 y15 y16 y17 y18 y19 y20 y21 y22 y23 y24 y25 y26 y27 y28 y29 y30 y31 y32 y33 y34 y35 y36 y37 y38 y39 y40 y41 y42 y43 y44 y45 y46 y47 y48 y49 y50 y51 y52 y53 y54 y55 y56 y57 : Value), RowF w' g L (swapR f (m - i) (m + j - i) i) → w.grownBy w' (some g) → Code.rounds Try.prog body (Exit.inBlock 0 (Exit.then K (bodyPost Try.prog Try.f43 R))) N ⟨#[.slice (some ⟨g, 0, none⟩) L cap, .int .i64 a, .int .i64 m, .int .i64 b, c, y5, y6, y7, y8, y9, .int .i64 i, .int .i64 k, y12, y13, y14, y15, y16, y17, y18, y19, y20, y21, y22, y23, y24, y25, y26, y27, y28, y29, y30, y31, y32, y33, y34, y35, y36, y37, y38, y39, y40, y41, y42, y43, y44, y45, y46, y47, y48, y49, y50, y51, y52, y53, y54, y55, y56, y57], []⟩ w') :
    Code.rounds Try.prog body (Exit.inBlock 0 (Exit.then K (bodyPost Try.prog Try.f43 R))) (N + 1) ⟨#[.slice (some ⟨g, 0, none⟩) L cap, .int .i64 a, .int .i64 m, .int .i64 b, c, x5, x6, x7, x8, x9, .int .i64 i, .int .i64 j, x12, x13, x14, x15, x16, x17, x18, x19, x20, x21, x22, x23, x24, x25, x26, x27, x28, x29, x30, x31, x32, x33, x34, x35, x36, x37, x38, x39, x40, x41, x42, x43, x44, x45, x46, x47, x48, x49, x50, x51, x52, x53, x54, x55, x56, x57], []⟩ w := by
  have hbody := rot_body rfl hB
  clear hB
  subst hbody
  have hcont := Aside0.mk cont
  clear cont
  have e2 : ((m : Int) - (i : Int)) = ((m - i : Nat) : Int) := by omega
  have e3 : ((m : Int) + (j : Int) - (i : Int)) = ((m + j - i : Nat) : Int) := by omega
  have e1 : ((j : Int) - (i : Int)) = (k : Int) := by omega
  have E1 := Aside0.mk e1
  have E2 := Aside0.mk e2
  have E3 := Aside0.mk e3
  have hgt : i < j := by omega
  clear e1 e2 e3 hk hk0
  rw [rounds_succ]
  go_wp2_with (go_at_call 55; rw [E2.out, E3.out]; refine (swap_calls HF.out (by omega) (by omega) hl).mono ?_; rintro e w' ⟨rfl, h1, h2⟩; have F2 := Aside0.mk h1; have G2 := Aside0.mk h2; clear h1 h2)
  rw [E1.out]
  exact hcont.out _ _ _ _ _ _ _ _ _ _ _ _ _ _ _ _ _ _ _ _ _ _ _ _ _ _ _ _ _ _ _ _ _ _ _ _ _ _ _ _ _ _ _ _ _ _ _ _ _ _ _ _ F2.out G2.out
set_option maxRecDepth 100000 in
set_option maxHeartbeats 4000000 in
theorem rot_end {w : World} {g L cap a m b i : Nat} {c : Value} {K : Act → World → Prop} {R : Ending → World → Prop} {N z : Nat} {r0 r1 body rt : Code} {x5 x6 x7 x8 x9 x12 x13 x14 x15 x16 x17 x18 x19 x20 x21 x22 x23 x24 x25 x26 x27 x28 x29 x30 x31 x32 x33 x34 x35 x36 x37 x38 x39 x40 x41 x42 x43 x44 x45 x46 x47 x48 x49 x50 x51 x52 x53 x54 x55 x56 x57 : Value} (hB : Try.f43.body = some (.seq r0 (.seq r1 (.seq (.block z (.loop body)) rt)))) (hl : L ≤ 100000)
    (cont : ∀ (y5 y6 y7 y8 y9 y12 y13 y14 y15 y16 y17 y18 y19 y20 y21 y22 y23 y24 y25 y26 y27 y28 y29 y30 y31 y32 y33 y34 y35 y36 y37 y38 y39 y40 y41 y42 y43 y44 y45 y46 y47 y48 y49 y50 y51 y52 y53 y54 y55 y56 y57 : Value), K ⟨#[.slice (some ⟨g, 0, none⟩) L cap, .int .i64 a, .int .i64 m, .int .i64 b, c, y5, y6, y7, y8, y9, .int .i64 i, .int .i64 i, y12, y13, y14, y15, y16, y17, y18, y19, y20, y21, y22, y23, y24, y25, y26, y27, y28, y29, y30, y31, y32, y33, y34, y35, y36, y37, y38, y39, y40, y41, y42, y43, y44, y45, y46, y47, y48, y49, y50, y51, y52, y53, y54, y55, y56, y57], []⟩ w) : Code.rounds Try.prog body (Exit.inBlock 0 (Exit.then K (bodyPost Try.prog Try.f43 R))) (N + 1) ⟨#[.slice (some ⟨g, 0, none⟩) L cap, .int .i64 a, .int .i64 m, .int .i64 b, c, x5, x6, x7, x8, x9, .int .i64 i, .int .i64 i, x12, x13, x14, x15, x16, x17, x18, x19, x20, x21, x22, x23, x24, x25, x26, x27, x28, x29, x30, x31, x32, x33, x34, x35, x36, x37, x38, x39, x40, x41, x42, x43, x44, x45, x46, x47, x48, x49, x50, x51, x52, x53, x54, x55, x56, x57], []⟩ w := by
  have hbody := rot_body rfl hB
  clear hB
  subst hbody
  have hcont := Aside0.mk cont
  clear cont
  rw [rounds_succ]
  go_wp2
  exact hcont.out _ _ _ _ _ _ _ _ _ _ _ _ _ _ _ _ _ _ _ _ _ _ _ _ _ _ _ _ _ _ _ _ _ _ _ _ _ _ _ _ _ _ _ _ _ _ _ _ _ _ _
def rotG (m : Nat) : Nat → (Nat → G3) → Nat → Nat → Nat → G3
  | 0, f, i, _ => swapR f (m - i) m i
  | k + 1, f, i, j => if i = j then swapR f (m - i) m i else if j < i then rotG m k (swapR f (m - i) m j) (i - j) j else rotG m k (swapR f (m - i) (m + j - i) i) i (j - i)
theorem rot_loop {w0 : World} {g L cap a m b : Nat} {c : Value} {K : Act → World → Prop} {R : Ending → World → Prop} {z : Nat} {r0 r1 body rt : Code} (hB : Try.f43.body = some (.seq r0 (.seq r1 (.seq (.block z (.loop body)) rt)))) (hl : L ≤ 100000) :
    ∀ (d i j : Nat) (f : Nat → G3) (w : World) {y5 y6 y7 y8 y9 y12 y13 y14 y15 y16 y17 y18 y19 y20 y21 y22 y23 y24 y25 y26 y27 y28 y29 y30 y31 y32 y33 y34 y35 y36 y37 y38 y39 y40 y41 y42 y43 y44 y45 y46 y47 y48 y49 y50 y51 y52 y53 y54 y55 y56 y57 : Value}, i + j ≤ d → 0 < i → 0 < j → i ≤ m → m + j ≤ L → RowF w g L f → w0.grownBy w (some g) →
      (∀ (w' : World) (i' : Nat) (f' : Nat → G3) (y5 y6 y7 y8 y9 y12 y13 y14 y15 y16 y17 y18 y19 y20 y21 y22 y23 y24 y25 y26 y27 y28 y29 y30 y31 y32 y33 y34 y35 y36 y37 y38 y39 y40 y41 y42 y43 y44 y45 y46 y47 y48 y49 y50 y51 y52 y53 y54 y55 y56 y57 : Value), RowF w' g L f' → w0.grownBy w' (some g) → i' ≤ m → m + i' ≤ L → swapR f' (m - i') m i' = rotG m d f i j → K ⟨#[.slice (some ⟨g, 0, none⟩) L cap, .int .i64 a, .int .i64 m, .int .i64 b, c, y5, y6, y7, y8, y9, .int .i64 i', .int .i64 i', y12, y13, y14, y15, y16, y17, y18, y19, y20, y21, y22, y23, y24, y25, y26, y27, y28, y29, y30, y31, y32, y33, y34, y35, y36, y37, y38, y39, y40, y41, y42, y43, y44, y45, y46, y47, y48, y49, y50, y51, y52, y53, y54, y55, y56, y57], []⟩ w') → Code.rounds Try.prog body (Exit.inBlock 0 (Exit.then K (bodyPost Try.prog Try.f43 R))) (d + 1) ⟨#[.slice (some ⟨g, 0, none⟩) L cap, .int .i64 a, .int .i64 m, .int .i64 b, c, y5, y6, y7, y8, y9, .int .i64 i, .int .i64 j, y12, y13, y14, y15, y16, y17, y18, y19, y20, y21, y22, y23, y24, y25, y26, y27, y28, y29, y30, y31, y32, y33, y34, y35, y36, y37, y38, y39, y40, y41, y42, y43, y44, y45, y46, y47, y48, y49, y50, y51, y52, y53, y54, y55, y56, y57], []⟩ w := by
  intro d
  induction d with
  | zero => intro i j f w y5 y6 y7 y8 y9 y12 y13 y14 y15 y16 y17 y18 y19 y20 y21 y22 y23 y24 y25 y26 y27 y28 y29 y30 y31 y32 y33 y34 y35 y36 y37 y38 y39 y40 y41 y42 y43 y44 y45 y46 y47 y48 y49 y50 y51 y52 y53 y54 y55 y56 y57 h h1 h2; omega
  | succ d ih =>
    intro i j f w y5 y6 y7 y8 y9 y12 y13 y14 y15 y16 y17 y18 y19 y20 y21 y22 y23 y24 y25 y26 y27 y28 y29 y30 y31 y32 y33 y34 y35 y36 y37 y38 y39 y40 y41 y42 y43 y44 y45 y46 y47 y48 y49 y50 y51 y52 y53 y54 y55 y56 y57 h h1 h2 h3 h4 HF HG hK
    by_cases e : i = j
    · subst e
      exact rot_end hB hl (fun y5 y6 y7 y8 y9 y12 y13 y14 y15 y16 y17 y18 y19 y20 y21 y22 y23 y24 y25 y26 y27 y28 y29 y30 y31 y32 y33 y34 y35 y36 y37 y38 y39 y40 y41 y42 y43 y44 y45 y46 y47 y48 y49 y50 y51 y52 y53 y54 y55 y56 y57 => hK w i f y5 y6 y7 y8 y9 y12 y13 y14 y15 y16 y17 y18 y19 y20 y21 y22 y23 y24 y25 y26 y27 y28 y29 y30 y31 y32 y33 y34 y35 y36 y37 y38 y39 y40 y41 y42 y43 y44 y45 y46 y47 y48 y49 y50 y51 y52 y53 y54 y55 y56 y57 HF HG h3 h4 (by simp [rotG]))
    · by_cases e2 : j < i
      · have hk : i = j + (i - j) := by omega
        refine rot_gt hB ⟨HF⟩ h3 h4 hl hk (by omega) (fun w' y5 y6 y7 y8 y9 y12 y13 y14 y15 y16 y17 y18 y19 y20 y21 y22 y23 y24 y25 y26 y27 y28 y29 y30 y31 y32 y33 y34 y35 y36 y37 y38 y39 y40 y41 y42 y43 y44 y45 y46 y47 y48 y49 y50 y51 y52 y53 y54 y55 y56 y57 F' G' => ih (i - j) j _ w' (by omega) (by omega) h2 (by omega) h4 F' (grown_trans HG G') (fun w2 i2 f2 y5 y6 y7 y8 y9 y12 y13 y14 y15 y16 y17 y18 y19 y20 y21 y22 y23 y24 y25 y26 y27 y28 y29 y30 y31 y32 y33 y34 y35 y36 y37 y38 y39 y40 y41 y42 y43 y44 y45 y46 y47 y48 y49 y50 y51 y52 y53 y54 y55 y56 y57 a1 a2 a3 a4 a5 => hK w2 i2 f2 y5 y6 y7 y8 y9 y12 y13 y14 y15 y16 y17 y18 y19 y20 y21 y22 y23 y24 y25 y26 y27 y28 y29 y30 y31 y32 y33 y34 y35 y36 y37 y38 y39 y40 y41 y42 y43 y44 y45 y46 y47 y48 y49 y50 y51 y52 y53 y54 y55 y56 y57 a1 a2 a3 a4 ?_))
        rw [a5, rotG, if_neg e, if_pos e2]
      · have hk : j = i + (j - i) := by omega
        refine rot_lt hB ⟨HF⟩ h3 h4 hl hk (by omega) (fun w' y5 y6 y7 y8 y9 y12 y13 y14 y15 y16 y17 y18 y19 y20 y21 y22 y23 y24 y25 y26 y27 y28 y29 y30 y31 y32 y33 y34 y35 y36 y37 y38 y39 y40 y41 y42 y43 y44 y45 y46 y47 y48 y49 y50 y51 y52 y53 y54 y55 y56 y57 F' G' => ih i (j - i) _ w' (by omega) h1 (by omega) h3 (by omega) F' (grown_trans HG G') (fun w2 i2 f2 y5 y6 y7 y8 y9 y12 y13 y14 y15 y16 y17 y18 y19 y20 y21 y22 y23 y24 y25 y26 y27 y28 y29 y30 y31 y32 y33 y34 y35 y36 y37 y38 y39 y40 y41 y42 y43 y44 y45 y46 y47 y48 y49 y50 y51 y52 y53 y54 y55 y56 y57 a1 a2 a3 a4 a5 => hK w2 i2 f2 y5 y6 y7 y8 y9 y12 y13 y14 y15 y16 y17 y18 y19 y20 y21 y22 y23 y24 y25 y26 y27 y28 y29 y30 y31 y32 y33 y34 y35 y36 y37 y38 y39 y40 y41 y42 y43 y44 y45 y46 y47 y48 y49 y50 y51 y52 y53 y54 y55 y56 y57 a1 a2 a3 a4 ?_))
        rw [a5, rotG, if_neg e, if_neg e2]
set_option maxRecDepth 100000 in
set_option maxHeartbeats 4000000 in
theorem rot_calls {w : World} {g L cap a m b : Nat} {c : Value} {f : Nat → G3} (hF : RowF w g L f) (h1 : a < m) (h2 : m < b) (h3 : b ≤ L) (hl : L ≤ 100000) :
    Calls Try.prog 43 #[.slice (some ⟨g, 0, none⟩) L cap, .int .i64 a, .int .i64 m, .int .i64 b, c] w fun e w' => e = .returned (.tuple #[]) ∧ RowF w' g L (rotG m (b - a) f (m - a) (b - m)) ∧ w.grownBy w' (some g) := by
  have F := Aside0.mk hF
  clear hF
  have E1 := Aside0.mk (show ((m : Int) - (a : Int)) = ((m - a : Nat) : Int) by omega)
  have E2 := Aside0.mk (show ((b : Int) - (m : Int)) = ((b - m : Nat) : Int) by omega)
  go_enter Try.func43, Try.ntmps43
  go_wp2
  rw [E1.out, E2.out]
  refine wp_loop_rounds (b - a + 1) ?_
  refine rot_loop rfl hl (b - a) (m - a) (b - m) f w (by omega) (by omega) (by omega) (by omega) (by omega) F.out (World.grownBy.refl _ _) ?_
  intro w' i' f' y5 y6 y7 y8 y9 y12 y13 y14 y15 y16 y17 y18 y19 y20 y21 y22 y23 y24 y25 y26 y27 y28 y29 y30 y31 y32 y33 y34 y35 y36 y37 y38 y39 y40 y41 y42 y43 y44 y45 y46 y47 y48 y49 y50 y51 y52 y53 y54 y55 y56 y57 q1 q2 q3 q4 q5
  have F2 := Aside0.mk q1
  have G2 := Aside0.mk q2
  have Q5 := Aside0.mk q5
  have E3 := Aside0.mk (show ((m : Int) - (i' : Int)) = ((m - i' : Nat) : Int) by omega)
  clear q1 q2 q5
  go_wp2_with (go_at_call 55; rw [E3.out]; refine (swap_calls F2.out (by omega) (by omega) hl).mono ?_; rintro e w3 ⟨rfl, p1, p2⟩; have F3 := Aside0.mk p1; have G3' := Aside0.mk (grown_trans G2.out p2); clear p1 p2)
  go_end0
  exact ⟨rfl, Q5.out ▸ F3.out, G3'.out⟩
end Go.Proofs.Ytikbgoppmailjaa.H
