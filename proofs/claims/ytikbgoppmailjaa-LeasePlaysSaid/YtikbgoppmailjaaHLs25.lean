import Derived.Test.YtikbgoppmailjaaLsE
import Derived.Test.YtikbgoppmailjaaHLs17
/- stableCmpFunc over a row of leases: the blocks. -/
namespace Go.Proofs.Ytikbgoppmailjaa.H
open Go.RowKit Go.HK Go.Maps Go.Sort Go.Lib Go.WideShapes Go.ChangeShapes Go.Proofs.YtikbgoppmailjaaW.PrintWords Go.Proofs.YtikbgoppmailjaaW.PrintLast Go.Proofs.YtikbgoppmailjaaW.PrintMore
set_option linter.unusedVariables false
set_option linter.unusedSimpArgs false
/-- SymMerge's word. (A premise here; HLs34 proves it.) -/
def SymP : Prop := ∀ (w : World) (g L cap a m b : Nat) (f : Nat → G3), RowF w g L f → a < m → m < b → b ≤ L → L ≤ 100 → Calls Try.prog 39 #[.slice (some ⟨g, 0, none⟩) L cap, .int .i64 a, .int .i64 m, .int .i64 b, .func (.func 27) #[] #[]] w fun e w' => e = .returned (.tuple #[]) ∧ ∃ f', RowF w' g L f' ∧ w.grownBy w' (some g) ∧ SymPost L a m b f f'
theorem stable_body {r0 r1 body rt r0' r1' body' rt' : Code} {z z' : Nat} (h : Try.f33.body = some (.seq r0 (.seq r1 (.seq (.block z (.loop body)) rt)))) (h' : Try.f33.body = some (.seq r0' (.seq r1' (.seq (.block z' (.loop body')) rt')))) : body' = body := by
  rw [h] at h'
  injection h' with h'
  injection h' with _ h'
  injection h' with _ h'
  injection h' with h1 _
  injection h1 with _ h1
  injection h1 with h1
  exact h1.symm
set_option maxRecDepth 100000 in
set_option maxHeartbeats 4000000 in
theorem blocks_round {w : World} {g L cap a : Nat} {f : Nat → G3} {K : Act → World → Prop} {R : Ending → World → Prop} {N z : Nat} {r0 r1 body rt : Code} {x3 x4 x5 x9 x10 x11 x12 x13 x14 x15 x16 x17 x18 x19 x20 x21 x22 x23 x24 x25 x26 x27 x28 x29 x30 x31 x32 x33 x34 x35 x36 x37 x38 x39 x40 x41 x42 x43 x44 x45 x46 x47 x48 x49 x50 x51 x52 x53 x54 x55 x56 x57 x58 x59 x60 x61 x62 : Value} (hB : Try.f33.body = some (.seq r0 (.seq r1 (.seq (.block z (.loop body)) rt)))) (HF : Aside0 (RowF w g L f)) (hb : a + 20 ≤ L) (hl : L ≤ 100)
    (cont : ∀ (w' : World) (f' : Nat → G3) (y3 y4 y5 y9 y10 y11 y12 y13 y14 y15 y16 y17 y18 y19 y20 y21 y22 y23 y24 y25 y26 y27 y28 y29 y30 y31 y32 y33 y34 y35 y36 y37 y38 y39 y40 y41 y42 y43 y44 y45 y46 y47 y48 y49 y50 y51 y52 y53 y54 y55 y56 y57 y58 y59 y60 y61 y62 : Value), RowF w' g L f' → w.grownBy w' (some g) → InsPost L a (a + 20) f f' → Code.rounds Try.prog body (Exit.inBlock 0 (Exit.then K (bodyPost Try.prog Try.f33 R))) N ⟨#[.slice (some ⟨g, 0, none⟩) L cap, .int .i64 L, .func (.func 27) #[] #[], y3, y4, y5, .int .i64 20, .int .i64 (a + 20), .int .i64 (a + 20 + 20), y9, y10, y11, y12, y13, y14, y15, y16, y17, y18, y19, y20, y21, y22, y23, y24, y25, y26, y27, y28, y29, y30, y31, y32, y33, y34, y35, y36, y37, y38, y39, y40, y41, y42, y43, y44, y45, y46, y47, y48, y49, y50, y51, y52, y53, y54, y55, y56, y57, y58, y59, y60, y61, y62], []⟩ w') :
    Code.rounds Try.prog body (Exit.inBlock 0 (Exit.then K (bodyPost Try.prog Try.f33 R))) (N + 1) ⟨#[.slice (some ⟨g, 0, none⟩) L cap, .int .i64 L, .func (.func 27) #[] #[], x3, x4, x5, .int .i64 20, .int .i64 a, .int .i64 (a + 20), x9, x10, x11, x12, x13, x14, x15, x16, x17, x18, x19, x20, x21, x22, x23, x24, x25, x26, x27, x28, x29, x30, x31, x32, x33, x34, x35, x36, x37, x38, x39, x40, x41, x42, x43, x44, x45, x46, x47, x48, x49, x50, x51, x52, x53, x54, x55, x56, x57, x58, x59, x60, x61, x62], []⟩ w := by
  have hbody := stable_body rfl hB
  clear hB
  subst hbody
  have hcont := Aside0.mk cont
  clear cont
  rw [rounds_succ]
  go_wp2_with (go_at_call 38; refine (ins_calls (a := a) (b := a + 20) HF.out (by omega) hb (by omega)).mono ?_; rintro e w' ⟨rfl, h1, h2⟩; have F2 := Aside0.mk h1; have G2 := Aside0.mk h2; clear h1 h2)
  exact hcont.out _ _ _ _ _ _ _ _ _ _ _ _ _ _ _ _ _ _ _ _ _ _ _ _ _ _ _ _ _ _ _ _ _ _ _ _ _ _ _ _ _ _ _ _ _ _ _ _ _ _ _ _ _ _ _ _ _ _ _ F2.out G2.out (ins_post L a (a + 20) f (by omega) hb)
set_option maxRecDepth 100000 in
set_option maxHeartbeats 4000000 in
theorem blocks_end {w : World} {g L cap a : Nat} {K : Act → World → Prop} {R : Ending → World → Prop} {N z : Nat} {r0 r1 body rt : Code} {x3 x4 x5 x9 x10 x11 x12 x13 x14 x15 x16 x17 x18 x19 x20 x21 x22 x23 x24 x25 x26 x27 x28 x29 x30 x31 x32 x33 x34 x35 x36 x37 x38 x39 x40 x41 x42 x43 x44 x45 x46 x47 x48 x49 x50 x51 x52 x53 x54 x55 x56 x57 x58 x59 x60 x61 x62 : Value} (hB : Try.f33.body = some (.seq r0 (.seq r1 (.seq (.block z (.loop body)) rt)))) (hb : L < a + 20) (ha : a ≤ L) (hl : L ≤ 100)
    (cont : ∀ (y3 y4 y5 y9 y10 y11 y12 y13 y14 y15 y16 y17 y18 y19 y20 y21 y22 y23 y24 y25 y26 y27 y28 y29 y30 y31 y32 y33 y34 y35 y36 y37 y38 y39 y40 y41 y42 y43 y44 y45 y46 y47 y48 y49 y50 y51 y52 y53 y54 y55 y56 y57 y58 y59 y60 y61 y62 : Value), K ⟨#[.slice (some ⟨g, 0, none⟩) L cap, .int .i64 L, .func (.func 27) #[] #[], y3, y4, y5, .int .i64 20, .int .i64 a, .int .i64 (a + 20), y9, y10, y11, y12, y13, y14, y15, y16, y17, y18, y19, y20, y21, y22, y23, y24, y25, y26, y27, y28, y29, y30, y31, y32, y33, y34, y35, y36, y37, y38, y39, y40, y41, y42, y43, y44, y45, y46, y47, y48, y49, y50, y51, y52, y53, y54, y55, y56, y57, y58, y59, y60, y61, y62], []⟩ w) : Code.rounds Try.prog body (Exit.inBlock 0 (Exit.then K (bodyPost Try.prog Try.f33 R))) (N + 1) ⟨#[.slice (some ⟨g, 0, none⟩) L cap, .int .i64 L, .func (.func 27) #[] #[], x3, x4, x5, .int .i64 20, .int .i64 a, .int .i64 (a + 20), x9, x10, x11, x12, x13, x14, x15, x16, x17, x18, x19, x20, x21, x22, x23, x24, x25, x26, x27, x28, x29, x30, x31, x32, x33, x34, x35, x36, x37, x38, x39, x40, x41, x42, x43, x44, x45, x46, x47, x48, x49, x50, x51, x52, x53, x54, x55, x56, x57, x58, x59, x60, x61, x62], []⟩ w := by
  have hbody := stable_body rfl hB
  clear hB
  subst hbody
  have hcont := Aside0.mk cont
  clear cont
  rw [rounds_succ]
  go_wp2
  exact hcont.out _ _ _ _ _ _ _ _ _ _ _ _ _ _ _ _ _ _ _ _ _ _ _ _ _ _ _ _ _ _ _ _ _ _ _ _ _ _ _ _ _ _ _ _ _ _ _ _ _ _ _ _ _ _ _ _ _
theorem blocks_loop {w0 : World} {g L cap : Nat} {f0 : Nat → G3} {K : Act → World → Prop} {R : Ending → World → Prop} {z : Nat} {r0 r1 body rt : Code} (hB : Try.f33.body = some (.seq r0 (.seq r1 (.seq (.block z (.loop body)) rt)))) (hl : L ≤ 100)
    (hK : ∀ (w' : World) (a : Nat) (f' : Nat → G3) (y3 y4 y5 y9 y10 y11 y12 y13 y14 y15 y16 y17 y18 y19 y20 y21 y22 y23 y24 y25 y26 y27 y28 y29 y30 y31 y32 y33 y34 y35 y36 y37 y38 y39 y40 y41 y42 y43 y44 y45 y46 y47 y48 y49 y50 y51 y52 y53 y54 y55 y56 y57 y58 y59 y60 y61 y62 : Value), a ≤ L → L < a + 20 → a % 20 = 0 → RowF w' g L f' → w0.grownBy w' (some g) → SOrd L f0 (Blk0 L a) f' → K ⟨#[.slice (some ⟨g, 0, none⟩) L cap, .int .i64 L, .func (.func 27) #[] #[], y3, y4, y5, .int .i64 20, .int .i64 a, .int .i64 (a + 20), y9, y10, y11, y12, y13, y14, y15, y16, y17, y18, y19, y20, y21, y22, y23, y24, y25, y26, y27, y28, y29, y30, y31, y32, y33, y34, y35, y36, y37, y38, y39, y40, y41, y42, y43, y44, y45, y46, y47, y48, y49, y50, y51, y52, y53, y54, y55, y56, y57, y58, y59, y60, y61, y62], []⟩ w') :
    ∀ (d a : Nat) (f : Nat → G3) (w : World) {y3 y4 y5 y9 y10 y11 y12 y13 y14 y15 y16 y17 y18 y19 y20 y21 y22 y23 y24 y25 y26 y27 y28 y29 y30 y31 y32 y33 y34 y35 y36 y37 y38 y39 y40 y41 y42 y43 y44 y45 y46 y47 y48 y49 y50 y51 y52 y53 y54 y55 y56 y57 y58 y59 y60 y61 y62 : Value}, L ≤ a + d → a ≤ L → a % 20 = 0 → RowF w g L f → w0.grownBy w (some g) → SOrd L f0 (Blk0 L a) f → Code.rounds Try.prog body (Exit.inBlock 0 (Exit.then K (bodyPost Try.prog Try.f33 R))) (d + 1) ⟨#[.slice (some ⟨g, 0, none⟩) L cap, .int .i64 L, .func (.func 27) #[] #[], y3, y4, y5, .int .i64 20, .int .i64 a, .int .i64 (a + 20), y9, y10, y11, y12, y13, y14, y15, y16, y17, y18, y19, y20, y21, y22, y23, y24, y25, y26, y27, y28, y29, y30, y31, y32, y33, y34, y35, y36, y37, y38, y39, y40, y41, y42, y43, y44, y45, y46, y47, y48, y49, y50, y51, y52, y53, y54, y55, y56, y57, y58, y59, y60, y61, y62], []⟩ w := by
  intro d
  induction d with
  | zero =>
    intro a f w y3 y4 y5 y9 y10 y11 y12 y13 y14 y15 y16 y17 y18 y19 y20 y21 y22 y23 y24 y25 y26 y27 y28 y29 y30 y31 y32 y33 y34 y35 y36 y37 y38 y39 y40 y41 y42 y43 y44 y45 y46 y47 y48 y49 y50 y51 y52 y53 y54 y55 y56 y57 y58 y59 y60 y61 y62 h1 h2 h3 HF HG HP
    exact blocks_end hB (by omega) h2 hl (fun y3 y4 y5 y9 y10 y11 y12 y13 y14 y15 y16 y17 y18 y19 y20 y21 y22 y23 y24 y25 y26 y27 y28 y29 y30 y31 y32 y33 y34 y35 y36 y37 y38 y39 y40 y41 y42 y43 y44 y45 y46 y47 y48 y49 y50 y51 y52 y53 y54 y55 y56 y57 y58 y59 y60 y61 y62 => hK w a f y3 y4 y5 y9 y10 y11 y12 y13 y14 y15 y16 y17 y18 y19 y20 y21 y22 y23 y24 y25 y26 y27 y28 y29 y30 y31 y32 y33 y34 y35 y36 y37 y38 y39 y40 y41 y42 y43 y44 y45 y46 y47 y48 y49 y50 y51 y52 y53 y54 y55 y56 y57 y58 y59 y60 y61 y62 h2 (by omega) h3 HF HG HP)
  | succ d ih =>
    intro a f w y3 y4 y5 y9 y10 y11 y12 y13 y14 y15 y16 y17 y18 y19 y20 y21 y22 y23 y24 y25 y26 y27 y28 y29 y30 y31 y32 y33 y34 y35 y36 y37 y38 y39 y40 y41 y42 y43 y44 y45 y46 y47 y48 y49 y50 y51 y52 y53 y54 y55 y56 y57 y58 y59 y60 y61 y62 h1 h2 h3 HF HG HP
    by_cases e : a + 20 ≤ L
    · exact blocks_round hB ⟨HF⟩ e hl (fun w' f' y3 y4 y5 y9 y10 y11 y12 y13 y14 y15 y16 y17 y18 y19 y20 y21 y22 y23 y24 y25 y26 y27 y28 y29 y30 y31 y32 y33 y34 y35 y36 y37 y38 y39 y40 y41 y42 y43 y44 y45 y46 y47 y48 y49 y50 y51 y52 y53 y54 y55 y56 y57 y58 y59 y60 y61 y62 F' G' P' => ih (a + 20) f' w' (by omega) e (by omega) F' (grown_trans HG G') (HP.ins h3 (Or.inl rfl) (by omega) e P'))
    · exact blocks_end hB (by omega) h2 hl (fun y3 y4 y5 y9 y10 y11 y12 y13 y14 y15 y16 y17 y18 y19 y20 y21 y22 y23 y24 y25 y26 y27 y28 y29 y30 y31 y32 y33 y34 y35 y36 y37 y38 y39 y40 y41 y42 y43 y44 y45 y46 y47 y48 y49 y50 y51 y52 y53 y54 y55 y56 y57 y58 y59 y60 y61 y62 => hK w a f y3 y4 y5 y9 y10 y11 y12 y13 y14 y15 y16 y17 y18 y19 y20 y21 y22 y23 y24 y25 y26 y27 y28 y29 y30 y31 y32 y33 y34 y35 y36 y37 y38 y39 y40 y41 y42 y43 y44 y45 y46 y47 y48 y49 y50 y51 y52 y53 y54 y55 y56 y57 y58 y59 y60 y61 y62 h2 (by omega) h3 HF HG HP)
end Go.Proofs.Ytikbgoppmailjaa.H
