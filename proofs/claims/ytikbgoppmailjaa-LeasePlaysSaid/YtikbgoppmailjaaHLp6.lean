import Derived.Test.YtikbgoppmailjaaHLp5
/- The reference's table: Over. -/
namespace Go.Proofs.Ytikbgoppmailjaa.H
open Go.RowKit Go.HK Go.Maps Go.Lib Go.WideShapes Go.ChangeShapes Go.Proofs.YtikbgoppmailjaaW.PrintWords Go.Proofs.YtikbgoppmailjaaW.PrintLast Go.Proofs.YtikbgoppmailjaaW.PrintMore
set_option linter.unusedVariables false
set_option linter.unusedSimpArgs false
/-- A lease put into a sorted row at its place. -/
theorem put_sorted {lo : List G3} {x : G3} {k : Nat} (hs : lo.Pairwise T3) (hn : ∀ g ∈ lo, g.1 < x.1) (hk : k ≤ lo.length) (h1 : k = 0 ∨ ∃ g, lo[k - 1]? = some g ∧ g.2.2 ≤ x.2.2) (h2 : ∀ i g, k ≤ i → lo[i]? = some g → x.2.2 < g.2.2) : (lo.take k ++ (x :: lo.drop k)).Pairwise T3 := by
  rw [List.pairwise_append, List.pairwise_cons]
  refine ⟨hs.sublist (List.take_sublist _ _), ⟨fun y hy => ?_, hs.sublist (List.drop_sublist _ _)⟩, fun y hy z hz => ?_⟩
  · obtain ⟨i, hi⟩ := List.mem_iff_getElem?.1 hy
    rw [List.getElem?_drop] at hi
    exact Or.inl (h2 _ _ (by omega) hi)
  · obtain ⟨i, hi⟩ := List.mem_iff_getElem?.1 hy
    rw [List.getElem?_take] at hi
    split at hi
    · rename_i hik
      have hyl : y ∈ lo := List.mem_iff_getElem?.2 ⟨i, hi⟩
      rcases List.mem_cons.1 hz with rfl | hz
      · rcases h1 with h1 | ⟨g, hg, hge⟩
        · omega
        · have : y.2.2 ≤ g.2.2 := by
            by_cases c : i = k - 1
            · subst c
              rw [hi] at hg
              cases hg
              exact Int.le_refl _
            · have hlt : i < k - 1 := by omega
              obtain ⟨a1, b1⟩ := List.getElem?_eq_some_iff.1 hi
              obtain ⟨a2, b2⟩ := List.getElem?_eq_some_iff.1 hg
              have := List.pairwise_iff_getElem.1 hs i (k - 1) a1 a2 hlt
              rw [b1, b2] at this
              exact this.le
          have := hn y hyl
          unfold T3
          omega
      · obtain ⟨j, hj⟩ := List.mem_iff_getElem?.1 hz
        rw [List.getElem?_drop] at hj
        obtain ⟨a1, b1⟩ := List.getElem?_eq_some_iff.1 hi
        obtain ⟨a2, b2⟩ := List.getElem?_eq_some_iff.1 hj
        have := List.pairwise_iff_getElem.1 hs i (k + j) a1 a2 (by omega)
        rwa [b1, b2] at this
    · cases hi
theorem put_perm {lo : List G3} {x : G3} {k : Nat} : (lo.take k ++ (x :: lo.drop k)).Perm (lo ++ [x]) := by
  have h1 : (lo.take k ++ (x :: lo.drop k)).Perm (x :: (lo.take k ++ lo.drop k)) := List.perm_middle
  rw [List.take_append_drop] at h1
  exact h1.trans (List.perm_append_comm (l₁ := [x]) (l₂ := lo))
theorem rover_body2 {c0 c1 c2 c3 c4 c5 c6 c7 c8 c9 body : Code} {z0 z1 z2 : Nat}  {c0' c1' c2' c3' c4' c5' c6' c7' c8' c9' body' : Code} {z0' z1' z2' : Nat}  (h : Try.f21.body = some (.seq c0 (.seq c1 (.seq (.seq c2 (.block z0 (.loop (.seq c3 (.seq (.block z1 (.seq c4 (.seq c5 (.seq c6 (.seq (.block z2 (.loop body)) c7))))) c8))))) c9)))) (h' : Try.f21.body = some (.seq c0' (.seq c1' (.seq (.seq c2' (.block z0' (.loop (.seq c3' (.seq (.block z1' (.seq c4' (.seq c5' (.seq c6' (.seq (.block z2' (.loop body')) c7'))))) c8'))))) c9')))) : body' = body := by
  rw [h] at h'
  simp only [Option.some.injEq, Code.seq.injEq, Code.cond.injEq, Code.block.injEq, Code.loop.injEq] at h'
  simp only [h']
set_option maxRecDepth 100000 in
set_option maxHeartbeats 4000000 in
theorem rin_zero {w : World} {A : Option Addr} {r NL cap : Nat} {Q : Exit → Act → World → Prop} {N : Nat} {c0 c1 c2 c3 c4 c5 c6 c7 c8 c9 body : Code} {z0 z1 z2 : Nat}  {x0 x1 x2 x3 x4 x6 x7 x10 x11 x12 x13 x14 x15 x16 x17 x18 x19 x20 x21 x22 x23 x24 x25 x26 x27 x28 x29 x30 x31 x32 x33 x34 x35 x36 x37 x38 x39 x40 x41 x42 x43 x44 x45 x46 x47 x48 x49 x50 x51 x52 x53 x54 x55 x56 x57 x58 x59 x60 x61 x62 x63 x64 x65 x66 : Value}
    (hB : Try.f21.body = some (.seq c0 (.seq c1 (.seq (.seq c2 (.block z0 (.loop (.seq c3 (.seq (.block z1 (.seq c4 (.seq c5 (.seq c6 (.seq (.block z2 (.loop body)) c7))))) c8))))) c9)))) (hPQ : Aside0 (∀ c a d v w, Q (.panic c) (a.put d v) w → Q (.panic c) a w))
    (cont : ∀ (y36 y37 y38 y39 y40 y41 y42 y43 y44 y45 y46 y47 y48 y49 y50 : Value), Q (.exit 2) ⟨#[x0, x1, x2, x3, x4, .slice A NL cap, x6, x7, .pointer (some ⟨r, 0, none⟩), .int .i64 0, x10, x11, x12, x13, x14, x15, x16, x17, x18, x19, x20, x21, x22, x23, x24, x25, x26, x27, x28, x29, x30, x31, x32, x33, x34, x35, y36, y37, y38, y39, y40, y41, y42, y43, y44, y45, y46, y47, y48, y49, y50, x51, x52, x53, x54, x55, x56, x57, x58, x59, x60, x61, x62, x63, x64, x65, x66], []⟩ w.drew) : Code.rounds Try.prog body Q (N + 1) ⟨#[x0, x1, x2, x3, x4, .slice A NL cap, x6, x7, .pointer (some ⟨r, 0, none⟩), .int .i64 0, x10, x11, x12, x13, x14, x15, x16, x17, x18, x19, x20, x21, x22, x23, x24, x25, x26, x27, x28, x29, x30, x31, x32, x33, x34, x35, x36, x37, x38, x39, x40, x41, x42, x43, x44, x45, x46, x47, x48, x49, x50, x51, x52, x53, x54, x55, x56, x57, x58, x59, x60, x61, x62, x63, x64, x65, x66], []⟩ w := by
  have hbody := rover_body2 rfl hB
  clear hB
  subst hbody
  have hcont := Aside0.mk cont
  clear cont
  rw [rounds_succ]
  go_upto_region 9 with fail
  refine rover_nine_zero (g := 0) (r := 0) (NL := 0) (cap := 0) (k := 0) (e := 0) (u := 0) rfl ⟨fun _ _ _ _ _ h => hPQ.out _ _ _ _ _ h⟩ ?_
  intro y36 y37 y38 y39 y40 y41 y42 y43 y44 y45 y46 y47
  go_wp2
  exact hcont.out _ _ _ _ _ _ _ _ _ _ _ _ _ _ _
set_option maxRecDepth 100000 in
set_option maxHeartbeats 4000000 in
theorem rin_stop {w : World} {g r NL cap k : Nat} {e u : Int} {Q : Exit → Act → World → Prop} {N : Nat} {c0 c1 c2 c3 c4 c5 c6 c7 c8 c9 body : Code} {z0 z1 z2 : Nat}  {x0 x1 x2 x3 x4 x6 x7 x10 x11 x12 x13 x14 x15 x16 x17 x18 x19 x20 x21 x22 x23 x24 x25 x26 x27 x28 x29 x30 x31 x32 x33 x34 x35 x36 x37 x38 x39 x40 x41 x42 x43 x44 x45 x46 x47 x48 x49 x50 x51 x52 x53 x54 x55 x56 x57 x58 x59 x60 x61 x62 x63 x64 x65 x66 : Value}
    (hB : Try.f21.body = some (.seq c0 (.seq c1 (.seq (.seq c2 (.block z0 (.loop (.seq c3 (.seq (.block z1 (.seq c4 (.seq c5 (.seq c6 (.seq (.block z2 (.loop body)) c7))))) c8))))) c9)))) (hPQ : Aside0 (∀ c a d v w, Q (.panic c) (a.put d v) w → Q (.panic c) a w)) (hk0 : 0 < k) (hk : k ≤ NL) (hNL : NL ≤ 1000) (ce : Aside0 (w.cell? ⟨g, 3 * (k - 1) + 2, none⟩ = some (.int .u64 e))) (cr : Aside0 (w.cell? ⟨r, 2, none⟩ = some (.int .u64 u))) (he : e ≤ u)
    (cont : ∀ (y36 y37 y38 y39 y40 y41 y42 y43 y44 y45 y46 y47 y48 y49 y50 : Value), Q (.exit 2) ⟨#[x0, x1, x2, x3, x4, .slice (some ⟨g, 0, none⟩) NL cap, x6, x7, .pointer (some ⟨r, 0, none⟩), .int .i64 k, x10, x11, x12, x13, x14, x15, x16, x17, x18, x19, x20, x21, x22, x23, x24, x25, x26, x27, x28, x29, x30, x31, x32, x33, x34, x35, y36, y37, y38, y39, y40, y41, y42, y43, y44, y45, y46, y47, y48, y49, y50, x51, x52, x53, x54, x55, x56, x57, x58, x59, x60, x61, x62, x63, x64, x65, x66], []⟩ w.drew) : Code.rounds Try.prog body Q (N + 1) ⟨#[x0, x1, x2, x3, x4, .slice (some ⟨g, 0, none⟩) NL cap, x6, x7, .pointer (some ⟨r, 0, none⟩), .int .i64 k, x10, x11, x12, x13, x14, x15, x16, x17, x18, x19, x20, x21, x22, x23, x24, x25, x26, x27, x28, x29, x30, x31, x32, x33, x34, x35, x36, x37, x38, x39, x40, x41, x42, x43, x44, x45, x46, x47, x48, x49, x50, x51, x52, x53, x54, x55, x56, x57, x58, x59, x60, x61, x62, x63, x64, x65, x66], []⟩ w := by
  have hbody := rover_body2 rfl hB
  clear hB
  subst hbody
  have hcont := Aside0.mk cont
  clear cont
  rw [rounds_succ]
  go_upto_region 9 with fail
  refine rover_nine_stop (e := e) (u := u) rfl ⟨fun _ _ _ _ _ h => hPQ.out _ _ _ _ _ h⟩ hk0 hk hNL ce cr he ?_
  intro y36 y37 y38 y39 y40 y41 y42 y43 y44 y45 y46 y47
  go_wp2
  exact hcont.out _ _ _ _ _ _ _ _ _ _ _ _ _ _ _
set_option maxRecDepth 100000 in
set_option maxHeartbeats 4000000 in
theorem rin_more {w : World} {g r NL cap k : Nat} {e u : Int} {Q : Exit → Act → World → Prop} {N : Nat} {c0 c1 c2 c3 c4 c5 c6 c7 c8 c9 body : Code} {z0 z1 z2 : Nat}  {x0 x1 x2 x3 x4 x6 x7 x10 x11 x12 x13 x14 x15 x16 x17 x18 x19 x20 x21 x22 x23 x24 x25 x26 x27 x28 x29 x30 x31 x32 x33 x34 x35 x36 x37 x38 x39 x40 x41 x42 x43 x44 x45 x46 x47 x48 x49 x50 x51 x52 x53 x54 x55 x56 x57 x58 x59 x60 x61 x62 x63 x64 x65 x66 : Value}
    (hB : Try.f21.body = some (.seq c0 (.seq c1 (.seq (.seq c2 (.block z0 (.loop (.seq c3 (.seq (.block z1 (.seq c4 (.seq c5 (.seq c6 (.seq (.block z2 (.loop body)) c7))))) c8))))) c9)))) (hPQ : Aside0 (∀ c a d v w, Q (.panic c) (a.put d v) w → Q (.panic c) a w)) (hk0 : 0 < k) (hk : k ≤ NL) (hNL : NL ≤ 1000) (ce : Aside0 (w.cell? ⟨g, 3 * (k - 1) + 2, none⟩ = some (.int .u64 e))) (cr : Aside0 (w.cell? ⟨r, 2, none⟩ = some (.int .u64 u))) (he : u < e)
    (cont : ∀ (y36 y37 y38 y39 y40 y41 y42 y43 y44 y45 y46 y47 y48 y49 y50 : Value), Code.rounds Try.prog body Q N ⟨#[x0, x1, x2, x3, x4, .slice (some ⟨g, 0, none⟩) NL cap, x6, x7, .pointer (some ⟨r, 0, none⟩), .int .i64 ((k - 1 : Nat) : Int), x10, x11, x12, x13, x14, x15, x16, x17, x18, x19, x20, x21, x22, x23, x24, x25, x26, x27, x28, x29, x30, x31, x32, x33, x34, x35, y36, y37, y38, y39, y40, y41, y42, y43, y44, y45, y46, y47, y48, y49, y50, x51, x52, x53, x54, x55, x56, x57, x58, x59, x60, x61, x62, x63, x64, x65, x66], []⟩ w.drew) : Code.rounds Try.prog body Q (N + 1) ⟨#[x0, x1, x2, x3, x4, .slice (some ⟨g, 0, none⟩) NL cap, x6, x7, .pointer (some ⟨r, 0, none⟩), .int .i64 k, x10, x11, x12, x13, x14, x15, x16, x17, x18, x19, x20, x21, x22, x23, x24, x25, x26, x27, x28, x29, x30, x31, x32, x33, x34, x35, x36, x37, x38, x39, x40, x41, x42, x43, x44, x45, x46, x47, x48, x49, x50, x51, x52, x53, x54, x55, x56, x57, x58, x59, x60, x61, x62, x63, x64, x65, x66], []⟩ w := by
  have hbody := rover_body2 rfl hB
  clear hB
  subst hbody
  have hcont := Aside0.mk cont
  clear cont
  rw [rounds_succ]
  go_upto_region 9 with fail
  refine rover_nine_more (e := e) (u := u) rfl ⟨fun _ _ _ _ _ h => hPQ.out _ _ _ _ _ h⟩ hk0 hk hNL ce cr he ?_
  intro y36 y37 y38 y39 y40 y41 y42 y43 y44 y45 y46 y47
  have E1 := Aside0.mk (show (k : Int) - 1 = ((k - 1 : Nat) : Int) by omega)
  go_wp2
  rw [E1.out]
  exact hcont.out _ _ _ _ _ _ _ _ _ _ _ _ _ _ _
set_option maxRecDepth 100000 in
theorem rin_loop {w0 : World} {A : Option Addr} {r NL cap : Nat} {f : Nat → G3} {u : Int} {Q : Exit → Act → World → Prop} {c0 c1 c2 c3 c4 c5 c6 c7 c8 c9 body : Code} {z0 z1 z2 : Nat}  {x0 x1 x2 x3 x4 x6 x7 x10 x11 x12 x13 x14 x15 x16 x17 x18 x19 x20 x21 x22 x23 x24 x25 x26 x27 x28 x29 x30 x31 x32 x33 x34 x35 x51 x52 x53 x54 x55 x56 x57 x58 x59 x60 x61 x62 x63 x64 x65 x66 : Value}
    (hB : Try.f21.body = some (.seq c0 (.seq c1 (.seq (.seq c2 (.block z0 (.loop (.seq c3 (.seq (.block z1 (.seq c4 (.seq c5 (.seq c6 (.seq (.block z2 (.loop body)) c7))))) c8))))) c9)))) (hPQ : Aside0 (∀ c a d v w, Q (.panic c) (a.put d v) w → Q (.panic c) a w)) (hA : 0 < NL → ∃ g, A = some ⟨g, 0, none⟩ ∧ RowF w0 g NL f) (hNL : NL ≤ 1000) (cr : w0.cell? ⟨r, 2, none⟩ = some (.int .u64 u))
    (hK : ∀ (w' : World) (k : Nat) (y36 y37 y38 y39 y40 y41 y42 y43 y44 y45 y46 y47 y48 y49 y50 : Value), k ≤ NL → (k = 0 ∨ (f (k - 1)).2.2 ≤ u) → (∀ i, k ≤ i → i < NL → u < (f i).2.2) → Below w0.heap.size w0 w' → Q (.exit 2) ⟨#[x0, x1, x2, x3, x4, .slice A NL cap, x6, x7, .pointer (some ⟨r, 0, none⟩), .int .i64 k, x10, x11, x12, x13, x14, x15, x16, x17, x18, x19, x20, x21, x22, x23, x24, x25, x26, x27, x28, x29, x30, x31, x32, x33, x34, x35, y36, y37, y38, y39, y40, y41, y42, y43, y44, y45, y46, y47, y48, y49, y50, x51, x52, x53, x54, x55, x56, x57, x58, x59, x60, x61, x62, x63, x64, x65, x66], []⟩ w') :
    ∀ (k : Nat) (w : World) (x36 x37 x38 x39 x40 x41 x42 x43 x44 x45 x46 x47 x48 x49 x50 : Value), k ≤ NL → (∀ i, k ≤ i → i < NL → u < (f i).2.2) → Below w0.heap.size w0 w → Code.rounds Try.prog body Q (k + 1) ⟨#[x0, x1, x2, x3, x4, .slice A NL cap, x6, x7, .pointer (some ⟨r, 0, none⟩), .int .i64 k, x10, x11, x12, x13, x14, x15, x16, x17, x18, x19, x20, x21, x22, x23, x24, x25, x26, x27, x28, x29, x30, x31, x32, x33, x34, x35, x36, x37, x38, x39, x40, x41, x42, x43, x44, x45, x46, x47, x48, x49, x50, x51, x52, x53, x54, x55, x56, x57, x58, x59, x60, x61, x62, x63, x64, x65, x66], []⟩ w := by
  intro k
  induction k with
  | zero =>
    intro w x36 x37 x38 x39 x40 x41 x42 x43 x44 x45 x46 x47 x48 x49 x50 hk hi HB
    exact rin_zero hB hPQ (fun y36 y37 y38 y39 y40 y41 y42 y43 y44 y45 y46 y47 y48 y49 y50 => hK w.drew 0 y36 y37 y38 y39 y40 y41 y42 y43 y44 y45 y46 y47 y48 y49 y50 hk (Or.inl rfl) hi HB.drew)
  | succ k ih =>
    intro w x36 x37 x38 x39 x40 x41 x42 x43 x44 x45 x46 x47 x48 x49 x50 hk hi HB
    obtain ⟨g, rfl, hF⟩ := hA (by omega)
    have hc := (hF.keep HB).cell2 (i := k) (by omega)
    have hcr := (HB.cell (World.block_lt_of_cell? w0 _ cr)).trans cr
    by_cases e : (f k).2.2 ≤ u
    · exact rin_stop (k := k + 1) hB hPQ (by omega) hk hNL ⟨hc⟩ ⟨hcr⟩ e (fun y36 y37 y38 y39 y40 y41 y42 y43 y44 y45 y46 y47 y48 y49 y50 => hK w.drew (k + 1) y36 y37 y38 y39 y40 y41 y42 y43 y44 y45 y46 y47 y48 y49 y50 hk (Or.inr e) hi HB.drew)
    · exact rin_more (k := k + 1) hB hPQ (by omega) hk hNL ⟨hc⟩ ⟨hcr⟩ (by omega) (fun y36 y37 y38 y39 y40 y41 y42 y43 y44 y45 y46 y47 y48 y49 y50 => ih w.drew y36 y37 y38 y39 y40 y41 y42 y43 y44 y45 y46 y47 y48 y49 y50 (by omega) (fun i h1 h2 => by
        by_cases c : i = k
        · subst c; omega
        · exact hi i (by omega) h2) HB.drew)
theorem rover_body0 {c0 c1 c2 c3 body : Code} {z0 : Nat}  {c0' c1' c2' c3' body' : Code} {z0' : Nat}  (h : Try.f21.body = some (.seq c0 (.seq c1 (.seq (.seq c2 (.block z0 (.loop body))) c3)))) (h' : Try.f21.body = some (.seq c0' (.seq c1' (.seq (.seq c2' (.block z0' (.loop body'))) c3')))) : body' = body := by
  rw [h] at h'
  simp only [Option.some.injEq, Code.seq.injEq, Code.cond.injEq, Code.block.injEq, Code.loop.injEq] at h'
  simp only [h']
set_option maxRecDepth 100000 in
set_option maxHeartbeats 4000000 in
theorem rover_rest {w0 w : World} {q g NL cap i : Nat} {now : Int} {f : Nat → G3} {vo vr : Value} {lo lr : List G3} {Q : Exit → Act → World → Prop} {N : Nat} {c0 c1 c2 c3 body : Code} {z0 : Nat}  {x2 x3 x4 x8 x9 x10 x11 x12 x13 x14 x15 x16 x17 x18 x19 x20 x21 x22 x23 x24 x25 x26 x27 x28 x29 x30 x31 x32 x33 x34 x35 x36 x37 x38 x39 x40 x41 x42 x43 x44 x45 x46 x47 x48 x49 x50 x51 x52 x53 x54 x55 x56 x57 x58 x59 x60 x61 x62 x63 x64 x65 x66 : Value}
    (hB : Try.f21.body = some (.seq c0 (.seq c1 (.seq (.seq c2 (.block z0 (.loop body))) c3)))) (hPQ : Aside0 (∀ c a d v w, Q (.panic c) (a.put d v) w → Q (.panic c) a w)) (hc : Aside0 (w0.cell? ⟨q, 0, none⟩ = some (.slice (some ⟨g, 0, none⟩) NL cap))) (HF : Aside0 (RowF w0 g NL f)) (HB : Aside0 (Below w0.heap.size w0 w)) (HO : Aside0 (RowG w w0.heap.size vo lo)) (HR : Aside0 (RowG w w0.heap.size vr lr)) (HA : Aside0 (∀ z, vo.ownBlock = some z → vr.ownBlock ≠ some z)) (LO : Aside0 (lo.length ≤ 800)) (LR : Aside0 (lr.length ≤ 800)) (hi : i < NL) (hl : NL ≤ 800) (hd : now < (f i).2.2)
    (cont : ∀ (w' : World) (vo' vr' : Value) (y2 y3 y4 y8 y9 y10 y11 y12 y13 y14 y15 y16 y17 y18 y19 y20 y21 y22 y23 y24 y25 y26 y27 y28 y29 y30 y31 y32 y33 y34 y35 y36 y37 y38 y39 y40 y41 y42 y43 y44 y45 y46 y47 y48 y49 y50 y51 y52 y53 y54 y55 y56 y57 y58 y59 y60 y61 y62 y63 y64 y65 y66 : Value), RowG w' w0.heap.size vo' (lo) → RowG w' w0.heap.size vr' (lr ++ [f i]) → (∀ z, vo'.ownBlock = some z → vr'.ownBlock ≠ some z) → Below w0.heap.size w0 w' → Code.rounds Try.prog body Q N ⟨#[.pointer (some ⟨q, 0, none⟩), .int .u64 now, y2, y3, y4, vo', vr', .int .i64 (i + 1), y8, y9, y10, y11, y12, y13, y14, y15, y16, y17, y18, y19, y20, y21, y22, y23, y24, y25, y26, y27, y28, y29, y30, y31, y32, y33, y34, y35, y36, y37, y38, y39, y40, y41, y42, y43, y44, y45, y46, y47, y48, y49, y50, y51, y52, y53, y54, y55, y56, y57, y58, y59, y60, y61, y62, y63, y64, y65, y66], []⟩ w') : Code.rounds Try.prog body Q (N + 1) ⟨#[.pointer (some ⟨q, 0, none⟩), .int .u64 now, x2, x3, x4, vo, vr, .int .i64 i, x8, x9, x10, x11, x12, x13, x14, x15, x16, x17, x18, x19, x20, x21, x22, x23, x24, x25, x26, x27, x28, x29, x30, x31, x32, x33, x34, x35, x36, x37, x38, x39, x40, x41, x42, x43, x44, x45, x46, x47, x48, x49, x50, x51, x52, x53, x54, x55, x56, x57, x58, x59, x60, x61, x62, x63, x64, x65, x66], []⟩ w := by
  have hbody := rover_body0 rfl hB
  clear hB
  subst hbody
  have hcont := Aside0.mk cont
  clear cont
  rw [rounds_succ]
  have c0 := (HB.out.cell (World.block_lt_of_cell? w0 _ hc.out)).trans hc.out
  have LD := Aside0.mk (row_load (HF.out.keep HB.out) hi)
  have IJ := Aside0.mk (fun (v : World) => row_index (w := v) (g := g) (cap := cap) hi)
  generalize hx : f i = x at *
  clear hx
  obtain ⟨a, b, c⟩ := x
  have BA := Aside0.mk (HB.out.alloc HB.out.size (.cells #[.int .i64 a, .int .i64 b, .int .u64 c] 38))
  have X1 := Aside0.mk (heap_alloc_last w (.cells #[.int .i64 a, .int .i64 b, .int .u64 c] 38))
  have cX := blk_cell X1.out 2
  have O1 := Aside0.mk (RowG.move HO.out (fun z hz => heap_alloc_old w (.cells #[.int .i64 a, .int .i64 b, .int .u64 c] 38) (RowG.lt HO.out z hz)))
  have R1 := Aside0.mk (RowG.move HR.out (fun z hz => heap_alloc_old w (.cells #[.int .i64 a, .int .i64 b, .int .u64 c] 38) (RowG.lt HR.out z hz)))
  have hrs : w.heap.size < (w.alloc (.cells #[.int .i64 a, .int .i64 b, .int .u64 c] 38)).heap.size := by simp
  go_upto_region 6 with (first
    | (refine Great.wpList_readTo rfl (some 24) rfl (.pointer (some ⟨g, 3 * i, none⟩)) (exec_indexAddr rfl (IJ.out _)) ?_)
    | (refine Great.wpList_readTo rfl (some 25) rfl (gv a b c) (exec_load rfl LD.out) ?_))
  generalize hw1 : w.alloc (.cells #[.int .i64 a, .int .i64 b, .int .u64 c] 38) = w1 at BA X1 cX O1 R1 hrs ⊢
  generalize w.heap.size = r at X1 cX hrs ⊢
  have L8 := Aside0.mk (load_gAt X1.out)
  obtain ⟨i0, hi0, hz0, hz1, hz2⟩ := infoG
  have HI := Aside0.mk hi0
  have HI0 := Aside0.mk hz0
  have HI1 := Aside0.mk hz1
  have HI2 := Aside0.mk hz2
  clear hi0 hz0 hz1 hz2 hw1
  go_upto_region 7 with fail
  go_upto_region 99 with (first
    | (refine Great.wpList_readTo rfl (some 31) rfl (gv a b c) (exec_load rfl L8.out) ?_)
    | (at_builtin; refine wpList_append_own_at _ rfl _ _ 34 rfl w0.heap.size 38 i0 (gv 0 0 0) 3 24 Try.underlying34 HI.out HI0.out HI1.out HI2.out rfl (by decide) vr lr.length (flat lr) rfl (R1.out.alloc _) ⟨w1.heap.size, 0, none⟩ 1 1 [.int .i64 a, .int .i64 b, .int .u64 c] rfl rfl (new_three _ _ _ _) (fun x hx => by simp at hx; rcases hx with rfl | rfl | rfl <;> rfl) (by have := LR.out; unfold maxLen; omega) (by have := LR.out; omega) (Nat.le_trans BA.out.size (by simp)) ?_; intro v' w3 hown' hgrow3 hnil3 hat3; have HN := Aside0.mk hown'; have GN := Aside0.mk hgrow3; have AT := Aside0.mk hat3; have HB3 := Aside0.mk (((BA.out.alloc BA.out.size (.cells #[.int .i64 a, .int .i64 b, .int .u64 c] 38)).grown hgrow3 (Nat.le_trans BA.out.size (by simp)) (own_base R1.out))); clear hown' hgrow3 hnil3 hat3))
  have e1 : (w1.alloc (.cells #[.int .i64 a, .int .i64 b, .int .u64 c] 38)).heap.size = w1.heap.size + 1 := by simp
  refine hcont.out _ vo v' _ _ _ _ _ _ _ _ _ _ _ _ _ _ _ _ _ _ _ _ _ _ _ _ _ _ _ _ _ _ _ _ _ _ _ _ _ _ _ _ _ _ _ _ _ _ _ _ _ _ _ _ _ _ _ _ _ _ _ _ _ _ (RowG.move O1.out (fun z hz => (GN.out.block z (by have := RowG.lt O1.out z hz; omega) (fun e => HA.out z hz e.symm)).trans (heap_alloc_old w1 _ (RowG.lt O1.out z hz)))) (RowG.snoc HN.out) (fun z hz e => ?_) HB3.out
  rcases AT.out with h | h
  · rw [h] at e
    exact HA.out z hz e
  · rw [h] at e
    injection e with e
    have := RowG.lt O1.out z hz
    omega
set_option maxRecDepth 100000 in
set_option maxHeartbeats 4000000 in
theorem rover_in {w0 w : World} {q g NL cap i : Nat} {now : Int} {f : Nat → G3} {vo vr : Value} {lo lr : List G3} {Q : Exit → Act → World → Prop} {N : Nat} {c0 c1 c2 c3 body : Code} {z0 : Nat}  {x2 x3 x4 x8 x9 x10 x11 x12 x13 x14 x15 x16 x17 x18 x19 x20 x21 x22 x23 x24 x25 x26 x27 x28 x29 x30 x31 x32 x33 x34 x35 x36 x37 x38 x39 x40 x41 x42 x43 x44 x45 x46 x47 x48 x49 x50 x51 x52 x53 x54 x55 x56 x57 x58 x59 x60 x61 x62 x63 x64 x65 x66 : Value}
    (hB : Try.f21.body = some (.seq c0 (.seq c1 (.seq (.seq c2 (.block z0 (.loop body))) c3)))) (hPQ : Aside0 (∀ c a d v w, Q (.panic c) (a.put d v) w → Q (.panic c) a w)) (hc : Aside0 (w0.cell? ⟨q, 0, none⟩ = some (.slice (some ⟨g, 0, none⟩) NL cap))) (HF : Aside0 (RowF w0 g NL f)) (HB : Aside0 (Below w0.heap.size w0 w)) (HO : Aside0 (RowG w w0.heap.size vo lo)) (HR : Aside0 (RowG w w0.heap.size vr lr)) (HA : Aside0 (∀ z, vo.ownBlock = some z → vr.ownBlock ≠ some z)) (LO : Aside0 (lo.length ≤ 800)) (LR : Aside0 (lr.length ≤ 800)) (hi : i < NL) (hl : NL ≤ 800) (hd : (f i).2.2 ≤ now) (hs : Aside0 (lo.Pairwise T3 ∧ ∀ g ∈ lo, g.1 < (f i).1))
    (cont : ∀ (w' : World) (vo' : Value) (lo' : List G3) (y2 y3 y4 y8 y9 y10 y11 y12 y13 y14 y15 y16 y17 y18 y19 y20 y21 y22 y23 y24 y25 y26 y27 y28 y29 y30 y31 y32 y33 y34 y35 y36 y37 y38 y39 y40 y41 y42 y43 y44 y45 y46 y47 y48 y49 y50 y51 y52 y53 y54 y55 y56 y57 y58 y59 y60 y61 y62 y63 y64 y65 y66 : Value), RowG w' w0.heap.size vo' lo' → lo'.Perm (lo ++ [f i]) → lo'.Pairwise T3 → RowG w' w0.heap.size vr lr → (∀ z, vo'.ownBlock = some z → vr.ownBlock ≠ some z) → Below w0.heap.size w0 w' → Code.rounds Try.prog body Q N ⟨#[.pointer (some ⟨q, 0, none⟩), .int .u64 now, y2, y3, y4, vo', vr, .int .i64 (i + 1), y8, y9, y10, y11, y12, y13, y14, y15, y16, y17, y18, y19, y20, y21, y22, y23, y24, y25, y26, y27, y28, y29, y30, y31, y32, y33, y34, y35, y36, y37, y38, y39, y40, y41, y42, y43, y44, y45, y46, y47, y48, y49, y50, y51, y52, y53, y54, y55, y56, y57, y58, y59, y60, y61, y62, y63, y64, y65, y66], []⟩ w') : Code.rounds Try.prog body Q (N + 1) ⟨#[.pointer (some ⟨q, 0, none⟩), .int .u64 now, x2, x3, x4, vo, vr, .int .i64 i, x8, x9, x10, x11, x12, x13, x14, x15, x16, x17, x18, x19, x20, x21, x22, x23, x24, x25, x26, x27, x28, x29, x30, x31, x32, x33, x34, x35, x36, x37, x38, x39, x40, x41, x42, x43, x44, x45, x46, x47, x48, x49, x50, x51, x52, x53, x54, x55, x56, x57, x58, x59, x60, x61, x62, x63, x64, x65, x66], []⟩ w := by
  obtain ⟨A, capo, rfl⟩ := HO.out.sl
  have hbody := rover_body0 rfl hB
  clear hB
  subst hbody
  have hcont := Aside0.mk cont
  clear cont
  rw [rounds_succ]
  have c0 := (HB.out.cell (World.block_lt_of_cell? w0 _ hc.out)).trans hc.out
  have LD := Aside0.mk (row_load (HF.out.keep HB.out) hi)
  have IJ := Aside0.mk (fun (v : World) => row_index (w := v) (g := g) (cap := cap) hi)
  generalize hx : f i = x at *
  clear hx
  obtain ⟨a, b, c⟩ := x
  have BA := Aside0.mk (HB.out.alloc HB.out.size (.cells #[.int .i64 a, .int .i64 b, .int .u64 c] 38))
  have X1 := Aside0.mk (heap_alloc_last w (.cells #[.int .i64 a, .int .i64 b, .int .u64 c] 38))
  have cX := blk_cell X1.out 2
  have O1 := Aside0.mk (RowG.move HO.out (fun z hz => heap_alloc_old w (.cells #[.int .i64 a, .int .i64 b, .int .u64 c] 38) (RowG.lt HO.out z hz)))
  have R1 := Aside0.mk (RowG.move HR.out (fun z hz => heap_alloc_old w (.cells #[.int .i64 a, .int .i64 b, .int .u64 c] 38) (RowG.lt HR.out z hz)))
  have hrs : w.heap.size < (w.alloc (.cells #[.int .i64 a, .int .i64 b, .int .u64 c] 38)).heap.size := by simp
  go_upto_region 6 with (first
    | (refine Great.wpList_readTo rfl (some 24) rfl (.pointer (some ⟨g, 3 * i, none⟩)) (exec_indexAddr rfl (IJ.out _)) ?_)
    | (refine Great.wpList_readTo rfl (some 25) rfl (gv a b c) (exec_load rfl LD.out) ?_))
  generalize hw1 : w.alloc (.cells #[.int .i64 a, .int .i64 b, .int .u64 c] 38) = w1 at BA X1 cX O1 R1 hrs ⊢
  generalize w.heap.size = r at X1 cX hrs ⊢
  clear hw1
  have LOO := LO.out
  go_wp2
  obtain ⟨fo, hfo⟩ : ∃ fo : Nat → G3, (List.range lo.length).map fo = lo ∧ (0 < lo.length → ∃ g, A = some ⟨g, 0, none⟩ ∧ RowF w1 g lo.length fo) := by
    rcases O1.out.fn with ⟨_, e⟩ | ⟨g', cap', f', e, _, _, hF', hl'⟩
    · subst e
      exact ⟨fun _ => (0, 0, 0), rfl, fun h => absurd h (by simp)⟩
    · injection e with e1 _ _
      exact ⟨f', hl', fun _ => ⟨g', e1, hF'⟩⟩
  have FO := Aside0.mk hfo
  clear hfo
  refine wp_loop_rounds (lo.length + 1) ?_
  refine rin_loop (w0 := w1) (A := A) (r := r) (NL := lo.length) (cap := capo) (f := fo) (u := c) rfl ?_ FO.out.2 (by omega) cX ?_ lo.length w1 _ _ _ _ _ _ _ _ _ _ _ _ _ _ _ (Nat.le_refl _) (fun i h1 h2 => by omega) (Below.refl _ _)
  · exact ⟨fun _ _ _ _ _ h => hPQ.out _ _ _ _ _ h⟩
  intro w2 k y36 y37 y38 y39 y40 y41 y42 y43 y44 y45 y46 y47 y48 y49 y50 hk h1 h2 hB2
  have B2 := Aside0.mk hB2
  have KK := Aside0.mk (And.intro h1 h2)
  clear h1 h2 hB2
  have O2 := Aside0.mk (RowG.move O1.out (fun z hz => B2.out.block z (RowG.lt O1.out z hz)))
  have R2 := Aside0.mk (RowG.move R1.out (fun z hz => B2.out.block z (RowG.lt R1.out z hz)))
  have X2 := Aside0.mk ((B2.out.block r hrs).trans X1.out)
  go_upto_region 11 with fail
  refine rover_ins (base := w0.heap.size) (r := r) (k := k) (cap := capo) (A := A) (lo := lo) (a := a) (b := b) (c := c) rfl ?_ O2.out X2.out hk (by omega) (Nat.le_trans BA.out.size B2.out.size) ?_
  · exact ⟨fun _ _ _ _ _ h => hPQ.out _ _ _ _ _ h⟩
  intro w3 v3 y151 y152 y153 y154 y155 y156 y157 y158 y159 y160 y161 hR3 hB3 hO3
  have R3 := Aside0.mk hR3
  have B3 := Aside0.mk hB3
  have O3 := Aside0.mk hO3
  clear hR3 hB3 hO3
  go_wp2
  have get : ∀ z, z < lo.length → lo[z]? = some (fo z) := by
    intro z hz
    have := FO.out.1
    conv => lhs; rw [← this]
    simp [hz]
  refine hcont.out _ v3 _ _ _ _ _ _ _ _ _ _ _ _ _ _ _ _ _ _ _ _ _ _ _ _ _ _ _ _ _ _ _ _ _ _ _ _ _ _ _ _ _ _ _ _ _ _ _ _ _ _ _ _ _ _ _ _ _ _ _ _ _ _ _ R3.out put_perm (put_sorted hs.out.1 hs.out.2 hk ?_ ?_) (RowG.move R2.out (fun z hz => B3.out.block z (RowG.lt R2.out z hz))) (fun z hz e => ?_) ((BA.out.trans (B2.out.mono BA.out.size)).trans (B3.out.mono (Nat.le_trans BA.out.size B2.out.size)))
  · rcases KK.out.1 with h | h
    · exact Or.inl h
    · by_cases c0 : k = 0
      · exact Or.inl c0
      · exact Or.inr ⟨_, get (k - 1) (by omega), h⟩
  · intro z y hz hy
    have hzl : z < lo.length := (List.getElem?_eq_some_iff.1 hy).1
    rw [get z hzl] at hy
    injection hy with hy
    rw [← hy]
    exact KK.out.2 z hz hzl
  · have h1 := O3.out z hz
    have h2 := RowG.lt R2.out z e
    omega
set_option maxRecDepth 100000 in
set_option maxHeartbeats 4000000 in
theorem rover_end {w : World} {A : Option Addr} {q NL cap i : Nat} {now : Int} {vo vr : Value} {Q : Exit → Act → World → Prop} {N : Nat} {c0 c1 c2 c3 body : Code} {z0 : Nat}  {x2 x3 x4 x8 x9 x10 x11 x12 x13 x14 x15 x16 x17 x18 x19 x20 x21 x22 x23 x24 x25 x26 x27 x28 x29 x30 x31 x32 x33 x34 x35 x36 x37 x38 x39 x40 x41 x42 x43 x44 x45 x46 x47 x48 x49 x50 x51 x52 x53 x54 x55 x56 x57 x58 x59 x60 x61 x62 x63 x64 x65 x66 : Value}
    (hB : Try.f21.body = some (.seq c0 (.seq c1 (.seq (.seq c2 (.block z0 (.loop body))) c3)))) (hc : w.cell? ⟨q, 0, none⟩ = some (.slice A NL cap)) (hl : NL ≤ 1000) (hi : i = NL)
    (cont : ∀ (y2 y3 y4 y8 y9 y10 y11 y12 y13 y14 y15 y16 y17 y18 y19 y20 y21 y22 y23 y24 y25 y26 y27 y28 y29 y30 y31 y32 y33 y34 y35 y36 y37 y38 y39 y40 y41 y42 y43 y44 y45 y46 y47 y48 y49 y50 y51 y52 y53 y54 y55 y56 y57 y58 y59 y60 y61 y62 y63 y64 y65 y66 : Value), Q (.exit 0) ⟨#[.pointer (some ⟨q, 0, none⟩), .int .u64 now, y2, y3, y4, vo, vr, .int .i64 NL, y8, y9, y10, y11, y12, y13, y14, y15, y16, y17, y18, y19, y20, y21, y22, y23, y24, y25, y26, y27, y28, y29, y30, y31, y32, y33, y34, y35, y36, y37, y38, y39, y40, y41, y42, y43, y44, y45, y46, y47, y48, y49, y50, y51, y52, y53, y54, y55, y56, y57, y58, y59, y60, y61, y62, y63, y64, y65, y66], []⟩ w) : Code.rounds Try.prog body Q (N + 1) ⟨#[.pointer (some ⟨q, 0, none⟩), .int .u64 now, x2, x3, x4, vo, vr, .int .i64 i, x8, x9, x10, x11, x12, x13, x14, x15, x16, x17, x18, x19, x20, x21, x22, x23, x24, x25, x26, x27, x28, x29, x30, x31, x32, x33, x34, x35, x36, x37, x38, x39, x40, x41, x42, x43, x44, x45, x46, x47, x48, x49, x50, x51, x52, x53, x54, x55, x56, x57, x58, x59, x60, x61, x62, x63, x64, x65, x66], []⟩ w := by
  subst hi
  have hbody := rover_body0 rfl hB
  clear hB
  subst hbody
  have hcont := Aside0.mk cont
  clear cont
  rw [rounds_succ]
  go_wp2
  exact hcont.out _ _ _ _ _ _ _ _ _ _ _ _ _ _ _ _ _ _ _ _ _ _ _ _ _ _ _ _ _ _ _ _ _ _ _ _ _ _ _ _ _ _ _ _ _ _ _ _ _ _ _ _ _ _ _ _ _ _ _ _ _ _
theorem rover_loop {w0 : World} {q g NL cap : Nat} {now : Int} {f : Nat → G3} {Q : Exit → Act → World → Prop} {c0 c1 c2 c3 body : Code} {z0 : Nat} 
    (hB : Try.f21.body = some (.seq c0 (.seq c1 (.seq (.seq c2 (.block z0 (.loop body))) c3)))) (hPQ : Aside0 (∀ c a d v w, Q (.panic c) (a.put d v) w → Q (.panic c) a w)) (hc : w0.cell? ⟨q, 0, none⟩ = some (.slice (some ⟨g, 0, none⟩) NL cap)) (HF : RowF w0 g NL f) (hl : NL ≤ 800) (hu : ∀ i j, i < j → j < NL → (f i).1 < (f j).1)
    (hE : ∀ (w' : World) (vo vr : Value) (lo : List G3) (y2 y3 y4 y8 y9 y10 y11 y12 y13 y14 y15 y16 y17 y18 y19 y20 y21 y22 y23 y24 y25 y26 y27 y28 y29 y30 y31 y32 y33 y34 y35 y36 y37 y38 y39 y40 y41 y42 y43 y44 y45 y46 y47 y48 y49 y50 y51 y52 y53 y54 y55 y56 y57 y58 y59 y60 y61 y62 y63 y64 y65 y66 : Value), RowG w' w0.heap.size vo lo → lo.Perm (((List.range NL).map f).filter (due now)) → lo.Pairwise T3 → RowG w' w0.heap.size vr (((List.range NL).map f).filter (fun x => !due now x)) → Below w0.heap.size w0 w' → Q (.exit 0) ⟨#[.pointer (some ⟨q, 0, none⟩), .int .u64 now, y2, y3, y4, vo, vr, .int .i64 NL, y8, y9, y10, y11, y12, y13, y14, y15, y16, y17, y18, y19, y20, y21, y22, y23, y24, y25, y26, y27, y28, y29, y30, y31, y32, y33, y34, y35, y36, y37, y38, y39, y40, y41, y42, y43, y44, y45, y46, y47, y48, y49, y50, y51, y52, y53, y54, y55, y56, y57, y58, y59, y60, y61, y62, y63, y64, y65, y66], []⟩ w') :
    ∀ (d i : Nat) (w : World) (vo vr : Value) (lo : List G3) (x2 x3 x4 x8 x9 x10 x11 x12 x13 x14 x15 x16 x17 x18 x19 x20 x21 x22 x23 x24 x25 x26 x27 x28 x29 x30 x31 x32 x33 x34 x35 x36 x37 x38 x39 x40 x41 x42 x43 x44 x45 x46 x47 x48 x49 x50 x51 x52 x53 x54 x55 x56 x57 x58 x59 x60 x61 x62 x63 x64 x65 x66 : Value), i + d = NL → RowG w w0.heap.size vo lo → lo.Perm (((List.range i).map f).filter (due now)) → lo.Pairwise T3 → RowG w w0.heap.size vr (((List.range i).map f).filter (fun x => !due now x)) → (∀ z, vo.ownBlock = some z → vr.ownBlock ≠ some z) → Below w0.heap.size w0 w → Code.rounds Try.prog body Q (d + 1) ⟨#[.pointer (some ⟨q, 0, none⟩), .int .u64 now, x2, x3, x4, vo, vr, .int .i64 i, x8, x9, x10, x11, x12, x13, x14, x15, x16, x17, x18, x19, x20, x21, x22, x23, x24, x25, x26, x27, x28, x29, x30, x31, x32, x33, x34, x35, x36, x37, x38, x39, x40, x41, x42, x43, x44, x45, x46, x47, x48, x49, x50, x51, x52, x53, x54, x55, x56, x57, x58, x59, x60, x61, x62, x63, x64, x65, x66], []⟩ w := by
  intro d
  induction d with
  | zero =>
    intro i w vo vr lo x2 x3 x4 x8 x9 x10 x11 x12 x13 x14 x15 x16 x17 x18 x19 x20 x21 x22 x23 x24 x25 x26 x27 x28 x29 x30 x31 x32 x33 x34 x35 x36 x37 x38 x39 x40 x41 x42 x43 x44 x45 x46 x47 x48 x49 x50 x51 x52 x53 x54 x55 x56 x57 x58 x59 x60 x61 x62 x63 x64 x65 x66 hd HO HP HS HR HA HB
    obtain rfl : i = NL := by omega
    exact rover_end (A := some ⟨g, 0, none⟩) (cap := cap) hB ((HB.cell (World.block_lt_of_cell? w0 _ hc)).trans hc) (by omega) rfl (fun y2 y3 y4 y8 y9 y10 y11 y12 y13 y14 y15 y16 y17 y18 y19 y20 y21 y22 y23 y24 y25 y26 y27 y28 y29 y30 y31 y32 y33 y34 y35 y36 y37 y38 y39 y40 y41 y42 y43 y44 y45 y46 y47 y48 y49 y50 y51 y52 y53 y54 y55 y56 y57 y58 y59 y60 y61 y62 y63 y64 y65 y66 => hE w vo vr lo y2 y3 y4 y8 y9 y10 y11 y12 y13 y14 y15 y16 y17 y18 y19 y20 y21 y22 y23 y24 y25 y26 y27 y28 y29 y30 y31 y32 y33 y34 y35 y36 y37 y38 y39 y40 y41 y42 y43 y44 y45 y46 y47 y48 y49 y50 y51 y52 y53 y54 y55 y56 y57 y58 y59 y60 y61 y62 y63 y64 y65 y66 HO HP HS HR HB)
  | succ d ih =>
    intro i w vo vr lo x2 x3 x4 x8 x9 x10 x11 x12 x13 x14 x15 x16 x17 x18 x19 x20 x21 x22 x23 x24 x25 x26 x27 x28 x29 x30 x31 x32 x33 x34 x35 x36 x37 x38 x39 x40 x41 x42 x43 x44 x45 x46 x47 x48 x49 x50 x51 x52 x53 x54 x55 x56 x57 x58 x59 x60 x61 x62 x63 x64 x65 x66 hd HO HP HS HR HA HB
    have hi : i < NL := by omega
    have h1 : lo.length ≤ 800 := by
      have := HP.length_eq
      have h2 := List.length_filter_le (due now) ((List.range i).map f)
      simp only [List.length_map, List.length_range] at h2
      omega
    have h2 : (((List.range i).map f).filter (fun x => !due now x)).length ≤ 800 := by
      have h2 := List.length_filter_le (fun x => !due now x) ((List.range i).map f)
      simp only [List.length_map, List.length_range] at h2
      omega
    have hn : ∀ g ∈ lo, g.1 < (f i).1 := by
      intro g hg
      obtain ⟨j, hj, rfl⟩ := List.mem_map.1 (List.mem_filter.1 (HP.mem_iff.1 hg)).1
      exact hu j i (List.mem_range.1 hj) hi
    by_cases e : now < (f i).2.2
    · have hf : due now (f i) = false := decide_eq_false (by omega)
      refine rover_rest (lo := lo) hB hPQ ⟨hc⟩ ⟨HF⟩ ⟨HB⟩ ⟨HO⟩ ⟨HR⟩ ⟨HA⟩ ⟨h1⟩ ⟨h2⟩ hi hl e (fun w' vo' vr' y2 y3 y4 y8 y9 y10 y11 y12 y13 y14 y15 y16 y17 y18 y19 y20 y21 y22 y23 y24 y25 y26 y27 y28 y29 y30 y31 y32 y33 y34 y35 y36 y37 y38 y39 y40 y41 y42 y43 y44 y45 y46 y47 y48 y49 y50 y51 y52 y53 y54 y55 y56 y57 y58 y59 y60 y61 y62 y63 y64 y65 y66 O' R' A' B' => ih (i + 1) w' vo' vr' lo y2 y3 y4 y8 y9 y10 y11 y12 y13 y14 y15 y16 y17 y18 y19 y20 y21 y22 y23 y24 y25 y26 y27 y28 y29 y30 y31 y32 y33 y34 y35 y36 y37 y38 y39 y40 y41 y42 y43 y44 y45 y46 y47 y48 y49 y50 y51 y52 y53 y54 y55 y56 y57 y58 y59 y60 y61 y62 y63 y64 y65 y66 (by omega) O' ?_ HS ?_ A' B')
      · rw [filter_take, if_neg (by rw [hf]; decide), List.append_nil]
        exact HP
      · rw [filter_take, if_pos (by rw [hf]; rfl)]
        exact R'
    · have hf : due now (f i) = true := decide_eq_true (by omega)
      refine rover_in (lo := lo) hB hPQ ⟨hc⟩ ⟨HF⟩ ⟨HB⟩ ⟨HO⟩ ⟨HR⟩ ⟨HA⟩ ⟨h1⟩ ⟨h2⟩ hi hl (by omega) ⟨⟨HS, hn⟩⟩ (fun w' vo' lo' y2 y3 y4 y8 y9 y10 y11 y12 y13 y14 y15 y16 y17 y18 y19 y20 y21 y22 y23 y24 y25 y26 y27 y28 y29 y30 y31 y32 y33 y34 y35 y36 y37 y38 y39 y40 y41 y42 y43 y44 y45 y46 y47 y48 y49 y50 y51 y52 y53 y54 y55 y56 y57 y58 y59 y60 y61 y62 y63 y64 y65 y66 O' P' S' R' A' B' => ih (i + 1) w' vo' vr lo' y2 y3 y4 y8 y9 y10 y11 y12 y13 y14 y15 y16 y17 y18 y19 y20 y21 y22 y23 y24 y25 y26 y27 y28 y29 y30 y31 y32 y33 y34 y35 y36 y37 y38 y39 y40 y41 y42 y43 y44 y45 y46 y47 y48 y49 y50 y51 y52 y53 y54 y55 y56 y57 y58 y59 y60 y61 y62 y63 y64 y65 y66 (by omega) O' ?_ S' ?_ A' B')
      · rw [filter_take, if_pos hf]
        exact P'.trans (HP.append_right _)
      · rw [filter_take, if_neg (by rw [hf]; decide), List.append_nil]
        exact R'
set_option maxRecDepth 100000 in
set_option maxHeartbeats 8000000 in
theorem rover_calls {w : World} {q B : Nat} {l : List G3} {n now : Int} {v : Value} (T : RefT w q B l n v) (hl : l.length ≤ 800) (hB : B ≤ w.heap.size) (hu : l.Pairwise (fun x y => x.1 < y.1)) : Calls Try.prog 21 #[.pointer (some ⟨q, 0, none⟩), .int .u64 now] w fun e w' => ∃ v1 v' lo, e = .returned v1 ∧ RowG w' w.heap.size v1 lo ∧ lo.Perm (l.filter (due now)) ∧ lo.Pairwise T3 ∧ RefT w' q B (l.filter (fun x => !due now x)) n v' ∧ (∀ B', B' ≤ q → Below B' w w') ∧ (∀ k, k < w.heap.size → k ≠ q → w'.heap[k]? = w.heap[k]?) ∧ w.heap.size ≤ w'.heap.size := by
  have HQ := Aside0.mk T.head
  have HQ0 := blk_lt T.head
  have HRW := Aside0.mk T.row
  clear T
  rcases HRW.out.fn with ⟨rfl, rfl⟩ | ⟨g, cap, f, rfl, hg, hcap, hF, hfl⟩
  · have c0 := blk_cell HQ.out 0
    go_enter Try.func21, Try.ntmps21
    go_wp2
    refine wp_loop_rounds (0 + 1) ?_
    refine rover_end (q := q) (A := none) (NL := 0) (cap := 0) (now := now) rfl c0 (by omega) rfl ?_
    intro y2 y3 y4 y8 y9 y10 y11 y12 y13 y14 y15 y16 y17 y18 y19 y20 y21 y22 y23 y24 y25 y26 y27 y28 y29 y30 y31 y32 y33 y34 y35 y36 y37 y38 y39 y40 y41 y42 y43 y44 y45 y46 y47 y48 y49 y50 y51 y52 y53 y54 y55 y56 y57 y58 y59 y60 y61 y62 y63 y64 y65 y66
    have HB := Aside0.mk (Below.refl w.heap.size w)
    have HR := Aside0.mk (RowG.nil w w.heap.size)
    have HO := Aside0.mk (RowG.nil w w.heap.size)
    have PP : ([] : List G3).Perm (([] : List G3).filter (due now)) := List.Perm.refl _
    have SS : ([] : List G3).Pairwise T3 := List.Pairwise.nil
    clear c0 hu
    have HD := (HB.out.block q HQ0).trans HQ.out
    obtain ⟨w4, ST, S1, S2⟩ := ref_storeL HD (A := none) (len := 0) (cap := 0)
    have ST' := Aside0.mk ST
    have HD4 := Aside0.mk S1
    have G4 := Aside0.mk S2
    clear ST S1 S2 HD
    go_wp2_with (refine wpList_doTo rfl w4 (exec_store rfl ST'.out) ?_)
    go_ret
    have Z2 := HB.out.size
    have Z4 := G4.out.size
    have ob1 := own_base HO.out
    have ob2 := own_base HR.out
    have lt1 := RowG.lt HO.out
    have lt2 := RowG.lt HR.out
    refine ⟨_, _, _, rfl, RowG.move HO.out (fun z hz => G4.out.block z (lt1 z hz) (fun e => by injection e with e; have := ob1 z hz; omega)), PP, SS, ⟨HD4.out, ?_⟩, ?_, ?_, by omega⟩
    · exact (RowG.move HR.out (fun z hz => G4.out.block z (lt2 z hz) (fun e => by injection e with e; have := ob2 z hz; omega))).base (by omega)
    · intro B' hB'
      exact (HB.out.mono (by omega)).grown G4.out (by omega) (fun k e => by injection e with e; omega)
    · intro k hk hkq
      exact (G4.out.block k (by omega) (fun e => by injection e with e; omega)).trans (HB.out.block k hk)
  · have c0 := blk_cell HQ.out 0
    have hu2 : ∀ i j, i < j → j < l.length → (f i).1 < (f j).1 := by
      intro i j hij hj
      rw [← hfl] at hu
      have := List.pairwise_iff_getElem.1 hu i j (by simp; omega) (by simpa using hj) hij
      simpa using this
    have F1 := Aside0.mk hF
    have FL := Aside0.mk hfl
    have HU := Aside0.mk hu2
    clear hF hfl hu hu2
    go_enter Try.func21, Try.ntmps21
    go_wp2
    refine wp_loop_rounds (l.length + 1) ?_
    refine rover_loop (w0 := w) (g := g) (cap := cap) (f := f) (now := now) rfl ?_ c0 F1.out hl HU.out ?_ l.length 0 w (.slice none 0 0) (.slice none 0 0) [] _ _ _ _ _ _ _ _ _ _ _ _ _ _ _ _ _ _ _ _ _ _ _ _ _ _ _ _ _ _ _ _ _ _ _ _ _ _ _ _ _ _ _ _ _ _ _ _ _ _ _ _ _ _ _ _ _ _ _ _ _ _ (by omega) (RowG.nil _ _) (List.Perm.refl _) List.Pairwise.nil (RowG.nil _ _) (fun z h => by cases h) (Below.refl _ _)
    · exact ⟨fun c a d v w h => by cases d <;> exact h⟩
    rw [FL.out]
    intro w3 v1 v2 lo y2 y3 y4 y8 y9 y10 y11 y12 y13 y14 y15 y16 y17 y18 y19 y20 y21 y22 y23 y24 y25 y26 y27 y28 y29 y30 y31 y32 y33 y34 y35 y36 y37 y38 y39 y40 y41 y42 y43 y44 y45 y46 y47 y48 y49 y50 y51 y52 y53 y54 y55 y56 y57 y58 y59 y60 y61 y62 y63 y64 y65 y66 hO PP0 SS0 hR hB3
    obtain ⟨Ar, capr, rfl⟩ := hR.sl
    have HB := Aside0.mk hB3
    have HR := Aside0.mk hR
    have HO := Aside0.mk hO
    have PPA := Aside0.mk PP0
    have SSA := Aside0.mk SS0
    clear hO hR hB3 PP0 SS0 c0
    have HD := (HB.out.block q HQ0).trans HQ.out
    obtain ⟨w4, ST, S1, S2⟩ := ref_storeL HD (A := Ar) (len := (l.filter (fun x => !due now x)).length) (cap := capr)
    have ST' := Aside0.mk ST
    have HD4 := Aside0.mk S1
    have G4 := Aside0.mk S2
    clear ST S1 S2 HD
    go_wp2_with (refine wpList_doTo rfl w4 (exec_store rfl ST'.out) ?_)
    go_ret
    have Z2 := HB.out.size
    have Z4 := G4.out.size
    have ob1 := own_base HO.out
    have ob2 := own_base HR.out
    have lt1 := RowG.lt HO.out
    have lt2 := RowG.lt HR.out
    refine ⟨_, _, _, rfl, RowG.move HO.out (fun z hz => G4.out.block z (lt1 z hz) (fun e => by injection e with e; have := ob1 z hz; omega)), PPA.out, SSA.out, ⟨HD4.out, ?_⟩, ?_, ?_, by omega⟩
    · exact (RowG.move HR.out (fun z hz => G4.out.block z (lt2 z hz) (fun e => by injection e with e; have := ob2 z hz; omega))).base (by omega)
    · intro B' hB'
      exact (HB.out.mono (by omega)).grown G4.out (by omega) (fun k e => by injection e with e; omega)
    · intro k hk hkq
      exact (G4.out.block k (by omega) (fun e => by injection e with e; omega)).trans (HB.out.block k hk)
end Go.Proofs.Ytikbgoppmailjaa.H
