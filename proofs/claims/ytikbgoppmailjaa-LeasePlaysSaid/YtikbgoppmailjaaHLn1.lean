import Derived.Test.YtikbgoppmailjaaHLs36
import Derived.Test.YtikbgoppmailjaaHLs34
import Derived.Test.YtikbgoppmailjaaLsB
import Derived.LoopN
/- LeaseNumbers: numbers are given one by one from 1 on; one that was not given finds nothing. -/
namespace Go.Proofs.Ytikbgoppmailjaa.H
open Go.RowKit Go.HK Go.Maps Go.Lib Go.WideShapes Go.ChangeShapes Go.Proofs.YtikbgoppmailjaaW.PrintWords Go.Proofs.YtikbgoppmailjaaW.PrintLast Go.Proofs.YtikbgoppmailjaaW.PrintMore
set_option linter.unusedVariables false
set_option linter.unusedSimpArgs false
theorem sorts : SortP StableP := sort_word sym_word
theorem mod_calls {w : World} {n m : Int} (hn : (Lit.int .i64 n).wf = true) (hm : 0 < m) (hm2 : m ≤ 1000) : Calls Try.prog 11 #[.int .i64 n, .int .i64 m] w fun e w' => w' = w ∧ ∃ k, e = .returned (.int .i64 k) ∧ 0 ≤ k ∧ k < m := by
  have h1 : Int.tmod n m < m := Int.tmod_lt_of_pos n hm
  have h2 : -m < Int.tmod n m := by
    have := Int.neg_tmod n m
    have := Int.tmod_lt_of_pos (-n) hm
    omega
  go_enter Try.func11, Try.ntmps11
  go_wp2
  all_goals (go_ret; exact ⟨rfl, _, rfl, by omega, by omega⟩)
/-- Drop, of any number. -/
theorem drop_any {w : World} {p b1 b2 m : Nat} {n : Int} {l : List G3} (T : TabL w p n b1 b2 m l) {j : Int} (hj : (Lit.int .i64 j).wf = true) : Calls Try.prog 10 #[.pointer (some ⟨p, 0, none⟩), .int .i64 j] w fun e w' => ∃ c ok, e = .returned (.tuple #[.int .i64 c, .bool ok]) ∧ ((∃ g ∈ l, g.1 = j ∧ c = g.2.1 ∧ ok = true) ∨ ((∀ g ∈ l, g.1 ≠ j) ∧ c = 0 ∧ ok = false)) ∧ TabL w' p n b1 b2 m (l.filter (fun (x : G3) => decide (x.1 ≠ j))) ∧ ∀ B, B ≤ p → B ≤ b1 → B ≤ b2 → Below B w w' := by
  by_cases h : ∃ g ∈ l, g.1 = j
  · obtain ⟨g, hg, rfl⟩ := h
    refine (drop_l T hg).mono ?_
    rintro e w' ⟨h1, h2, h3, h4, h5⟩
    exact ⟨_, _, h1, Or.inl ⟨g, hg, rfl, rfl, rfl⟩, h2, h3⟩
  · have hn : ∀ g ∈ l, g.1 ≠ j := fun g hg e => h ⟨g, hg, e⟩
    refine (drop_l_none T hj hn).mono ?_
    rintro e w' ⟨h1, h2⟩
    have e1 : l.filter (fun (x : G3) => decide (x.1 ≠ j)) = l := by
      rw [List.filter_eq_self]
      intro x hx
      rw [decide_eq_true_iff]
      exact hn x hx
    rw [e1]
    obtain ⟨D1, D2, T', _⟩ := T
    have q1 := blk_lt T'.head
    exact ⟨_, _, h2, Or.inr ⟨hn, rfl, rfl⟩, ⟨D1, D2, T'.keep h1, by assumption⟩, fun B a _ _ => h1.mono (by omega)⟩
theorem num_body {r0 r1 c2 r4 r5 body rt r0' r1' c2' r4' r5' body' rt' : Code} {q q' : Nat} (h : Try.f3.body = some (.seq r0 (.seq r1 (.seq c2 (.seq r4 (.seq (.seq r5 (.block q (.loop body))) rt)))))) (h' : Try.f3.body = some (.seq r0' (.seq r1' (.seq c2' (.seq r4' (.seq (.seq r5' (.block q' (.loop body'))) rt')))))) : body' = body := by
  rw [h] at h'
  simp only [Option.some.injEq, Code.seq.injEq, Code.cond.injEq, Code.block.injEq, Code.loop.injEq] at h'
  simp only [h']
theorem addr_block3 (a : Addr) (i : Nat) : (a.add i).block = a.block := by cases a; unfold Addr.add; split <;> rfl
theorem addr_field (a : Addr) (i z : Nat) : a.add (i + (z + 1)) = ⟨(a.add i).block, (a.add i).off + (z + 1), none⟩ := by
  cases a
  unfold Addr.add
  by_cases h : i = 0
  · subst h; simp
  · rw [if_neg (by omega), if_neg h]
    simp only [Addr.mk.injEq, true_and, and_true]
    omega
set_option maxRecDepth 100000 in
set_option maxHeartbeats 4000000 in
theorem num_even {w0 w : World} {a : Addr} {len cap p b1 b2 m i : Nat} {num d j u : Int} {l : List G3} {K : Act → World → Prop} {R : Ending → World → Prop} {N q : Nat} {r0 r1 c2 r4 r5 body rt : Code} {x2 x3 x8 x9 x10 x11 x12 x13 x14 x15 x16 x17 x18 x19 x20 x21 x22 x23 x24 x25 x26 x27 x28 x29 x30 x31 x32 x33 x34 x35 x36 x37 x38 x39 x40 x41 x42 x43 x44 x45 x46 x47 x48 x49 x50 x51 x52 x53 x54 x55 x56 x57 x58 x59 x60 x61 x62 x63 x64 x65 x66 x67 x68 x69 x70 x71 x72 x73 x74 x75 x76 x77 x78 x79 x80 x81 x82 x83 x84 x85 x86 x87 x88 x89 x90 x91 x92 x93 x94 x95 x96 x97 x98 x99 x100 x101 x102 x103 x104 x105 x106 x107 x108 x109 : Value}
    (hB : Try.f3.body = some (.seq r0 (.seq r1 (.seq c2 (.seq r4 (.seq (.seq r5 (.block q (.loop body))) rt)))))) (HT : Aside0 (TabL w p i b1 b2 m l)) (HB : Aside0 (Below w0.heap.size w0 w)) (HP : Aside0 (w0.heap.size ≤ p ∧ w0.heap.size ≤ b1 ∧ w0.heap.size ≤ b2)) (HA : Aside0 (a.block < w0.heap.size)) (k0 : Aside0 (w0.cell? (a.add (i * 3 + 0)) = some (.int .i64 d))) (k1 : Aside0 (w0.cell? (a.add (i * 3 + 1)) = some (.int .i64 j))) (k2 : Aside0 (w0.cell? (a.add (i * 3 + 2)) = some (.int .u64 u))) (WJ : Aside0 ((Lit.int .i64 j).wf = true)) (hi : i < len) (hl : i < 40) (hlc : len ≤ maxLen) (HM : Aside0 (m ≤ 2 * i)) (HI : Aside0 (∀ g ∈ l, 1 ≤ g.1 ∧ g.1 ≤ i ∧ 0 ≤ g.2.1 ∧ g.2.1 < i)) (HL : Aside0 (l.length ≤ i)) (hd : Int.tmod d 2 = 0)
    (cont : ∀ (w' : World) (l' : List G3) (y2 y3 y8 y9 y10 y11 y12 y13 y14 y15 y16 y17 y18 y19 y20 y21 y22 y23 y24 y25 y26 y27 y28 y29 y30 y31 y32 y33 y34 y35 y36 y37 y38 y39 y40 y41 y42 y43 y44 y45 y46 y47 y48 y49 y50 y51 y52 y53 y54 y55 y56 y57 y58 y59 y60 y61 y62 y63 y64 y65 y66 y67 y68 y69 y70 y71 y72 y73 y74 y75 y76 y77 y78 y79 y80 y81 y82 y83 y84 y85 y86 y87 y88 y89 y90 y91 y92 y93 y94 y95 y96 y97 y98 y99 y100 y101 y102 y103 y104 y105 y106 y107 y108 y109 : Value), TabL w' p ((i : Int) + 1) b1 b2 (m + 2) l' → l'.Sublist (l ++ [((i : Int) + 1, (i : Int), u)]) → Below w0.heap.size w0 w' → Code.rounds Try.prog body (Exit.inBlock 0 (Exit.then K (bodyPost Try.prog Try.f3 R))) N ⟨#[.slice (some a) len cap, .int .i64 num, y2, y3, .bool false, .pointer (some ⟨p, 0, none⟩), .int .i64 (i + 1), .int .i64 (i + 1), y8, y9, y10, y11, y12, y13, y14, y15, y16, y17, y18, y19, y20, y21, y22, y23, y24, y25, y26, y27, y28, y29, y30, y31, y32, y33, y34, y35, y36, y37, y38, y39, y40, y41, y42, y43, y44, y45, y46, y47, y48, y49, y50, y51, y52, y53, y54, y55, y56, y57, y58, y59, y60, y61, y62, y63, y64, y65, y66, y67, y68, y69, y70, y71, y72, y73, y74, y75, y76, y77, y78, y79, y80, y81, y82, y83, y84, y85, y86, y87, y88, y89, y90, y91, y92, y93, y94, y95, y96, y97, y98, y99, y100, y101, y102, y103, y104, y105, y106, y107, y108, y109], []⟩ w') :
    Code.rounds Try.prog body (Exit.inBlock 0 (Exit.then K (bodyPost Try.prog Try.f3 R))) (N + 1) ⟨#[.slice (some a) len cap, .int .i64 num, x2, x3, .bool false, .pointer (some ⟨p, 0, none⟩), .int .i64 i, .int .i64 i, x8, x9, x10, x11, x12, x13, x14, x15, x16, x17, x18, x19, x20, x21, x22, x23, x24, x25, x26, x27, x28, x29, x30, x31, x32, x33, x34, x35, x36, x37, x38, x39, x40, x41, x42, x43, x44, x45, x46, x47, x48, x49, x50, x51, x52, x53, x54, x55, x56, x57, x58, x59, x60, x61, x62, x63, x64, x65, x66, x67, x68, x69, x70, x71, x72, x73, x74, x75, x76, x77, x78, x79, x80, x81, x82, x83, x84, x85, x86, x87, x88, x89, x90, x91, x92, x93, x94, x95, x96, x97, x98, x99, x100, x101, x102, x103, x104, x105, x106, x107, x108, x109], []⟩ w := by
  have hbody := num_body rfl hB
  clear hB
  subst hbody
  have hcont := Aside0.mk cont
  clear cont
  have AB : ∀ z, (a.add (i * 3 + z)).block < w0.heap.size := fun z => by rw [addr_block3]; exact HA.out
  have c0 := (HB.out.cell (AB 0)).trans k0.out
  have c1 := (HB.out.cell (AB 1)).trans k1.out
  have c2' := (HB.out.cell (AB 2)).trans k2.out
  rw [Nat.add_zero] at c0
  rw [addr_field a (i * 3) 0] at c1
  rw [addr_field a (i * 3) 1] at c2'
  rw [rounds_succ]
  unfold maxLen at hlc
  go_wp2_with (first
    | (go_at_call 10; refine (drop_any T1.out (WalkArith.wf_i64 (by omega))).mono ?_; rintro e w2 ⟨c, ok, rfl, hd, hT, hb⟩; have T2 := Aside0.mk hT; have B2 := Aside0.mk (B1.out.trans (hb _ HP.out.1 HP.out.2.1 HP.out.2.2)); clear hd hT hb)
    | (go_at_call 11; refine (mod_calls WJ.out (by omega) (by omega)).mono ?_; rintro e z ⟨hz, k, rfl, hk0, hk1⟩; obtain rfl := hz.symm)
    | (go_at_call 9; refine (grant_l HT.out (WalkArith.wf_i64 (by omega)) (by omega) (by omega) (by have := HM.out; unfold maxLen; omega) (fun g hg => by have := (HI.out g hg).2.2.2; omega) (fun g hg => (HI.out g hg).2.1)).mono ?_; rintro e w1 ⟨rfl, hT, hbl, hs, hf⟩; have T1 := Aside0.mk hT; have B1 := Aside0.mk (HB.out.trans (hbl _ HP.out.1 HP.out.2.1 HP.out.2.2)); have k0' := (B1.out.cell (AB 0)).trans k0.out; have k1' := (B1.out.cell (AB 1)).trans k1.out; have k2' := (B1.out.cell (AB 2)).trans k2.out; rw [Nat.add_zero] at k0'; rw [addr_field a (i * 3) 0] at k1'; rw [addr_field a (i * 3) 1] at k2'; clear hT hbl hs hf))
  exact hcont.out _ _ _ _ _ _ _ _ _ _ _ _ _ _ _ _ _ _ _ _ _ _ _ _ _ _ _ _ _ _ _ _ _ _ _ _ _ _ _ _ _ _ _ _ _ _ _ _ _ _ _ _ _ _ _ _ _ _ _ _ _ _ _ _ _ _ _ _ _ _ _ _ _ _ _ _ _ _ _ _ _ _ _ _ _ _ _ _ _ _ _ _ _ _ _ _ _ _ _ _ _ _ _ _ _ _ T2.out List.filter_sublist B2.out
set_option maxRecDepth 100000 in
set_option maxHeartbeats 4000000 in
theorem num_odd {w0 w : World} {a : Addr} {len cap p b1 b2 m i : Nat} {num d j u : Int} {l : List G3} {K : Act → World → Prop} {R : Ending → World → Prop} {N q : Nat} {r0 r1 c2 r4 r5 body rt : Code} {x2 x3 x8 x9 x10 x11 x12 x13 x14 x15 x16 x17 x18 x19 x20 x21 x22 x23 x24 x25 x26 x27 x28 x29 x30 x31 x32 x33 x34 x35 x36 x37 x38 x39 x40 x41 x42 x43 x44 x45 x46 x47 x48 x49 x50 x51 x52 x53 x54 x55 x56 x57 x58 x59 x60 x61 x62 x63 x64 x65 x66 x67 x68 x69 x70 x71 x72 x73 x74 x75 x76 x77 x78 x79 x80 x81 x82 x83 x84 x85 x86 x87 x88 x89 x90 x91 x92 x93 x94 x95 x96 x97 x98 x99 x100 x101 x102 x103 x104 x105 x106 x107 x108 x109 : Value}
    (hB : Try.f3.body = some (.seq r0 (.seq r1 (.seq c2 (.seq r4 (.seq (.seq r5 (.block q (.loop body))) rt)))))) (HT : Aside0 (TabL w p i b1 b2 m l)) (HB : Aside0 (Below w0.heap.size w0 w)) (HP : Aside0 (w0.heap.size ≤ p ∧ w0.heap.size ≤ b1 ∧ w0.heap.size ≤ b2)) (HA : Aside0 (a.block < w0.heap.size)) (k0 : Aside0 (w0.cell? (a.add (i * 3 + 0)) = some (.int .i64 d))) (k1 : Aside0 (w0.cell? (a.add (i * 3 + 1)) = some (.int .i64 j))) (k2 : Aside0 (w0.cell? (a.add (i * 3 + 2)) = some (.int .u64 u))) (WJ : Aside0 ((Lit.int .i64 j).wf = true)) (hi : i < len) (hl : i < 40) (hlc : len ≤ maxLen) (HM : Aside0 (m ≤ 2 * i)) (HI : Aside0 (∀ g ∈ l, 1 ≤ g.1 ∧ g.1 ≤ i ∧ 0 ≤ g.2.1 ∧ g.2.1 < i)) (HL : Aside0 (l.length ≤ i)) (hd : Int.tmod d 2 ≠ 0)
    (cont : ∀ (w' : World) (l' : List G3) (y2 y3 y8 y9 y10 y11 y12 y13 y14 y15 y16 y17 y18 y19 y20 y21 y22 y23 y24 y25 y26 y27 y28 y29 y30 y31 y32 y33 y34 y35 y36 y37 y38 y39 y40 y41 y42 y43 y44 y45 y46 y47 y48 y49 y50 y51 y52 y53 y54 y55 y56 y57 y58 y59 y60 y61 y62 y63 y64 y65 y66 y67 y68 y69 y70 y71 y72 y73 y74 y75 y76 y77 y78 y79 y80 y81 y82 y83 y84 y85 y86 y87 y88 y89 y90 y91 y92 y93 y94 y95 y96 y97 y98 y99 y100 y101 y102 y103 y104 y105 y106 y107 y108 y109 : Value), TabL w' p ((i : Int) + 1) b1 b2 (m + 2) l' → l'.Sublist (l ++ [((i : Int) + 1, (i : Int), u)]) → Below w0.heap.size w0 w' → Code.rounds Try.prog body (Exit.inBlock 0 (Exit.then K (bodyPost Try.prog Try.f3 R))) N ⟨#[.slice (some a) len cap, .int .i64 num, y2, y3, .bool false, .pointer (some ⟨p, 0, none⟩), .int .i64 (i + 1), .int .i64 (i + 1), y8, y9, y10, y11, y12, y13, y14, y15, y16, y17, y18, y19, y20, y21, y22, y23, y24, y25, y26, y27, y28, y29, y30, y31, y32, y33, y34, y35, y36, y37, y38, y39, y40, y41, y42, y43, y44, y45, y46, y47, y48, y49, y50, y51, y52, y53, y54, y55, y56, y57, y58, y59, y60, y61, y62, y63, y64, y65, y66, y67, y68, y69, y70, y71, y72, y73, y74, y75, y76, y77, y78, y79, y80, y81, y82, y83, y84, y85, y86, y87, y88, y89, y90, y91, y92, y93, y94, y95, y96, y97, y98, y99, y100, y101, y102, y103, y104, y105, y106, y107, y108, y109], []⟩ w') :
    Code.rounds Try.prog body (Exit.inBlock 0 (Exit.then K (bodyPost Try.prog Try.f3 R))) (N + 1) ⟨#[.slice (some a) len cap, .int .i64 num, x2, x3, .bool false, .pointer (some ⟨p, 0, none⟩), .int .i64 i, .int .i64 i, x8, x9, x10, x11, x12, x13, x14, x15, x16, x17, x18, x19, x20, x21, x22, x23, x24, x25, x26, x27, x28, x29, x30, x31, x32, x33, x34, x35, x36, x37, x38, x39, x40, x41, x42, x43, x44, x45, x46, x47, x48, x49, x50, x51, x52, x53, x54, x55, x56, x57, x58, x59, x60, x61, x62, x63, x64, x65, x66, x67, x68, x69, x70, x71, x72, x73, x74, x75, x76, x77, x78, x79, x80, x81, x82, x83, x84, x85, x86, x87, x88, x89, x90, x91, x92, x93, x94, x95, x96, x97, x98, x99, x100, x101, x102, x103, x104, x105, x106, x107, x108, x109], []⟩ w := by
  have hbody := num_body rfl hB
  clear hB
  subst hbody
  have hcont := Aside0.mk cont
  clear cont
  have AB : ∀ z, (a.add (i * 3 + z)).block < w0.heap.size := fun z => by rw [addr_block3]; exact HA.out
  have c0 := (HB.out.cell (AB 0)).trans k0.out
  have c1 := (HB.out.cell (AB 1)).trans k1.out
  have c2' := (HB.out.cell (AB 2)).trans k2.out
  rw [Nat.add_zero] at c0
  rw [addr_field a (i * 3) 0] at c1
  rw [addr_field a (i * 3) 1] at c2'
  rw [rounds_succ]
  unfold maxLen at hlc
  go_wp2_with (first
    | (go_at_call 12; refine (over_l sorts T1.out (by have := HL.out; simp only [List.length_append, List.length_singleton]; omega)).mono ?_; rintro e w2 ⟨v, l', rfl, hr, hp, ht, hT, hb, hfr⟩; have T2 := Aside0.mk hT; have B2 := Aside0.mk (B1.out.trans (hb _ HP.out.1 HP.out.2.1 HP.out.2.2)); clear hr hp ht hT hb hfr)
    | (go_at_call 9; refine (grant_l HT.out (WalkArith.wf_i64 (by omega)) (by omega) (by omega) (by have := HM.out; unfold maxLen; omega) (fun g hg => by have := (HI.out g hg).2.2.2; omega) (fun g hg => (HI.out g hg).2.1)).mono ?_; rintro e w1 ⟨rfl, hT, hbl, hs, hf⟩; have T1 := Aside0.mk hT; have B1 := Aside0.mk (HB.out.trans (hbl _ HP.out.1 HP.out.2.1 HP.out.2.2)); have k0' := (B1.out.cell (AB 0)).trans k0.out; have k1' := (B1.out.cell (AB 1)).trans k1.out; have k2' := (B1.out.cell (AB 2)).trans k2.out; rw [Nat.add_zero] at k0'; rw [addr_field a (i * 3) 0] at k1'; rw [addr_field a (i * 3) 1] at k2'; clear hT hbl hs hf))
  exact hcont.out _ _ _ _ _ _ _ _ _ _ _ _ _ _ _ _ _ _ _ _ _ _ _ _ _ _ _ _ _ _ _ _ _ _ _ _ _ _ _ _ _ _ _ _ _ _ _ _ _ _ _ _ _ _ _ _ _ _ _ _ _ _ _ _ _ _ _ _ _ _ _ _ _ _ _ _ _ _ _ _ _ _ _ _ _ _ _ _ _ _ _ _ _ _ _ _ _ _ _ _ _ _ _ _ _ _ T2.out List.filter_sublist B2.out
set_option maxRecDepth 100000 in
set_option maxHeartbeats 4000000 in
theorem num_exit {w : World} {a : Addr} {len cap p i : Nat} {num : Int} {K : Act → World → Prop} {R : Ending → World → Prop} {N q : Nat} {r0 r1 c2 r4 r5 body rt : Code} {x2 x3 x8 x9 x10 x11 x12 x13 x14 x15 x16 x17 x18 x19 x20 x21 x22 x23 x24 x25 x26 x27 x28 x29 x30 x31 x32 x33 x34 x35 x36 x37 x38 x39 x40 x41 x42 x43 x44 x45 x46 x47 x48 x49 x50 x51 x52 x53 x54 x55 x56 x57 x58 x59 x60 x61 x62 x63 x64 x65 x66 x67 x68 x69 x70 x71 x72 x73 x74 x75 x76 x77 x78 x79 x80 x81 x82 x83 x84 x85 x86 x87 x88 x89 x90 x91 x92 x93 x94 x95 x96 x97 x98 x99 x100 x101 x102 x103 x104 x105 x106 x107 x108 x109 : Value} (hB : Try.f3.body = some (.seq r0 (.seq r1 (.seq c2 (.seq r4 (.seq (.seq r5 (.block q (.loop body))) rt)))))) (hi : ¬ (i < len ∧ i < 40)) (h40 : i ≤ 40) (hlc : len ≤ maxLen)
    (cont : ∀ (y2 y3 y8 y9 y10 y11 y12 y13 y14 y15 y16 y17 y18 y19 y20 y21 y22 y23 y24 y25 y26 y27 y28 y29 y30 y31 y32 y33 y34 y35 y36 y37 y38 y39 y40 y41 y42 y43 y44 y45 y46 y47 y48 y49 y50 y51 y52 y53 y54 y55 y56 y57 y58 y59 y60 y61 y62 y63 y64 y65 y66 y67 y68 y69 y70 y71 y72 y73 y74 y75 y76 y77 y78 y79 y80 y81 y82 y83 y84 y85 y86 y87 y88 y89 y90 y91 y92 y93 y94 y95 y96 y97 y98 y99 y100 y101 y102 y103 y104 y105 y106 y107 y108 y109 : Value), K ⟨#[.slice (some a) len cap, .int .i64 num, y2, y3, .bool false, .pointer (some ⟨p, 0, none⟩), .int .i64 i, .int .i64 i, y8, y9, y10, y11, y12, y13, y14, y15, y16, y17, y18, y19, y20, y21, y22, y23, y24, y25, y26, y27, y28, y29, y30, y31, y32, y33, y34, y35, y36, y37, y38, y39, y40, y41, y42, y43, y44, y45, y46, y47, y48, y49, y50, y51, y52, y53, y54, y55, y56, y57, y58, y59, y60, y61, y62, y63, y64, y65, y66, y67, y68, y69, y70, y71, y72, y73, y74, y75, y76, y77, y78, y79, y80, y81, y82, y83, y84, y85, y86, y87, y88, y89, y90, y91, y92, y93, y94, y95, y96, y97, y98, y99, y100, y101, y102, y103, y104, y105, y106, y107, y108, y109], []⟩ w) : Code.rounds Try.prog body (Exit.inBlock 0 (Exit.then K (bodyPost Try.prog Try.f3 R))) (N + 1) ⟨#[.slice (some a) len cap, .int .i64 num, x2, x3, .bool false, .pointer (some ⟨p, 0, none⟩), .int .i64 i, .int .i64 i, x8, x9, x10, x11, x12, x13, x14, x15, x16, x17, x18, x19, x20, x21, x22, x23, x24, x25, x26, x27, x28, x29, x30, x31, x32, x33, x34, x35, x36, x37, x38, x39, x40, x41, x42, x43, x44, x45, x46, x47, x48, x49, x50, x51, x52, x53, x54, x55, x56, x57, x58, x59, x60, x61, x62, x63, x64, x65, x66, x67, x68, x69, x70, x71, x72, x73, x74, x75, x76, x77, x78, x79, x80, x81, x82, x83, x84, x85, x86, x87, x88, x89, x90, x91, x92, x93, x94, x95, x96, x97, x98, x99, x100, x101, x102, x103, x104, x105, x106, x107, x108, x109], []⟩ w := by
  have hbody := num_body rfl hB
  clear hB
  subst hbody
  have hcont := Aside0.mk cont
  clear cont
  unfold maxLen at hlc
  rw [rounds_succ]
  by_cases h : i < len
  · have h2 : i = 40 := by omega
    subst h2
    go_wp2
    exact hcont.out _ _ _ _ _ _ _ _ _ _ _ _ _ _ _ _ _ _ _ _ _ _ _ _ _ _ _ _ _ _ _ _ _ _ _ _ _ _ _ _ _ _ _ _ _ _ _ _ _ _ _ _ _ _ _ _ _ _ _ _ _ _ _ _ _ _ _ _ _ _ _ _ _ _ _ _ _ _ _ _ _ _ _ _ _ _ _ _ _ _ _ _ _ _ _ _ _ _ _ _ _ _ _ _
  · go_wp2
    exact hcont.out _ _ _ _ _ _ _ _ _ _ _ _ _ _ _ _ _ _ _ _ _ _ _ _ _ _ _ _ _ _ _ _ _ _ _ _ _ _ _ _ _ _ _ _ _ _ _ _ _ _ _ _ _ _ _ _ _ _ _ _ _ _ _ _ _ _ _ _ _ _ _ _ _ _ _ _ _ _ _ _ _ _ _ _ _ _ _ _ _ _ _ _ _ _ _ _ _ _ _ _ _ _ _ _
def NumI (i : Nat) (l : List G3) : Prop := (∀ g ∈ l, 1 ≤ g.1 ∧ g.1 ≤ i ∧ 0 ≤ g.2.1 ∧ g.2.1 < i) ∧ l.length ≤ i
theorem NumI.next {i : Nat} {l l' : List G3} {u : Int} (h : NumI i l) (s : l'.Sublist (l ++ [((i : Int) + 1, (i : Int), u)])) : NumI (i + 1) l' := by
  refine ⟨fun g hg => ?_, ?_⟩
  · rcases List.mem_append.1 (s.subset hg) with hg | hg
    · have := h.1 g hg
      omega
    · obtain rfl := List.mem_singleton.1 hg
      simp only
      omega
  · have h1 := s.length_le
    have h2 := h.2
    simp only [List.length_append, List.length_singleton] at h1
    omega
theorem num_loop {w0 : World} {a : Addr} {len cap p b1 b2 : Nat} {num : Int} {K : Act → World → Prop} {R : Ending → World → Prop} {q : Nat} {r0 r1 c2 r4 r5 body rt : Code} (hB : Try.f3.body = some (.seq r0 (.seq r1 (.seq c2 (.seq r4 (.seq (.seq r5 (.block q (.loop body))) rt)))))) (hlc : len ≤ maxLen) (HP : w0.heap.size ≤ p ∧ w0.heap.size ≤ b1 ∧ w0.heap.size ≤ b2)
    (hz : ∀ i, i < len → ∃ d j u, w0.cell? (a.add (i * 3 + 0)) = some (.int .i64 d) ∧ w0.cell? (a.add (i * 3 + 1)) = some (.int .i64 j) ∧ w0.cell? (a.add (i * 3 + 2)) = some (.int .u64 u) ∧ (Lit.int .i64 j).wf = true)
    (hK : ∀ (w' : World) (i m : Nat) (l : List G3) (y2 y3 y8 y9 y10 y11 y12 y13 y14 y15 y16 y17 y18 y19 y20 y21 y22 y23 y24 y25 y26 y27 y28 y29 y30 y31 y32 y33 y34 y35 y36 y37 y38 y39 y40 y41 y42 y43 y44 y45 y46 y47 y48 y49 y50 y51 y52 y53 y54 y55 y56 y57 y58 y59 y60 y61 y62 y63 y64 y65 y66 y67 y68 y69 y70 y71 y72 y73 y74 y75 y76 y77 y78 y79 y80 y81 y82 y83 y84 y85 y86 y87 y88 y89 y90 y91 y92 y93 y94 y95 y96 y97 y98 y99 y100 y101 y102 y103 y104 y105 y106 y107 y108 y109 : Value), TabL w' p i b1 b2 m l → NumI i l → i ≤ 40 → Below w0.heap.size w0 w' → K ⟨#[.slice (some a) len cap, .int .i64 num, y2, y3, .bool false, .pointer (some ⟨p, 0, none⟩), .int .i64 i, .int .i64 i, y8, y9, y10, y11, y12, y13, y14, y15, y16, y17, y18, y19, y20, y21, y22, y23, y24, y25, y26, y27, y28, y29, y30, y31, y32, y33, y34, y35, y36, y37, y38, y39, y40, y41, y42, y43, y44, y45, y46, y47, y48, y49, y50, y51, y52, y53, y54, y55, y56, y57, y58, y59, y60, y61, y62, y63, y64, y65, y66, y67, y68, y69, y70, y71, y72, y73, y74, y75, y76, y77, y78, y79, y80, y81, y82, y83, y84, y85, y86, y87, y88, y89, y90, y91, y92, y93, y94, y95, y96, y97, y98, y99, y100, y101, y102, y103, y104, y105, y106, y107, y108, y109], []⟩ w') :
    ∀ (d i m : Nat) (l : List G3) (w : World) {y2 y3 y8 y9 y10 y11 y12 y13 y14 y15 y16 y17 y18 y19 y20 y21 y22 y23 y24 y25 y26 y27 y28 y29 y30 y31 y32 y33 y34 y35 y36 y37 y38 y39 y40 y41 y42 y43 y44 y45 y46 y47 y48 y49 y50 y51 y52 y53 y54 y55 y56 y57 y58 y59 y60 y61 y62 y63 y64 y65 y66 y67 y68 y69 y70 y71 y72 y73 y74 y75 y76 y77 y78 y79 y80 y81 y82 y83 y84 y85 y86 y87 y88 y89 y90 y91 y92 y93 y94 y95 y96 y97 y98 y99 y100 y101 y102 y103 y104 y105 y106 y107 y108 y109 : Value}, 40 ≤ i + d → i ≤ 40 → TabL w p i b1 b2 m l → NumI i l → m ≤ 2 * i → Below w0.heap.size w0 w → Code.rounds Try.prog body (Exit.inBlock 0 (Exit.then K (bodyPost Try.prog Try.f3 R))) (d + 1) ⟨#[.slice (some a) len cap, .int .i64 num, y2, y3, .bool false, .pointer (some ⟨p, 0, none⟩), .int .i64 i, .int .i64 i, y8, y9, y10, y11, y12, y13, y14, y15, y16, y17, y18, y19, y20, y21, y22, y23, y24, y25, y26, y27, y28, y29, y30, y31, y32, y33, y34, y35, y36, y37, y38, y39, y40, y41, y42, y43, y44, y45, y46, y47, y48, y49, y50, y51, y52, y53, y54, y55, y56, y57, y58, y59, y60, y61, y62, y63, y64, y65, y66, y67, y68, y69, y70, y71, y72, y73, y74, y75, y76, y77, y78, y79, y80, y81, y82, y83, y84, y85, y86, y87, y88, y89, y90, y91, y92, y93, y94, y95, y96, y97, y98, y99, y100, y101, y102, y103, y104, y105, y106, y107, y108, y109], []⟩ w := by
  intro d
  induction d with
  | zero =>
    intro i m l w y2 y3 y8 y9 y10 y11 y12 y13 y14 y15 y16 y17 y18 y19 y20 y21 y22 y23 y24 y25 y26 y27 y28 y29 y30 y31 y32 y33 y34 y35 y36 y37 y38 y39 y40 y41 y42 y43 y44 y45 y46 y47 y48 y49 y50 y51 y52 y53 y54 y55 y56 y57 y58 y59 y60 y61 y62 y63 y64 y65 y66 y67 y68 y69 y70 y71 y72 y73 y74 y75 y76 y77 y78 y79 y80 y81 y82 y83 y84 y85 y86 y87 y88 y89 y90 y91 y92 y93 y94 y95 y96 y97 y98 y99 y100 y101 y102 y103 y104 y105 y106 y107 y108 y109 hd h40 HT HI hm HB
    exact num_exit hB (by omega) h40 hlc (fun y2 y3 y8 y9 y10 y11 y12 y13 y14 y15 y16 y17 y18 y19 y20 y21 y22 y23 y24 y25 y26 y27 y28 y29 y30 y31 y32 y33 y34 y35 y36 y37 y38 y39 y40 y41 y42 y43 y44 y45 y46 y47 y48 y49 y50 y51 y52 y53 y54 y55 y56 y57 y58 y59 y60 y61 y62 y63 y64 y65 y66 y67 y68 y69 y70 y71 y72 y73 y74 y75 y76 y77 y78 y79 y80 y81 y82 y83 y84 y85 y86 y87 y88 y89 y90 y91 y92 y93 y94 y95 y96 y97 y98 y99 y100 y101 y102 y103 y104 y105 y106 y107 y108 y109 => hK w i m l y2 y3 y8 y9 y10 y11 y12 y13 y14 y15 y16 y17 y18 y19 y20 y21 y22 y23 y24 y25 y26 y27 y28 y29 y30 y31 y32 y33 y34 y35 y36 y37 y38 y39 y40 y41 y42 y43 y44 y45 y46 y47 y48 y49 y50 y51 y52 y53 y54 y55 y56 y57 y58 y59 y60 y61 y62 y63 y64 y65 y66 y67 y68 y69 y70 y71 y72 y73 y74 y75 y76 y77 y78 y79 y80 y81 y82 y83 y84 y85 y86 y87 y88 y89 y90 y91 y92 y93 y94 y95 y96 y97 y98 y99 y100 y101 y102 y103 y104 y105 y106 y107 y108 y109 HT HI h40 HB)
  | succ d ih =>
    intro i m l w y2 y3 y8 y9 y10 y11 y12 y13 y14 y15 y16 y17 y18 y19 y20 y21 y22 y23 y24 y25 y26 y27 y28 y29 y30 y31 y32 y33 y34 y35 y36 y37 y38 y39 y40 y41 y42 y43 y44 y45 y46 y47 y48 y49 y50 y51 y52 y53 y54 y55 y56 y57 y58 y59 y60 y61 y62 y63 y64 y65 y66 y67 y68 y69 y70 y71 y72 y73 y74 y75 y76 y77 y78 y79 y80 y81 y82 y83 y84 y85 y86 y87 y88 y89 y90 y91 y92 y93 y94 y95 y96 y97 y98 y99 y100 y101 y102 y103 y104 y105 y106 y107 y108 y109 hd h40 HT HI hm HB
    by_cases c : i < len ∧ i < 40
    · obtain ⟨d0, j, u, k0, k1, k2, wj⟩ := hz i c.1
      have HA : a.block < w0.heap.size := by
        have := World.block_lt_of_cell? w0 _ k0
        rwa [addr_block3] at this
      by_cases ev : Int.tmod d0 2 = 0
      · exact num_even hB ⟨HT⟩ ⟨HB⟩ ⟨HP⟩ ⟨HA⟩ ⟨k0⟩ ⟨k1⟩ ⟨k2⟩ ⟨wj⟩ c.1 c.2 hlc ⟨hm⟩ ⟨HI.1⟩ ⟨HI.2⟩ ev (fun w' l' y2 y3 y8 y9 y10 y11 y12 y13 y14 y15 y16 y17 y18 y19 y20 y21 y22 y23 y24 y25 y26 y27 y28 y29 y30 y31 y32 y33 y34 y35 y36 y37 y38 y39 y40 y41 y42 y43 y44 y45 y46 y47 y48 y49 y50 y51 y52 y53 y54 y55 y56 y57 y58 y59 y60 y61 y62 y63 y64 y65 y66 y67 y68 y69 y70 y71 y72 y73 y74 y75 y76 y77 y78 y79 y80 y81 y82 y83 y84 y85 y86 y87 y88 y89 y90 y91 y92 y93 y94 y95 y96 y97 y98 y99 y100 y101 y102 y103 y104 y105 y106 y107 y108 y109 T' S' B' => ih (i + 1) (m + 2) l' w' (by omega) (by omega) T' (HI.next S') (by omega) B')
      · exact num_odd hB ⟨HT⟩ ⟨HB⟩ ⟨HP⟩ ⟨HA⟩ ⟨k0⟩ ⟨k1⟩ ⟨k2⟩ ⟨wj⟩ c.1 c.2 hlc ⟨hm⟩ ⟨HI.1⟩ ⟨HI.2⟩ ev (fun w' l' y2 y3 y8 y9 y10 y11 y12 y13 y14 y15 y16 y17 y18 y19 y20 y21 y22 y23 y24 y25 y26 y27 y28 y29 y30 y31 y32 y33 y34 y35 y36 y37 y38 y39 y40 y41 y42 y43 y44 y45 y46 y47 y48 y49 y50 y51 y52 y53 y54 y55 y56 y57 y58 y59 y60 y61 y62 y63 y64 y65 y66 y67 y68 y69 y70 y71 y72 y73 y74 y75 y76 y77 y78 y79 y80 y81 y82 y83 y84 y85 y86 y87 y88 y89 y90 y91 y92 y93 y94 y95 y96 y97 y98 y99 y100 y101 y102 y103 y104 y105 y106 y107 y108 y109 T' S' B' => ih (i + 1) (m + 2) l' w' (by omega) (by omega) T' (HI.next S') (by omega) B')
    · exact num_exit hB c h40 hlc (fun y2 y3 y8 y9 y10 y11 y12 y13 y14 y15 y16 y17 y18 y19 y20 y21 y22 y23 y24 y25 y26 y27 y28 y29 y30 y31 y32 y33 y34 y35 y36 y37 y38 y39 y40 y41 y42 y43 y44 y45 y46 y47 y48 y49 y50 y51 y52 y53 y54 y55 y56 y57 y58 y59 y60 y61 y62 y63 y64 y65 y66 y67 y68 y69 y70 y71 y72 y73 y74 y75 y76 y77 y78 y79 y80 y81 y82 y83 y84 y85 y86 y87 y88 y89 y90 y91 y92 y93 y94 y95 y96 y97 y98 y99 y100 y101 y102 y103 y104 y105 y106 y107 y108 y109 => hK w i m l y2 y3 y8 y9 y10 y11 y12 y13 y14 y15 y16 y17 y18 y19 y20 y21 y22 y23 y24 y25 y26 y27 y28 y29 y30 y31 y32 y33 y34 y35 y36 y37 y38 y39 y40 y41 y42 y43 y44 y45 y46 y47 y48 y49 y50 y51 y52 y53 y54 y55 y56 y57 y58 y59 y60 y61 y62 y63 y64 y65 y66 y67 y68 y69 y70 y71 y72 y73 y74 y75 y76 y77 y78 y79 y80 y81 y82 y83 y84 y85 y86 y87 y88 y89 y90 y91 y92 y93 y94 y95 y96 y97 y98 y99 y100 y101 y102 y103 y104 y105 y106 y107 y108 y109 HT HI h40 HB)
set_option maxRecDepth 100000 in
set_option maxHeartbeats 4000000 in
theorem num_some {w : World} {a : Addr} {len cap : Nat} {num : Int} (hz : ∀ i, i < len → ∃ d j u, w.cell? (a.add (i * 3 + 0)) = some (.int .i64 d) ∧ w.cell? (a.add (i * 3 + 1)) = some (.int .i64 j) ∧ w.cell? (a.add (i * 3 + 2)) = some (.int .u64 u) ∧ (Lit.int .i64 j).wf = true) (hlen : len ≤ maxLen) (hn : (Lit.int .i64 num).wf = true) : Calls Try.prog 3 #[.slice (some a) len cap, .int .i64 num] w fun e w' => e = .returned (.bool true) ∧ Below w.heap.size w w' := by
  have HZ := Aside0.mk hz
  have WN := Aside0.mk hn
  clear hz hn
  go_enter Try.func3, Try.ntmps3
  go_wp2_with (go_at_call 8; refine (new_l w).mono ?_; rintro e w1 ⟨rfl, hT, hb, hs⟩; have TT := Aside0.mk hT; have WW := Aside0.mk hb; clear hT hb hs)
  refine wp_loop_rounds (40 + 1) ?_
  refine num_loop (num := num) (p := w.heap.size + 2) (b1 := w.heap.size) (b2 := w.heap.size + 1) (cap := cap) rfl hlen ⟨by omega, by omega, by omega⟩ HZ.out ?_ 40 0 0 [] w1 (by omega) (by omega) TT.out ⟨fun g hg => (List.not_mem_nil hg).elim, Nat.le_refl _⟩ (by omega) WW.out
  intro w2 i m l y2 y3 y8 y9 y10 y11 y12 y13 y14 y15 y16 y17 y18 y19 y20 y21 y22 y23 y24 y25 y26 y27 y28 y29 y30 y31 y32 y33 y34 y35 y36 y37 y38 y39 y40 y41 y42 y43 y44 y45 y46 y47 y48 y49 y50 y51 y52 y53 y54 y55 y56 y57 y58 y59 y60 y61 y62 y63 y64 y65 y66 y67 y68 y69 y70 y71 y72 y73 y74 y75 y76 y77 y78 y79 y80 y81 y82 y83 y84 y85 y86 y87 y88 y89 y90 y91 y92 y93 y94 y95 y96 y97 y98 y99 y100 y101 y102 y103 y104 y105 y106 y107 y108 y109 hT hI hi hB
  have T2 := Aside0.mk hT
  have B2 := Aside0.mk hB
  by_cases c : 1 ≤ num ∧ num ≤ i
  · obtain ⟨c1, c2⟩ := c
    clear hT hI hB
    have B4 := B2
    go_wp2_with (go_at_call 13; refine (wakes_calls).mono ?_; rintro e z ⟨rfl, hb⟩; have WZ := Aside0.mk (B2.out.trans (hb.mono B2.out.size)); clear hb)
    go_ret
    exact ⟨rfl, WZ.out⟩
  · have NG : Aside0 (∀ g ∈ l, g.1 ≠ num) := ⟨fun g hg e => by have := hI.1 g hg; omega⟩
    clear hT hI hB
    by_cases c1 : 1 ≤ num
    · have c2 : (i : Int) < num := by omega
      go_wp2_with (first
    | (go_at_call 13; refine (wakes_calls).mono ?_; rintro e z ⟨rfl, hb⟩; have WZ := Aside0.mk (B4.out.trans (hb.mono B4.out.size)); clear hb)
    | (go_at_call 10; refine (drop_l_none T3.out WN.out NG.out).mono ?_; rintro e w4 ⟨hb, rfl⟩; have B4 := Aside0.mk (B3.out.trans (hb.mono B3.out.size)); have X4 := Aside0.mk ((hb.block _ (blk_lt X3.out)).trans X3.out); have l0 := blk_cell X4.out 0; have l1 := blk_cell X4.out 1; have l2 := blk_cell X4.out 2; clear hb)
    | (go_at_call 14; refine (look_l_none T2.out WN.out NG.out).mono ?_; rintro e w3 ⟨hb0, rfl⟩; have hb := hb0.alloc hb0.size (.cells #[.int .i64 0, .int .i64 0, .int .u64 0] 38); have X3 := Aside0.mk (heap_alloc_last w3 (.cells #[.int .i64 0, .int .i64 0, .int .u64 0] 38)); have T3 := Aside0.mk (T2.out.keep hb); have B3 := Aside0.mk (B2.out.trans (hb.mono B2.out.size)); clear hb hb0))
      go_ret
      exact ⟨rfl, WZ.out⟩
    · go_wp2_with (first
    | (go_at_call 13; refine (wakes_calls).mono ?_; rintro e z ⟨rfl, hb⟩; have WZ := Aside0.mk (B4.out.trans (hb.mono B4.out.size)); clear hb)
    | (go_at_call 10; refine (drop_l_none T3.out WN.out NG.out).mono ?_; rintro e w4 ⟨hb, rfl⟩; have B4 := Aside0.mk (B3.out.trans (hb.mono B3.out.size)); have X4 := Aside0.mk ((hb.block _ (blk_lt X3.out)).trans X3.out); have l0 := blk_cell X4.out 0; have l1 := blk_cell X4.out 1; have l2 := blk_cell X4.out 2; clear hb)
    | (go_at_call 14; refine (look_l_none T2.out WN.out NG.out).mono ?_; rintro e w3 ⟨hb0, rfl⟩; have hb := hb0.alloc hb0.size (.cells #[.int .i64 0, .int .i64 0, .int .u64 0] 38); have X3 := Aside0.mk (heap_alloc_last w3 (.cells #[.int .i64 0, .int .i64 0, .int .u64 0] 38)); have T3 := Aside0.mk (T2.out.keep hb); have B3 := Aside0.mk (B2.out.trans (hb.mono B2.out.size)); clear hb hb0))
      go_ret
      exact ⟨rfl, WZ.out⟩
end Go.Proofs.Ytikbgoppmailjaa.H
