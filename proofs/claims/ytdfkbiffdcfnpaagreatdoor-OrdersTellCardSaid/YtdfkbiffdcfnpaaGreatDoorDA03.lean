/- Parts of the proof of LawOrdersTell: words, contracts of the functions, plain laws. -/
import Derived.Test.YtdfkbiffdcfnpaaGreatDoorDA02
import Derived.ScopeJumps
/- span.Parse: its labels, one by one. -/
namespace Go.Proofs.YtdfkbiffdcfnpaaGreatDoor.H
open Go.RowKit Go.HK Go.Lib Go.WideShapes Go.ChangeShapes Go.Proofs.YtdfkbiffdcfnpaaGreatDoorW.PrintWords Go.Proofs.YtdfkbiffdcfnpaaGreatDoorW.PrintLast Go.Proofs.YtdfkbiffdcfnpaaGreatDoorW.PrintMore
set_option linter.unusedVariables false
set_option linter.unusedSimpArgs false
/-- What span.Parse hands back. -/
def spTo (w0 : World) (r : Nat × Int) (e : Ending) (w' : World) : Prop := e = .returned (.tuple #[.int .u64 r.1, .int .i64 r.2]) ∧ Below w0.heap.size w0 w'
theorem scope_of {c c' r0 r0' : Code} (h : Tryz.f117.body = some (.seq r0 (.scope c))) (h' : Tryz.f117.body = some (.seq r0' (.scope c'))) : c' = c := by
  rw [h] at h'
  simp only [Option.some.injEq, Code.seq.injEq, Code.scope.injEq] at h'
  exact h'.2.symm
theorem label_of {c rest rest' : Code} {l : Nat} (h : findLabel c l = some (.seq .skip rest)) (h' : findLabel c l = some (.seq .skip rest')) : rest' = rest := by
  rw [h] at h'
  simpa using h'.symm
theorem sEmpty {s : ByteArray} (h : s.data.toList = []) : s.toList = [] := by rw [ByteArray.toList_eq]; exact h
theorem sSome {s : ByteArray} (h : s.data.toList ≠ []) : s.toList.isEmpty = false ∧ (s.toList = []) = False := by
  have : s.toList ≠ [] := by rw [ByteArray.toList_eq]; exact h
  exact ⟨by simpa using this, eq_false this⟩
abbrev SQ (w0 : World) (r : Nat × Int) (K : Nat → Act → World → Prop) := jumps K (bodyPost Tryz.prog Tryz.f117 (spTo w0 r))
set_option maxRecDepth 100000 in
set_option maxHeartbeats 4000000 in
theorem sp_wrong {w0 w : World} {r : Nat × Int} {K : Nat → Act → World → Prop} {c r0 rest : Code} {x0 x1 x2 x3 x4 x5 x6 x7 x8 x9 x10 x11 x12 x13 x14 x15 x16 x17 x18 x19 x20 x21 x22 x23 x24 x25 x26 x27 x28 x29 x30 x31 x32 x33 x34 x35 x36 x37 x38 x39 x40 x41 x42 x43 x44 x45 x46 x47 x48 x49 x50 x51 x52 x53 x54 x55 x56 x57 x58 x59 x60 x61 x62 x63 x64 x65 x66 x67 x68 x69 x70 x71 x72 x73 : Value} (hB : Tryz.f117.body = some (.seq r0 (.scope c))) (hF : findLabel c 0 = some (.seq .skip rest)) (HB : Aside0 (Below w0.heap.size w0 w)) (hr : r = (0, 2)) :
    rest.wp Tryz.prog (SQ w0 r K) ⟨#[x0, x1, x2, x3, x4, x5, x6, x7, x8, x9, x10, x11, x12, x13, x14, x15, x16, x17, x18, x19, x20, x21, x22, x23, x24, x25, x26, x27, x28, x29, x30, x31, x32, x33, x34, x35, x36, x37, x38, x39, x40, x41, x42, x43, x44, x45, x46, x47, x48, x49, x50, x51, x52, x53, x54, x55, x56, x57, x58, x59, x60, x61, x62, x63, x64, x65, x66, x67, x68, x69, x70, x71, x72, x73], []⟩ w := by
  have hc := scope_of rfl hB
  subst hc
  have hr := label_of hF rfl
  subst hr
  clear hB hF
  subst hr
  go_wp2
  refine jumps_ret ?_
  go_ret2
  exact ⟨rfl, HB.out⟩
set_option maxRecDepth 100000 in
set_option maxHeartbeats 4000000 in
theorem sp_end {w0 w : World} {r : Nat × Int} {K : Nat → Act → World → Prop} {c r0 rest : Code} {T : Nat} {s : ByteArray} {x0 x1 x2 x3 x5 x6 x7 x8 x10 x11 x12 x13 x14 x15 x16 x17 x18 x19 x20 x21 x22 x23 x24 x25 x26 x27 x28 x29 x30 x31 x32 x33 x34 x35 x36 x37 x38 x39 x40 x41 x42 x43 x44 x45 x46 x47 x48 x49 x50 x51 x52 x53 x54 x55 x56 x57 x58 x59 x60 x61 x62 x63 x64 x65 x66 x67 x68 x69 x70 x71 x72 x73 : Value} (hB : Tryz.f117.body = some (.seq r0 (.scope c))) (hF : findLabel c 2 = some (.seq .skip rest)) (HB : Aside0 (Below w0.heap.size w0 w)) (hr : r = if s.data.toList = [] then spEnd T else (0, 2)) (hT : T < 18446744073709551616) :
    rest.wp Tryz.prog (SQ w0 r K) ⟨#[x0, x1, x2, x3, .int .u64 T, x5, x6, x7, x8, .string s, x10, x11, x12, x13, x14, x15, x16, x17, x18, x19, x20, x21, x22, x23, x24, x25, x26, x27, x28, x29, x30, x31, x32, x33, x34, x35, x36, x37, x38, x39, x40, x41, x42, x43, x44, x45, x46, x47, x48, x49, x50, x51, x52, x53, x54, x55, x56, x57, x58, x59, x60, x61, x62, x63, x64, x65, x66, x67, x68, x69, x70, x71, x72, x73], []⟩ w := by
  have hc := scope_of rfl hB
  subst hc
  have hr := label_of hF rfl
  subst hr
  clear hB hF
  by_cases h : s.data.toList = []
  · rw [if_pos h] at hr
    have e1 := sEmpty h
    unfold spEnd at hr
    obtain ⟨ti, hti⟩ : ∃ ti : Int, ti = T := ⟨_, rfl⟩
    rw [← hti]
    by_cases h2 : T > 1125899906842624
    · rw [if_pos h2] at hr
      subst hr
      have d : decide (1125899906842624 < ti) = true := decide_eq_true (by omega)
      clear h h2 hT hti
      go_wp2
      refine jumps_ret ?_
      go_ret2
      exact ⟨rfl, HB.out⟩
    · rw [if_neg h2] at hr
      have d : decide (1125899906842624 < ti) = false := decide_eq_false (by omega)
      have E := Aside0.mk hti
      clear h h2 hT hti
      go_wp2
      refine jumps_ret ?_
      go_ret2
      rw [hr, E.out]
      exact ⟨rfl, HB.out⟩
  · rw [if_neg h] at hr
    have e1 := (sSome h).1
    have e2 := (sSome h).2
    clear h
    go_wp2
    go_step3
    go_step
    rename_i K1 hK1
    refine hK1 _ _ (sp_wrong rfl rfl HB hr)
theorem hms_calls (u : Nat) (w : World) (hu : u < 256) : Calls Tryz.prog 186 #[.string ⟨#[72, 77, 83]⟩, .int .u8 u] w fun e w' => e = .returned (.int .i64 (spPlace u)) ∧ w' = w := by
  refine (Tryz.strings_IndexByte ⟨#[72, 77, 83]⟩ u w).mono ?_
  rintro e w' ⟨rfl, rfl⟩
  refine ⟨?_, rfl⟩
  congr 2
  have key : ∀ b : UInt8, Lib.indexByte [72, 77, 83] b = spPlace b.toNat := by
    intro b
    unfold spPlace
    simp only [Lib.indexByte]
    by_cases h1 : b.toNat = 72
    · obtain rfl : b = 72 := UInt8.toNat_inj.1 h1
      rfl
    · by_cases h2 : b.toNat = 77
      · obtain rfl : b = 77 := UInt8.toNat_inj.1 h2
        rfl
      · by_cases h3 : b.toNat = 83
        · obtain rfl : b = 83 := UInt8.toNat_inj.1 h3
          rfl
        · rw [if_neg h1, if_neg h2, if_neg h3]
          have n1 : ¬ (72 = b) := fun e => h1 (by rw [← e]; rfl)
          have n2 : ¬ (77 = b) := fun e => h2 (by rw [← e]; rfl)
          have n3 : ¬ (83 = b) := fun e => h3 (by rw [← e]; rfl)
          simp [n1, n2, n3, Ne.symm n1, Ne.symm n2, Ne.symm n3]
  have e : ((u : Int).toNat.toUInt8).toNat = u := by simp; omega
  have := key ((u : Int).toNat.toUInt8)
  rw [e] at this
  exact this
theorem units_at (p : Int) (h0 : 0 ≤ p) (h2 : p ≤ 2) (w : World) : (Instr.index 264 (.agg #[.int .u64 3600, .int .u64 60, .int .u64 1]) (.int .i64 p)).run Tryz.prog w = .ok (.int .u64 (spUnit p)) w := by
  rcases (by omega : p = 0 ∨ p = 1 ∨ p = 2) with rfl | rfl | rfl
  · kernel_rfl
  · kernel_rfl
  · kernel_rfl
set_option maxRecDepth 100000 in
set_option maxHeartbeats 4000000 in
theorem sp_part {w0 w : World} {r : Nat × Int} {K : Nat → Act → World → Prop} {c r0 rest : Code} {T k : Nat} {last : Int} {s : ByteArray} {l : List UInt8} {x0 x1 x2 x3 x5 x6 x7 x10 x11 x12 x13 x14 x15 x16 x17 x18 x19 x20 x21 x22 x23 x24 x25 x26 x27 x28 x29 x30 x31 x32 x33 x34 x35 x36 x37 x38 x39 x40 x41 x42 x43 x44 x45 x46 x47 x48 x49 x50 x51 x52 x53 x54 x55 x56 x57 x58 x59 x60 x61 x62 x63 x64 x65 x66 x67 x68 x69 x70 x71 x72 x73 : Value} (hB : Tryz.f117.body = some (.seq r0 (.scope c))) (hF : findLabel c 3 = some (.seq .skip rest)) (HB : Aside0 (Below w0.heap.size w0 w)) (HS : Aside0 (s.data.toList = l)) (hs : s.size ≤ 1000) (hT : T < 18446744073709551616) (hk : 3 ≤ (k : Int) + 1 + last) (hl : -1 ≤ last) (hr : r = spParts (k + 1) last T l)
    (h3 : Aside0 (∀ (w' : World) (T' : Nat) (last' : Int) (t : ByteArray) (y0 y1 y2 y3 y5 y6 y7 y10 y11 y12 y13 y14 y15 y16 y17 y18 y19 y20 y21 y22 y23 y24 y25 y26 y27 y28 y29 y30 y31 y32 y33 y34 y35 y36 y37 y38 y39 y40 y41 y42 y43 y44 y45 y46 y47 y48 y49 y50 y51 y52 y53 y54 y55 y56 y57 y58 y59 y60 y61 y62 y63 y64 y65 y66 y67 y68 y69 y70 y71 y72 y73 : Value), Below w0.heap.size w0 w' → t.size ≤ 1000 → T' < 18446744073709551616 → 3 ≤ (k : Int) + last' → last < last' → last' ≤ 2 → r = spParts k last' T' t.data.toList → K 3 ⟨#[y0, y1, y2, y3, .int .u64 T', y5, y6, y7, .int .i64 last', .string t, y10, y11, y12, y13, y14, y15, y16, y17, y18, y19, y20, y21, y22, y23, y24, y25, y26, y27, y28, y29, y30, y31, y32, y33, y34, y35, y36, y37, y38, y39, y40, y41, y42, y43, y44, y45, y46, y47, y48, y49, y50, y51, y52, y53, y54, y55, y56, y57, y58, y59, y60, y61, y62, y63, y64, y65, y66, y67, y68, y69, y70, y71, y72, y73], []⟩ w'))
    (h0 : Aside0 (r = (0, 2) → ∀ (w' : World) (z0 z1 z2 z3 z4 z5 z6 z7 z8 z9 z10 z11 z12 z13 z14 z15 z16 z17 z18 z19 z20 z21 z22 z23 z24 z25 z26 z27 z28 z29 z30 z31 z32 z33 z34 z35 z36 z37 z38 z39 z40 z41 z42 z43 z44 z45 z46 z47 z48 z49 z50 z51 z52 z53 z54 z55 z56 z57 z58 z59 z60 z61 z62 z63 z64 z65 z66 z67 z68 z69 z70 z71 z72 z73 : Value), Below w0.heap.size w0 w' → K 0 ⟨#[z0, z1, z2, z3, z4, z5, z6, z7, z8, z9, z10, z11, z12, z13, z14, z15, z16, z17, z18, z19, z20, z21, z22, z23, z24, z25, z26, z27, z28, z29, z30, z31, z32, z33, z34, z35, z36, z37, z38, z39, z40, z41, z42, z43, z44, z45, z46, z47, z48, z49, z50, z51, z52, z53, z54, z55, z56, z57, z58, z59, z60, z61, z62, z63, z64, z65, z66, z67, z68, z69, z70, z71, z72, z73], []⟩ w')) :
    rest.wp Tryz.prog (SQ w0 r K) ⟨#[x0, x1, x2, x3, .int .u64 T, x5, x6, x7, .int .i64 last, .string s, x10, x11, x12, x13, x14, x15, x16, x17, x18, x19, x20, x21, x22, x23, x24, x25, x26, x27, x28, x29, x30, x31, x32, x33, x34, x35, x36, x37, x38, x39, x40, x41, x42, x43, x44, x45, x46, x47, x48, x49, x50, x51, x52, x53, x54, x55, x56, x57, x58, x59, x60, x61, x62, x63, x64, x65, x66, x67, x68, x69, x70, x71, x72, x73], []⟩ w := by
  have hc := scope_of rfl hB
  subst hc
  have hr := label_of hF rfl
  subst hr
  clear hB hF
  have hn := Nat.lt_trans (spNext_n l) (show 1000000000000000 < 18446744073709551616 by omega)
  have hun := spNext_u l
  unfold spParts at hr
  obtain ⟨n, u, q, hq⟩ : ∃ n u q, spNext l = (n, u, q) := ⟨_, _, _, rfl⟩
  rw [hq] at hr hn hun
  dsimp only at hr hn hun
  have HQ := Aside0.mk hq
  clear hq
  have HI := Aside0.mk (fun (v : World) => hms_calls u v hun)
  have hp := spPlace_le u
  generalize spPlace u = p at *
  by_cases c1 : p ≤ last
  · rw [if_pos c1] at hr
    have d1 : decide (p ≤ last) = true := decide_eq_true c1
    have HR := Aside0.mk hr
    clear c1 hk hl hp hn hun hT hr
    go_wp2_with (first
    | (go_at_call 184; refine (next_calls s hs _).mono ?_; rintro e1 w1 ⟨t, rfl, ht1, ht2, hb1⟩; rw [HS.out, HQ.out] at ht1 ⊢; dsimp only at ht1 ⊢; have HB1 := Aside0.mk (HB.out.trans (hb1.mono HB.out.size)); have HT1 := Aside0.mk ht1; have HT2 := Aside0.mk ht2; clear hb1 ht1 ht2)
    | (go_at_call 186; with_reducible refine (HI.out _).mono ?_; rintro e3 w3 ⟨rfl, rfl⟩))
    exact wp_goto (h0.out HR.out _ _ _ _ _ _ _ _ _ _ _ _ _ _ _ _ _ _ _ _ _ _ _ _ _ _ _ _ _ _ _ _ _ _ _ _ _ _ _ _ _ _ _ _ _ _ _ _ _ _ _ _ _ _ _ _ _ _ _ _ _ _ _ _ _ _ _ _ _ _ _ _ _ _ _ HB1.out)
  · rw [if_neg c1] at hr
    have d1 : decide (p ≤ last) = false := decide_eq_false c1
    have UI := Aside0.mk (fun (v : World) => units_at p (by omega) (by omega) v)
    have hu : spUnit p < 18446744073709551616 := by unfold spUnit; split; omega; split <;> omega
    have hM := spMore_lt T n (spUnit p)
    generalize spUnit p = un at *
    by_cases c2 : q = []
    · rw [if_pos c2] at hr
      have C2 := Aside0.mk c2
      have HR := Aside0.mk hr
      have HM := Aside0.mk hM
      clear c1 c2 hk hl hp hun hr hM
      go_wp2_with (first
    | (go_at_call 184; refine (next_calls s hs _).mono ?_; rintro e1 w1 ⟨t, rfl, ht1, ht2, hb1⟩; rw [HS.out, HQ.out] at ht1 ⊢; dsimp only at ht1 ⊢; have HB1 := Aside0.mk (HB.out.trans (hb1.mono HB.out.size)); have HT1 := Aside0.mk ht1; have HT2 := Aside0.mk ht2; have e1 := sEmpty (ht1.trans C2.out); clear hb1 ht1 ht2)
    | (go_at_call 185; with_reducible refine (more_calls _ _ _ hT hn hu _).mono ?_; rintro e2 w2 ⟨rfl, rfl⟩)
    | (refine Great.wpList_readTo rfl (some 65) rfl (.int .u64 un) (exec_index2 rfl (UI.out _)) ?_)
    | (go_at_call 186; with_reducible refine (HI.out _).mono ?_; rintro e3 w3 ⟨rfl, rfl⟩))
      go_step3
      go_step
      rename_i K1 hK1
      refine hK1 _ _ (sp_end rfl rfl HB1 ?_ HM.out)
      rw [if_pos (HT1.out.trans C2.out)]
      exact HR.out
    · rw [if_neg c2] at hr
      have C2 := Aside0.mk c2
      have HR := Aside0.mk hr
      have HM := Aside0.mk hM
      have HP := Aside0.mk (show 3 ≤ (k : Int) + p ∧ last < p ∧ p ≤ 2 by omega)
      clear c1 c2 hk hl hp hun hr hM
      go_wp2_with (first
    | (go_at_call 184; refine (next_calls s hs _).mono ?_; rintro e1 w1 ⟨t, rfl, ht1, ht2, hb1⟩; rw [HS.out, HQ.out] at ht1 ⊢; dsimp only at ht1 ⊢; have HB1 := Aside0.mk (HB.out.trans (hb1.mono HB.out.size)); have HT1 := Aside0.mk ht1; have HT2 := Aside0.mk ht2; have e1 := (sSome (fun q => C2.out (ht1.symm.trans q))).1; have e2 := (sSome (fun q => C2.out (ht1.symm.trans q))).2; clear hb1 ht1 ht2)
    | (go_at_call 185; with_reducible refine (more_calls _ _ _ hT hn hu _).mono ?_; rintro e2 w2 ⟨rfl, rfl⟩)
    | (refine Great.wpList_readTo rfl (some 65) rfl (.int .u64 un) (exec_index2 rfl (UI.out _)) ?_)
    | (go_at_call 186; with_reducible refine (HI.out _).mono ?_; rintro e3 w3 ⟨rfl, rfl⟩))
      refine wp_goto (show K 3 _ _ from h3.out _ _ _ t _ _ _ _ _ _ _ _ _ _ _ _ _ _ _ _ _ _ _ _ _ _ _ _ _ _ _ _ _ _ _ _ _ _ _ _ _ _ _ _ _ _ _ _ _ _ _ _ _ _ _ _ _ _ _ _ _ _ _ _ _ _ _ _ _ _ _ _ _ _ _ HB1.out (by have := HT2.out; omega) HM.out HP.out.1 HP.out.2.1 HP.out.2.2 ?_)
      rw [HT1.out]
      exact HR.out
theorem cut_yes {s : ByteArray} {c : UInt8} {l : List UInt8} (h : s.data.toList = c :: l) (w : World) : Calls Tryz.prog 183 #[.string s, .string ⟨#[c]⟩] w fun e w' => ∃ t : ByteArray, e = .returned (.tuple #[.string t, .bool true]) ∧ t.data.toList = l ∧ t.size ≤ s.size ∧ w' = w := by
  refine (Tryz.strings_CutPrefix s ⟨#[c]⟩ w).mono ?_
  rintro e w' ⟨rfl, rfl⟩
  have h1 : Lib.hasPrefix s.data.toList [c] = true := by rw [h]; simp [Lib.hasPrefix]
  have h2 : Lib.trimPrefix s.data.toList [c] = l := by unfold Lib.trimPrefix; rw [h1, h]; simp
  refine ⟨⟨l.toArray⟩, ?_, by simp, ?_, rfl⟩
  · show Ending.returned (.tuple #[.string ⟨(Lib.trimPrefix s.data.toList [c]).toArray⟩, .bool (Lib.hasPrefix s.data.toList [c])]) = _
    rw [h1, h2]
  · have hl := slen s
    rw [h, List.length_cons] at hl
    show l.toArray.size ≤ s.size
    rw [List.size_toArray]
    omega
theorem cut_no {s : ByteArray} {c : UInt8} (h : ∀ l, s.data.toList ≠ c :: l) (w : World) : Calls Tryz.prog 183 #[.string s, .string ⟨#[c]⟩] w fun e w' => ∃ t : ByteArray, e = .returned (.tuple #[.string t, .bool false]) ∧ w' = w := by
  refine (Tryz.strings_CutPrefix s ⟨#[c]⟩ w).mono ?_
  rintro e w' ⟨rfl, rfl⟩
  have h1 : Lib.hasPrefix s.data.toList [c] = false := by
    cases hd : s.data.toList with
    | nil => simp [Lib.hasPrefix]
    | cons b l =>
      have : (c == b) = false := beq_eq_false_iff_ne.2 fun q => h l (by rw [hd, q])
      simp [Lib.hasPrefix, List.isPrefixOf, this]
  refine ⟨⟨(Lib.trimPrefix s.data.toList [c]).toArray⟩, ?_, rfl⟩
  show Ending.returned (.tuple #[.string ⟨(Lib.trimPrefix s.data.toList [c]).toArray⟩, .bool (Lib.hasPrefix s.data.toList [c])]) = _
  rw [h1]
theorem has_calls {s : ByteArray} {c : UInt8} (w : World) : Calls Tryz.prog 154 #[.string s, .string ⟨#[c]⟩] w fun e w' => e = .returned (.bool (s.data.toList.head? == some c)) ∧ w' = w := by
  refine (Tryz.strings_HasPrefix s ⟨#[c]⟩ w).mono ?_
  rintro e w' ⟨rfl, rfl⟩
  refine ⟨?_, rfl⟩
  show Ending.returned (.bool (Lib.hasPrefix s.data.toList [c])) = _
  congr 2
  cases s.data.toList with
  | nil => simp [Lib.hasPrefix]
  | cons b l =>
    show (c == b && true) = (some b == some c)
    rw [Bool.and_true]
    by_cases q : c = b
    · subst q; simp
    · have n1 : (c == b) = false := beq_eq_false_iff_ne.2 q
      have n2 : (some b == some c) = false := beq_eq_false_iff_ne.2 (fun e => q (Option.some.inj e).symm)
      rw [n1, n2]
set_option maxRecDepth 100000 in
set_option maxHeartbeats 4000000 in
theorem sp_time {w0 w : World} {r : Nat × Int} {K : Nat → Act → World → Prop} {c r0 rest : Code} {T : Nat} {s : ByteArray} {l : List UInt8} {x0 x1 x2 x3 x5 x6 x7 x10 x11 x12 x13 x14 x15 x16 x17 x18 x19 x20 x21 x22 x23 x24 x25 x26 x27 x28 x29 x30 x31 x32 x33 x34 x35 x36 x37 x38 x39 x40 x41 x42 x43 x44 x45 x46 x47 x48 x49 x50 x51 x52 x53 x54 x55 x56 x57 x58 x59 x60 x61 x62 x63 x64 x65 x66 x67 x68 x69 x70 x71 x72 x73 : Value} (hB : Tryz.f117.body = some (.seq r0 (.scope c))) (hF : findLabel c 1 = some (.seq .skip rest)) (HB : Aside0 (Below w0.heap.size w0 w)) (HS : Aside0 (s.data.toList = l)) (hs : s.size ≤ 1000) (hT : T < 18446744073709551616) (hr : r = spTime T l)
    (h3 : Aside0 (∀ (w' : World) (k T' : Nat) (last' : Int) (t : ByteArray) (y0 y1 y2 y3 y5 y6 y7 y10 y11 y12 y13 y14 y15 y16 y17 y18 y19 y20 y21 y22 y23 y24 y25 y26 y27 y28 y29 y30 y31 y32 y33 y34 y35 y36 y37 y38 y39 y40 y41 y42 y43 y44 y45 y46 y47 y48 y49 y50 y51 y52 y53 y54 y55 y56 y57 y58 y59 y60 y61 y62 y63 y64 y65 y66 y67 y68 y69 y70 y71 y72 y73 : Value), Below w0.heap.size w0 w' → t.size ≤ 1000 → T' < 18446744073709551616 → 3 ≤ (k : Int) + last' → -1 < last' → last' ≤ 2 → r = spParts k last' T' t.data.toList → K 3 ⟨#[y0, y1, y2, y3, .int .u64 T', y5, y6, y7, .int .i64 last', .string t, y10, y11, y12, y13, y14, y15, y16, y17, y18, y19, y20, y21, y22, y23, y24, y25, y26, y27, y28, y29, y30, y31, y32, y33, y34, y35, y36, y37, y38, y39, y40, y41, y42, y43, y44, y45, y46, y47, y48, y49, y50, y51, y52, y53, y54, y55, y56, y57, y58, y59, y60, y61, y62, y63, y64, y65, y66, y67, y68, y69, y70, y71, y72, y73], []⟩ w'))
    (h0 : Aside0 (r = (0, 2) → ∀ (w' : World) (z0 z1 z2 z3 z4 z5 z6 z7 z8 z9 z10 z11 z12 z13 z14 z15 z16 z17 z18 z19 z20 z21 z22 z23 z24 z25 z26 z27 z28 z29 z30 z31 z32 z33 z34 z35 z36 z37 z38 z39 z40 z41 z42 z43 z44 z45 z46 z47 z48 z49 z50 z51 z52 z53 z54 z55 z56 z57 z58 z59 z60 z61 z62 z63 z64 z65 z66 z67 z68 z69 z70 z71 z72 z73 : Value), Below w0.heap.size w0 w' → K 0 ⟨#[z0, z1, z2, z3, z4, z5, z6, z7, z8, z9, z10, z11, z12, z13, z14, z15, z16, z17, z18, z19, z20, z21, z22, z23, z24, z25, z26, z27, z28, z29, z30, z31, z32, z33, z34, z35, z36, z37, z38, z39, z40, z41, z42, z43, z44, z45, z46, z47, z48, z49, z50, z51, z52, z53, z54, z55, z56, z57, z58, z59, z60, z61, z62, z63, z64, z65, z66, z67, z68, z69, z70, z71, z72, z73], []⟩ w')) :
    rest.wp Tryz.prog (SQ w0 r K) ⟨#[x0, x1, x2, x3, .int .u64 T, x5, x6, x7, .int .i64 (-1), .string s, x10, x11, x12, x13, x14, x15, x16, x17, x18, x19, x20, x21, x22, x23, x24, x25, x26, x27, x28, x29, x30, x31, x32, x33, x34, x35, x36, x37, x38, x39, x40, x41, x42, x43, x44, x45, x46, x47, x48, x49, x50, x51, x52, x53, x54, x55, x56, x57, x58, x59, x60, x61, x62, x63, x64, x65, x66, x67, x68, x69, x70, x71, x72, x73], []⟩ w := by
  have hc := scope_of rfl hB
  subst hc
  have hr := label_of hF rfl
  subst hr
  clear hB hF
  have HT := Aside0.mk hT
  have HR := Aside0.mk hr
  clear hT hr
  by_cases c1 : ∃ m, l = 84 :: m
  · obtain ⟨m, rfl⟩ := c1
    have CY := Aside0.mk (fun (v : World) => cut_yes HS.out v)
    go_wp2_with (first
      | (go_at_call 183; refine (CY.out _).mono ?_; rintro e1 w1 ⟨t, rfl, ht1, ht2, rfl⟩; have HT1 := Aside0.mk ht1; have HT2 := Aside0.mk ht2; clear ht1 ht2))
    go_step3
    go_step
    rename_i K1 hK1
    refine hK1 _ _ (sp_part (k := 3) rfl rfl HB HT1 (by have := HT2.out; omega) HT.out (by omega) (by omega) ?_ ⟨fun w' T' last' q y0 y1 y2 y3 y5 y6 y7 y10 y11 y12 y13 y14 y15 y16 y17 y18 y19 y20 y21 y22 y23 y24 y25 y26 y27 y28 y29 y30 y31 y32 y33 y34 y35 y36 y37 y38 y39 y40 y41 y42 y43 y44 y45 y46 y47 y48 y49 y50 y51 y52 y53 y54 y55 y56 y57 y58 y59 y60 y61 y62 y63 y64 y65 y66 y67 y68 y69 y70 y71 y72 y73 h4 h5 h6 h7 h8 h9 h10 => h3.out w' 3 T' last' q y0 y1 y2 y3 y5 y6 y7 y10 y11 y12 y13 y14 y15 y16 y17 y18 y19 y20 y21 y22 y23 y24 y25 y26 y27 y28 y29 y30 y31 y32 y33 y34 y35 y36 y37 y38 y39 y40 y41 y42 y43 y44 y45 y46 y47 y48 y49 y50 y51 y52 y53 y54 y55 y56 y57 y58 y59 y60 y61 y62 y63 y64 y65 y66 y67 y68 y69 y70 y71 y72 y73 h4 h5 h6 h7 h8 h9 h10⟩ h0)
    rw [HR.out]
    simp [spTime]
  · have CN := Aside0.mk (fun (v : World) => cut_no (s := s) (c := 84) (fun m q => c1 ⟨m, HS.out.symm.trans q⟩) v)
    have hw : r = (0, 2) := by
      rw [HR.out]
      unfold spTime
      cases l with
      | nil => rfl
      | cons b m => simp only; rw [if_neg (fun q => c1 ⟨m, by rw [q]⟩)]
    have HW := Aside0.mk hw
    clear hw c1
    go_wp2_with (first
      | (go_at_call 183; refine (CN.out _).mono ?_; rintro e1 w1 ⟨t, rfl, rfl⟩))
    exact wp_goto (h0.out HW.out _ _ _ _ _ _ _ _ _ _ _ _ _ _ _ _ _ _ _ _ _ _ _ _ _ _ _ _ _ _ _ _ _ _ _ _ _ _ _ _ _ _ _ _ _ _ _ _ _ _ _ _ _ _ _ _ _ _ _ _ _ _ _ _ _ _ _ _ _ _ _ _ _ _ _ HB.out)
def spI0 (r : Nat × Int) (n : Nat) (a : Act) : Prop := n = 0 ∧ r = (0, 2) ∧ ∃ (u0 u1 u2 u3 u4 u5 u6 u7 u8 u9 u10 u11 u12 u13 u14 u15 u16 u17 u18 u19 u20 u21 u22 u23 u24 u25 u26 u27 u28 u29 u30 u31 u32 u33 u34 u35 u36 u37 u38 u39 u40 u41 u42 u43 u44 u45 u46 u47 u48 u49 u50 u51 u52 u53 u54 u55 u56 u57 u58 u59 u60 u61 u62 u63 u64 u65 u66 u67 u68 u69 u70 u71 u72 u73 : Value), a = ⟨#[u0, u1, u2, u3, u4, u5, u6, u7, u8, u9, u10, u11, u12, u13, u14, u15, u16, u17, u18, u19, u20, u21, u22, u23, u24, u25, u26, u27, u28, u29, u30, u31, u32, u33, u34, u35, u36, u37, u38, u39, u40, u41, u42, u43, u44, u45, u46, u47, u48, u49, u50, u51, u52, u53, u54, u55, u56, u57, u58, u59, u60, u61, u62, u63, u64, u65, u66, u67, u68, u69, u70, u71, u72, u73], []⟩
def spI1 (r : Nat × Int) (n : Nat) (a : Act) : Prop := ∃ (T : Nat) (s : ByteArray), n = 10 ∧ s.size ≤ 1000 ∧ T < 18446744073709551616 ∧ r = spTime T s.data.toList ∧ ∃ (u0 u1 u2 u3 u5 u6 u7 u10 u11 u12 u13 u14 u15 u16 u17 u18 u19 u20 u21 u22 u23 u24 u25 u26 u27 u28 u29 u30 u31 u32 u33 u34 u35 u36 u37 u38 u39 u40 u41 u42 u43 u44 u45 u46 u47 u48 u49 u50 u51 u52 u53 u54 u55 u56 u57 u58 u59 u60 u61 u62 u63 u64 u65 u66 u67 u68 u69 u70 u71 u72 u73 : Value), a = ⟨#[u0, u1, u2, u3, .int .u64 T, u5, u6, u7, .int .i64 (-1), .string s, u10, u11, u12, u13, u14, u15, u16, u17, u18, u19, u20, u21, u22, u23, u24, u25, u26, u27, u28, u29, u30, u31, u32, u33, u34, u35, u36, u37, u38, u39, u40, u41, u42, u43, u44, u45, u46, u47, u48, u49, u50, u51, u52, u53, u54, u55, u56, u57, u58, u59, u60, u61, u62, u63, u64, u65, u66, u67, u68, u69, u70, u71, u72, u73], []⟩
def spI2 (r : Nat × Int) (n : Nat) (a : Act) : Prop := ∃ (T : Nat) (s : ByteArray), n = 1 ∧ T < 18446744073709551616 ∧ r = (if s.data.toList = [] then spEnd T else (0, 2)) ∧ ∃ (u0 u1 u2 u3 u5 u6 u7 u8 u10 u11 u12 u13 u14 u15 u16 u17 u18 u19 u20 u21 u22 u23 u24 u25 u26 u27 u28 u29 u30 u31 u32 u33 u34 u35 u36 u37 u38 u39 u40 u41 u42 u43 u44 u45 u46 u47 u48 u49 u50 u51 u52 u53 u54 u55 u56 u57 u58 u59 u60 u61 u62 u63 u64 u65 u66 u67 u68 u69 u70 u71 u72 u73 : Value), a = ⟨#[u0, u1, u2, u3, .int .u64 T, u5, u6, u7, u8, .string s, u10, u11, u12, u13, u14, u15, u16, u17, u18, u19, u20, u21, u22, u23, u24, u25, u26, u27, u28, u29, u30, u31, u32, u33, u34, u35, u36, u37, u38, u39, u40, u41, u42, u43, u44, u45, u46, u47, u48, u49, u50, u51, u52, u53, u54, u55, u56, u57, u58, u59, u60, u61, u62, u63, u64, u65, u66, u67, u68, u69, u70, u71, u72, u73], []⟩
def spI3 (r : Nat × Int) (n : Nat) (a : Act) : Prop := ∃ (k T : Nat) (last : Int) (s : ByteArray), n = (2 - last).toNat + 2 ∧ s.size ≤ 1000 ∧ T < 18446744073709551616 ∧ 3 ≤ (k : Int) + last ∧ -1 ≤ last ∧ last ≤ 2 ∧ r = spParts k last T s.data.toList ∧ ∃ (u0 u1 u2 u3 u5 u6 u7 u10 u11 u12 u13 u14 u15 u16 u17 u18 u19 u20 u21 u22 u23 u24 u25 u26 u27 u28 u29 u30 u31 u32 u33 u34 u35 u36 u37 u38 u39 u40 u41 u42 u43 u44 u45 u46 u47 u48 u49 u50 u51 u52 u53 u54 u55 u56 u57 u58 u59 u60 u61 u62 u63 u64 u65 u66 u67 u68 u69 u70 u71 u72 u73 : Value), a = ⟨#[u0, u1, u2, u3, .int .u64 T, u5, u6, u7, .int .i64 last, .string s, u10, u11, u12, u13, u14, u15, u16, u17, u18, u19, u20, u21, u22, u23, u24, u25, u26, u27, u28, u29, u30, u31, u32, u33, u34, u35, u36, u37, u38, u39, u40, u41, u42, u43, u44, u45, u46, u47, u48, u49, u50, u51, u52, u53, u54, u55, u56, u57, u58, u59, u60, u61, u62, u63, u64, u65, u66, u67, u68, u69, u70, u71, u72, u73], []⟩
def spI (w0 : World) (r : Nat × Int) (l n : Nat) (a : Act) (w : World) : Prop := Below w0.heap.size w0 w ∧ ((l = 0 ∧ spI0 r n a) ∨ (l = 1 ∧ spI1 r n a) ∨ (l = 2 ∧ spI2 r n a) ∨ (l = 3 ∧ spI3 r n a))
theorem spI0.mk {w0 w : World} {r : Nat × Int} (hB : Below w0.heap.size w0 w) (hr : r = (0, 2)) (u0 u1 u2 u3 u4 u5 u6 u7 u8 u9 u10 u11 u12 u13 u14 u15 u16 u17 u18 u19 u20 u21 u22 u23 u24 u25 u26 u27 u28 u29 u30 u31 u32 u33 u34 u35 u36 u37 u38 u39 u40 u41 u42 u43 u44 u45 u46 u47 u48 u49 u50 u51 u52 u53 u54 u55 u56 u57 u58 u59 u60 u61 u62 u63 u64 u65 u66 u67 u68 u69 u70 u71 u72 u73 : Value) : spI w0 r 0 0 ⟨#[u0, u1, u2, u3, u4, u5, u6, u7, u8, u9, u10, u11, u12, u13, u14, u15, u16, u17, u18, u19, u20, u21, u22, u23, u24, u25, u26, u27, u28, u29, u30, u31, u32, u33, u34, u35, u36, u37, u38, u39, u40, u41, u42, u43, u44, u45, u46, u47, u48, u49, u50, u51, u52, u53, u54, u55, u56, u57, u58, u59, u60, u61, u62, u63, u64, u65, u66, u67, u68, u69, u70, u71, u72, u73], []⟩ w := ⟨hB, .inl ⟨rfl, rfl, hr, u0, u1, u2, u3, u4, u5, u6, u7, u8, u9, u10, u11, u12, u13, u14, u15, u16, u17, u18, u19, u20, u21, u22, u23, u24, u25, u26, u27, u28, u29, u30, u31, u32, u33, u34, u35, u36, u37, u38, u39, u40, u41, u42, u43, u44, u45, u46, u47, u48, u49, u50, u51, u52, u53, u54, u55, u56, u57, u58, u59, u60, u61, u62, u63, u64, u65, u66, u67, u68, u69, u70, u71, u72, u73, rfl⟩⟩
theorem spI1.mk {w0 w : World} {r : Nat × Int} {T : Nat} {s : ByteArray} (hB : Below w0.heap.size w0 w) (h1 : s.size ≤ 1000) (h2 : T < 18446744073709551616) (hr : r = spTime T s.data.toList) (u0 u1 u2 u3 u5 u6 u7 u10 u11 u12 u13 u14 u15 u16 u17 u18 u19 u20 u21 u22 u23 u24 u25 u26 u27 u28 u29 u30 u31 u32 u33 u34 u35 u36 u37 u38 u39 u40 u41 u42 u43 u44 u45 u46 u47 u48 u49 u50 u51 u52 u53 u54 u55 u56 u57 u58 u59 u60 u61 u62 u63 u64 u65 u66 u67 u68 u69 u70 u71 u72 u73 : Value) : spI w0 r 1 10 ⟨#[u0, u1, u2, u3, .int .u64 T, u5, u6, u7, .int .i64 (-1), .string s, u10, u11, u12, u13, u14, u15, u16, u17, u18, u19, u20, u21, u22, u23, u24, u25, u26, u27, u28, u29, u30, u31, u32, u33, u34, u35, u36, u37, u38, u39, u40, u41, u42, u43, u44, u45, u46, u47, u48, u49, u50, u51, u52, u53, u54, u55, u56, u57, u58, u59, u60, u61, u62, u63, u64, u65, u66, u67, u68, u69, u70, u71, u72, u73], []⟩ w := ⟨hB, .inr (.inl ⟨rfl, T, s, rfl, h1, h2, hr, u0, u1, u2, u3, u5, u6, u7, u10, u11, u12, u13, u14, u15, u16, u17, u18, u19, u20, u21, u22, u23, u24, u25, u26, u27, u28, u29, u30, u31, u32, u33, u34, u35, u36, u37, u38, u39, u40, u41, u42, u43, u44, u45, u46, u47, u48, u49, u50, u51, u52, u53, u54, u55, u56, u57, u58, u59, u60, u61, u62, u63, u64, u65, u66, u67, u68, u69, u70, u71, u72, u73, rfl⟩)⟩
theorem spI2.mk {w0 w : World} {r : Nat × Int} {T : Nat} {s : ByteArray} (hB : Below w0.heap.size w0 w) (h2 : T < 18446744073709551616) (hr : r = (if s.data.toList = [] then spEnd T else (0, 2))) (u0 u1 u2 u3 u5 u6 u7 u8 u10 u11 u12 u13 u14 u15 u16 u17 u18 u19 u20 u21 u22 u23 u24 u25 u26 u27 u28 u29 u30 u31 u32 u33 u34 u35 u36 u37 u38 u39 u40 u41 u42 u43 u44 u45 u46 u47 u48 u49 u50 u51 u52 u53 u54 u55 u56 u57 u58 u59 u60 u61 u62 u63 u64 u65 u66 u67 u68 u69 u70 u71 u72 u73 : Value) : spI w0 r 2 1 ⟨#[u0, u1, u2, u3, .int .u64 T, u5, u6, u7, u8, .string s, u10, u11, u12, u13, u14, u15, u16, u17, u18, u19, u20, u21, u22, u23, u24, u25, u26, u27, u28, u29, u30, u31, u32, u33, u34, u35, u36, u37, u38, u39, u40, u41, u42, u43, u44, u45, u46, u47, u48, u49, u50, u51, u52, u53, u54, u55, u56, u57, u58, u59, u60, u61, u62, u63, u64, u65, u66, u67, u68, u69, u70, u71, u72, u73], []⟩ w := ⟨hB, .inr (.inr (.inl ⟨rfl, T, s, rfl, h2, hr, u0, u1, u2, u3, u5, u6, u7, u8, u10, u11, u12, u13, u14, u15, u16, u17, u18, u19, u20, u21, u22, u23, u24, u25, u26, u27, u28, u29, u30, u31, u32, u33, u34, u35, u36, u37, u38, u39, u40, u41, u42, u43, u44, u45, u46, u47, u48, u49, u50, u51, u52, u53, u54, u55, u56, u57, u58, u59, u60, u61, u62, u63, u64, u65, u66, u67, u68, u69, u70, u71, u72, u73, rfl⟩))⟩
theorem spI3.mk {w0 w : World} {r : Nat × Int} {k T : Nat} {last : Int} {s : ByteArray} (hB : Below w0.heap.size w0 w) (h1 : s.size ≤ 1000) (h2 : T < 18446744073709551616) (h3 : 3 ≤ (k : Int) + last) (h4 : -1 ≤ last) (h5 : last ≤ 2) (hr : r = spParts k last T s.data.toList) (u0 u1 u2 u3 u5 u6 u7 u10 u11 u12 u13 u14 u15 u16 u17 u18 u19 u20 u21 u22 u23 u24 u25 u26 u27 u28 u29 u30 u31 u32 u33 u34 u35 u36 u37 u38 u39 u40 u41 u42 u43 u44 u45 u46 u47 u48 u49 u50 u51 u52 u53 u54 u55 u56 u57 u58 u59 u60 u61 u62 u63 u64 u65 u66 u67 u68 u69 u70 u71 u72 u73 : Value) : spI w0 r 3 ((2 - last).toNat + 2) ⟨#[u0, u1, u2, u3, .int .u64 T, u5, u6, u7, .int .i64 last, .string s, u10, u11, u12, u13, u14, u15, u16, u17, u18, u19, u20, u21, u22, u23, u24, u25, u26, u27, u28, u29, u30, u31, u32, u33, u34, u35, u36, u37, u38, u39, u40, u41, u42, u43, u44, u45, u46, u47, u48, u49, u50, u51, u52, u53, u54, u55, u56, u57, u58, u59, u60, u61, u62, u63, u64, u65, u66, u67, u68, u69, u70, u71, u72, u73], []⟩ w := ⟨hB, .inr (.inr (.inr ⟨rfl, k, T, last, s, rfl, h1, h2, h3, h4, h5, hr, u0, u1, u2, u3, u5, u6, u7, u10, u11, u12, u13, u14, u15, u16, u17, u18, u19, u20, u21, u22, u23, u24, u25, u26, u27, u28, u29, u30, u31, u32, u33, u34, u35, u36, u37, u38, u39, u40, u41, u42, u43, u44, u45, u46, u47, u48, u49, u50, u51, u52, u53, u54, u55, u56, u57, u58, u59, u60, u61, u62, u63, u64, u65, u66, u67, u68, u69, u70, u71, u72, u73, rfl⟩))⟩
set_option maxRecDepth 100000 in
set_option maxHeartbeats 4000000 in
theorem sp_pass {w0 : World} {r : Nat × Int} {c r0 : Code} (hB : Tryz.f117.body = some (.seq r0 (.scope c))) : ∀ (l n : Nat) (a : Act) (w : World), spI w0 r l n a w → ∀ K : Nat → Act → World → Prop, (∀ l' n' a' w', n' < n → spI w0 r l' n' a' w' → K l' a' w') → ∃ rest, findLabel c l = some (.seq .skip rest) ∧ rest.wp Tryz.prog (SQ w0 r K) a w := by
 have hc := scope_of rfl hB
 subst hc
 intro l n a w hI K hK
 obtain ⟨HB, h | h | h | h⟩ := hI
 ·obtain ⟨rfl, rfl, hr, h⟩ := h
  obtain ⟨u0, h⟩ := h
  obtain ⟨u1, h⟩ := h
  obtain ⟨u2, h⟩ := h
  obtain ⟨u3, h⟩ := h
  obtain ⟨u4, h⟩ := h
  obtain ⟨u5, h⟩ := h
  obtain ⟨u6, h⟩ := h
  obtain ⟨u7, h⟩ := h
  obtain ⟨u8, h⟩ := h
  obtain ⟨u9, h⟩ := h
  obtain ⟨u10, h⟩ := h
  obtain ⟨u11, h⟩ := h
  obtain ⟨u12, h⟩ := h
  obtain ⟨u13, h⟩ := h
  obtain ⟨u14, h⟩ := h
  obtain ⟨u15, h⟩ := h
  obtain ⟨u16, h⟩ := h
  obtain ⟨u17, h⟩ := h
  obtain ⟨u18, h⟩ := h
  obtain ⟨u19, h⟩ := h
  obtain ⟨u20, h⟩ := h
  obtain ⟨u21, h⟩ := h
  obtain ⟨u22, h⟩ := h
  obtain ⟨u23, h⟩ := h
  obtain ⟨u24, h⟩ := h
  obtain ⟨u25, h⟩ := h
  obtain ⟨u26, h⟩ := h
  obtain ⟨u27, h⟩ := h
  obtain ⟨u28, h⟩ := h
  obtain ⟨u29, h⟩ := h
  obtain ⟨u30, h⟩ := h
  obtain ⟨u31, h⟩ := h
  obtain ⟨u32, h⟩ := h
  obtain ⟨u33, h⟩ := h
  obtain ⟨u34, h⟩ := h
  obtain ⟨u35, h⟩ := h
  obtain ⟨u36, h⟩ := h
  obtain ⟨u37, h⟩ := h
  obtain ⟨u38, h⟩ := h
  obtain ⟨u39, h⟩ := h
  obtain ⟨u40, h⟩ := h
  obtain ⟨u41, h⟩ := h
  obtain ⟨u42, h⟩ := h
  obtain ⟨u43, h⟩ := h
  obtain ⟨u44, h⟩ := h
  obtain ⟨u45, h⟩ := h
  obtain ⟨u46, h⟩ := h
  obtain ⟨u47, h⟩ := h
  obtain ⟨u48, h⟩ := h
  obtain ⟨u49, h⟩ := h
  obtain ⟨u50, h⟩ := h
  obtain ⟨u51, h⟩ := h
  obtain ⟨u52, h⟩ := h
  obtain ⟨u53, h⟩ := h
  obtain ⟨u54, h⟩ := h
  obtain ⟨u55, h⟩ := h
  obtain ⟨u56, h⟩ := h
  obtain ⟨u57, h⟩ := h
  obtain ⟨u58, h⟩ := h
  obtain ⟨u59, h⟩ := h
  obtain ⟨u60, h⟩ := h
  obtain ⟨u61, h⟩ := h
  obtain ⟨u62, h⟩ := h
  obtain ⟨u63, h⟩ := h
  obtain ⟨u64, h⟩ := h
  obtain ⟨u65, h⟩ := h
  obtain ⟨u66, h⟩ := h
  obtain ⟨u67, h⟩ := h
  obtain ⟨u68, h⟩ := h
  obtain ⟨u69, h⟩ := h
  obtain ⟨u70, h⟩ := h
  obtain ⟨u71, h⟩ := h
  obtain ⟨u72, h⟩ := h
  obtain ⟨u73, h⟩ := h
  subst h
  exact ⟨_, rfl, sp_wrong rfl rfl ⟨HB⟩ hr⟩
 ·obtain ⟨rfl, T, s, rfl, h1, h2, hr, h⟩ := h
  obtain ⟨u0, h⟩ := h
  obtain ⟨u1, h⟩ := h
  obtain ⟨u2, h⟩ := h
  obtain ⟨u3, h⟩ := h
  obtain ⟨u5, h⟩ := h
  obtain ⟨u6, h⟩ := h
  obtain ⟨u7, h⟩ := h
  obtain ⟨u10, h⟩ := h
  obtain ⟨u11, h⟩ := h
  obtain ⟨u12, h⟩ := h
  obtain ⟨u13, h⟩ := h
  obtain ⟨u14, h⟩ := h
  obtain ⟨u15, h⟩ := h
  obtain ⟨u16, h⟩ := h
  obtain ⟨u17, h⟩ := h
  obtain ⟨u18, h⟩ := h
  obtain ⟨u19, h⟩ := h
  obtain ⟨u20, h⟩ := h
  obtain ⟨u21, h⟩ := h
  obtain ⟨u22, h⟩ := h
  obtain ⟨u23, h⟩ := h
  obtain ⟨u24, h⟩ := h
  obtain ⟨u25, h⟩ := h
  obtain ⟨u26, h⟩ := h
  obtain ⟨u27, h⟩ := h
  obtain ⟨u28, h⟩ := h
  obtain ⟨u29, h⟩ := h
  obtain ⟨u30, h⟩ := h
  obtain ⟨u31, h⟩ := h
  obtain ⟨u32, h⟩ := h
  obtain ⟨u33, h⟩ := h
  obtain ⟨u34, h⟩ := h
  obtain ⟨u35, h⟩ := h
  obtain ⟨u36, h⟩ := h
  obtain ⟨u37, h⟩ := h
  obtain ⟨u38, h⟩ := h
  obtain ⟨u39, h⟩ := h
  obtain ⟨u40, h⟩ := h
  obtain ⟨u41, h⟩ := h
  obtain ⟨u42, h⟩ := h
  obtain ⟨u43, h⟩ := h
  obtain ⟨u44, h⟩ := h
  obtain ⟨u45, h⟩ := h
  obtain ⟨u46, h⟩ := h
  obtain ⟨u47, h⟩ := h
  obtain ⟨u48, h⟩ := h
  obtain ⟨u49, h⟩ := h
  obtain ⟨u50, h⟩ := h
  obtain ⟨u51, h⟩ := h
  obtain ⟨u52, h⟩ := h
  obtain ⟨u53, h⟩ := h
  obtain ⟨u54, h⟩ := h
  obtain ⟨u55, h⟩ := h
  obtain ⟨u56, h⟩ := h
  obtain ⟨u57, h⟩ := h
  obtain ⟨u58, h⟩ := h
  obtain ⟨u59, h⟩ := h
  obtain ⟨u60, h⟩ := h
  obtain ⟨u61, h⟩ := h
  obtain ⟨u62, h⟩ := h
  obtain ⟨u63, h⟩ := h
  obtain ⟨u64, h⟩ := h
  obtain ⟨u65, h⟩ := h
  obtain ⟨u66, h⟩ := h
  obtain ⟨u67, h⟩ := h
  obtain ⟨u68, h⟩ := h
  obtain ⟨u69, h⟩ := h
  obtain ⟨u70, h⟩ := h
  obtain ⟨u71, h⟩ := h
  obtain ⟨u72, h⟩ := h
  obtain ⟨u73, h⟩ := h
  subst h
  refine ⟨_, rfl, sp_time rfl rfl ⟨HB⟩ ⟨rfl⟩ h1 h2 hr ⟨fun w' k T' last' t y0 y1 y2 y3 y5 y6 y7 y10 y11 y12 y13 y14 y15 y16 y17 y18 y19 y20 y21 y22 y23 y24 y25 y26 y27 y28 y29 y30 y31 y32 y33 y34 y35 y36 y37 y38 y39 y40 y41 y42 y43 y44 y45 y46 y47 y48 y49 y50 y51 y52 y53 y54 y55 y56 y57 y58 y59 y60 y61 y62 y63 y64 y65 y66 y67 y68 y69 y70 y71 y72 y73 g1 g2 g3 g4 g5 g6 g7 => hK _ _ _ _ (by omega) (spI3.mk g1 g2 g3 g4 (by omega) g6 g7 y0 y1 y2 y3 y5 y6 y7 y10 y11 y12 y13 y14 y15 y16 y17 y18 y19 y20 y21 y22 y23 y24 y25 y26 y27 y28 y29 y30 y31 y32 y33 y34 y35 y36 y37 y38 y39 y40 y41 y42 y43 y44 y45 y46 y47 y48 y49 y50 y51 y52 y53 y54 y55 y56 y57 y58 y59 y60 y61 y62 y63 y64 y65 y66 y67 y68 y69 y70 y71 y72 y73)⟩ ⟨fun g w' y0 y1 y2 y3 y4 y5 y6 y7 y8 y9 y10 y11 y12 y13 y14 y15 y16 y17 y18 y19 y20 y21 y22 y23 y24 y25 y26 y27 y28 y29 y30 y31 y32 y33 y34 y35 y36 y37 y38 y39 y40 y41 y42 y43 y44 y45 y46 y47 y48 y49 y50 y51 y52 y53 y54 y55 y56 y57 y58 y59 y60 y61 y62 y63 y64 y65 y66 y67 y68 y69 y70 y71 y72 y73 g1 => hK _ _ _ _ (by omega) (spI0.mk g1 g y0 y1 y2 y3 y4 y5 y6 y7 y8 y9 y10 y11 y12 y13 y14 y15 y16 y17 y18 y19 y20 y21 y22 y23 y24 y25 y26 y27 y28 y29 y30 y31 y32 y33 y34 y35 y36 y37 y38 y39 y40 y41 y42 y43 y44 y45 y46 y47 y48 y49 y50 y51 y52 y53 y54 y55 y56 y57 y58 y59 y60 y61 y62 y63 y64 y65 y66 y67 y68 y69 y70 y71 y72 y73)⟩⟩
 ·obtain ⟨rfl, T, s, rfl, h2, hr, h⟩ := h
  obtain ⟨u0, h⟩ := h
  obtain ⟨u1, h⟩ := h
  obtain ⟨u2, h⟩ := h
  obtain ⟨u3, h⟩ := h
  obtain ⟨u5, h⟩ := h
  obtain ⟨u6, h⟩ := h
  obtain ⟨u7, h⟩ := h
  obtain ⟨u8, h⟩ := h
  obtain ⟨u10, h⟩ := h
  obtain ⟨u11, h⟩ := h
  obtain ⟨u12, h⟩ := h
  obtain ⟨u13, h⟩ := h
  obtain ⟨u14, h⟩ := h
  obtain ⟨u15, h⟩ := h
  obtain ⟨u16, h⟩ := h
  obtain ⟨u17, h⟩ := h
  obtain ⟨u18, h⟩ := h
  obtain ⟨u19, h⟩ := h
  obtain ⟨u20, h⟩ := h
  obtain ⟨u21, h⟩ := h
  obtain ⟨u22, h⟩ := h
  obtain ⟨u23, h⟩ := h
  obtain ⟨u24, h⟩ := h
  obtain ⟨u25, h⟩ := h
  obtain ⟨u26, h⟩ := h
  obtain ⟨u27, h⟩ := h
  obtain ⟨u28, h⟩ := h
  obtain ⟨u29, h⟩ := h
  obtain ⟨u30, h⟩ := h
  obtain ⟨u31, h⟩ := h
  obtain ⟨u32, h⟩ := h
  obtain ⟨u33, h⟩ := h
  obtain ⟨u34, h⟩ := h
  obtain ⟨u35, h⟩ := h
  obtain ⟨u36, h⟩ := h
  obtain ⟨u37, h⟩ := h
  obtain ⟨u38, h⟩ := h
  obtain ⟨u39, h⟩ := h
  obtain ⟨u40, h⟩ := h
  obtain ⟨u41, h⟩ := h
  obtain ⟨u42, h⟩ := h
  obtain ⟨u43, h⟩ := h
  obtain ⟨u44, h⟩ := h
  obtain ⟨u45, h⟩ := h
  obtain ⟨u46, h⟩ := h
  obtain ⟨u47, h⟩ := h
  obtain ⟨u48, h⟩ := h
  obtain ⟨u49, h⟩ := h
  obtain ⟨u50, h⟩ := h
  obtain ⟨u51, h⟩ := h
  obtain ⟨u52, h⟩ := h
  obtain ⟨u53, h⟩ := h
  obtain ⟨u54, h⟩ := h
  obtain ⟨u55, h⟩ := h
  obtain ⟨u56, h⟩ := h
  obtain ⟨u57, h⟩ := h
  obtain ⟨u58, h⟩ := h
  obtain ⟨u59, h⟩ := h
  obtain ⟨u60, h⟩ := h
  obtain ⟨u61, h⟩ := h
  obtain ⟨u62, h⟩ := h
  obtain ⟨u63, h⟩ := h
  obtain ⟨u64, h⟩ := h
  obtain ⟨u65, h⟩ := h
  obtain ⟨u66, h⟩ := h
  obtain ⟨u67, h⟩ := h
  obtain ⟨u68, h⟩ := h
  obtain ⟨u69, h⟩ := h
  obtain ⟨u70, h⟩ := h
  obtain ⟨u71, h⟩ := h
  obtain ⟨u72, h⟩ := h
  obtain ⟨u73, h⟩ := h
  subst h
  exact ⟨_, rfl, sp_end rfl rfl ⟨HB⟩ hr h2⟩
 ·obtain ⟨rfl, k, T, last, s, rfl, h1, h2, h3, h4, h5, hr, h⟩ := h
  obtain ⟨u0, h⟩ := h
  obtain ⟨u1, h⟩ := h
  obtain ⟨u2, h⟩ := h
  obtain ⟨u3, h⟩ := h
  obtain ⟨u5, h⟩ := h
  obtain ⟨u6, h⟩ := h
  obtain ⟨u7, h⟩ := h
  obtain ⟨u10, h⟩ := h
  obtain ⟨u11, h⟩ := h
  obtain ⟨u12, h⟩ := h
  obtain ⟨u13, h⟩ := h
  obtain ⟨u14, h⟩ := h
  obtain ⟨u15, h⟩ := h
  obtain ⟨u16, h⟩ := h
  obtain ⟨u17, h⟩ := h
  obtain ⟨u18, h⟩ := h
  obtain ⟨u19, h⟩ := h
  obtain ⟨u20, h⟩ := h
  obtain ⟨u21, h⟩ := h
  obtain ⟨u22, h⟩ := h
  obtain ⟨u23, h⟩ := h
  obtain ⟨u24, h⟩ := h
  obtain ⟨u25, h⟩ := h
  obtain ⟨u26, h⟩ := h
  obtain ⟨u27, h⟩ := h
  obtain ⟨u28, h⟩ := h
  obtain ⟨u29, h⟩ := h
  obtain ⟨u30, h⟩ := h
  obtain ⟨u31, h⟩ := h
  obtain ⟨u32, h⟩ := h
  obtain ⟨u33, h⟩ := h
  obtain ⟨u34, h⟩ := h
  obtain ⟨u35, h⟩ := h
  obtain ⟨u36, h⟩ := h
  obtain ⟨u37, h⟩ := h
  obtain ⟨u38, h⟩ := h
  obtain ⟨u39, h⟩ := h
  obtain ⟨u40, h⟩ := h
  obtain ⟨u41, h⟩ := h
  obtain ⟨u42, h⟩ := h
  obtain ⟨u43, h⟩ := h
  obtain ⟨u44, h⟩ := h
  obtain ⟨u45, h⟩ := h
  obtain ⟨u46, h⟩ := h
  obtain ⟨u47, h⟩ := h
  obtain ⟨u48, h⟩ := h
  obtain ⟨u49, h⟩ := h
  obtain ⟨u50, h⟩ := h
  obtain ⟨u51, h⟩ := h
  obtain ⟨u52, h⟩ := h
  obtain ⟨u53, h⟩ := h
  obtain ⟨u54, h⟩ := h
  obtain ⟨u55, h⟩ := h
  obtain ⟨u56, h⟩ := h
  obtain ⟨u57, h⟩ := h
  obtain ⟨u58, h⟩ := h
  obtain ⟨u59, h⟩ := h
  obtain ⟨u60, h⟩ := h
  obtain ⟨u61, h⟩ := h
  obtain ⟨u62, h⟩ := h
  obtain ⟨u63, h⟩ := h
  obtain ⟨u64, h⟩ := h
  obtain ⟨u65, h⟩ := h
  obtain ⟨u66, h⟩ := h
  obtain ⟨u67, h⟩ := h
  obtain ⟨u68, h⟩ := h
  obtain ⟨u69, h⟩ := h
  obtain ⟨u70, h⟩ := h
  obtain ⟨u71, h⟩ := h
  obtain ⟨u72, h⟩ := h
  obtain ⟨u73, h⟩ := h
  subst h
  obtain ⟨k, rfl⟩ : ∃ q, k = q + 1 := ⟨k - 1, by omega⟩
  refine ⟨_, rfl, sp_part (k := k) rfl rfl ⟨HB⟩ ⟨rfl⟩ h1 h2 (by omega) h4 hr ⟨fun w' T' last' t y0 y1 y2 y3 y5 y6 y7 y10 y11 y12 y13 y14 y15 y16 y17 y18 y19 y20 y21 y22 y23 y24 y25 y26 y27 y28 y29 y30 y31 y32 y33 y34 y35 y36 y37 y38 y39 y40 y41 y42 y43 y44 y45 y46 y47 y48 y49 y50 y51 y52 y53 y54 y55 y56 y57 y58 y59 y60 y61 y62 y63 y64 y65 y66 y67 y68 y69 y70 y71 y72 y73 g1 g2 g3 g4 g5 g6 g7 => hK _ _ _ _ (by omega) (spI3.mk g1 g2 g3 g4 (by omega) g6 g7 y0 y1 y2 y3 y5 y6 y7 y10 y11 y12 y13 y14 y15 y16 y17 y18 y19 y20 y21 y22 y23 y24 y25 y26 y27 y28 y29 y30 y31 y32 y33 y34 y35 y36 y37 y38 y39 y40 y41 y42 y43 y44 y45 y46 y47 y48 y49 y50 y51 y52 y53 y54 y55 y56 y57 y58 y59 y60 y61 y62 y63 y64 y65 y66 y67 y68 y69 y70 y71 y72 y73)⟩ ⟨fun g w' y0 y1 y2 y3 y4 y5 y6 y7 y8 y9 y10 y11 y12 y13 y14 y15 y16 y17 y18 y19 y20 y21 y22 y23 y24 y25 y26 y27 y28 y29 y30 y31 y32 y33 y34 y35 y36 y37 y38 y39 y40 y41 y42 y43 y44 y45 y46 y47 y48 y49 y50 y51 y52 y53 y54 y55 y56 y57 y58 y59 y60 y61 y62 y63 y64 y65 y66 y67 y68 y69 y70 y71 y72 y73 g1 => hK _ _ _ _ (by omega) (spI0.mk g1 g y0 y1 y2 y3 y4 y5 y6 y7 y8 y9 y10 y11 y12 y13 y14 y15 y16 y17 y18 y19 y20 y21 y22 y23 y24 y25 y26 y27 y28 y29 y30 y31 y32 y33 y34 y35 y36 y37 y38 y39 y40 y41 y42 y43 y44 y45 y46 y47 y48 y49 y50 y51 y52 y53 y54 y55 y56 y57 y58 y59 y60 y61 y62 y63 y64 y65 y66 y67 y68 y69 y70 y71 y72 y73)⟩⟩
set_option maxRecDepth 100000 in
set_option maxHeartbeats 8000000 in
theorem parse_calls (s : ByteArray) (hs : s.size ≤ 1000) (w : World) :
    Calls Tryz.prog 117 #[.string s] w fun e w' => e = .returned (.tuple #[.int .u64 (spParse s.data.toList).1, .int .i64 (spParse s.data.toList).2]) ∧ Below w.heap.size w w' := by
  show Calls Tryz.prog 117 #[.string s] w (spTo w (spParse s.data.toList))
  obtain ⟨r, hr⟩ : ∃ r, r = spParse s.data.toList := ⟨_, rfl⟩
  rw [← hr]
  have HB := Aside0.mk (Below.refl w.heap.size w)
  go_enter Tryz.func117, Tryz.ntmps117
  go_wp2
  refine wp_scope_labels (spI w r) (sp_pass rfl) ?_
  intro K hK _
  have HK := Aside0.mk hK
  clear hK
  by_cases c1 : ∃ m, s.data.toList = 80 :: m
  · obtain ⟨m, hm⟩ := c1
    have CY := Aside0.mk (fun (v : World) => cut_yes hm v)
    rw [hm] at hr
    simp only [spParse, if_true] at hr
    by_cases c2 : m.headD 0 = 84
    · rw [if_pos c2] at hr
      have HH : Aside0 ((m.head? == some 84) = true) := ⟨by cases m with | nil => simp at c2 | cons b m => simp at c2 ⊢; exact c2⟩
      have HR := Aside0.mk hr
      clear hr hm c2
      go_wp2_with (first
        | (go_at_call 183; refine (CY.out _).mono ?_; rintro e0 w00 ⟨t, rfl, ht1, ht2, rfl⟩; have HT1 := Aside0.mk ht1; have HT2 := Aside0.mk ht2; clear ht1 ht2)
        | (go_at_call 154; refine (has_calls (s := t) (c := 84) _).mono ?_; rintro e5 w5 ⟨rfl, rfl⟩; rw [HT1.out, HH.out]))
      refine wp_goto (show K 1 _ _ from HK.out _ _ _ _ (spI1.mk (T := 0) HB.out (by have := HT2.out; omega) (by omega) ?_ _ _ _ _ _ _ _ _ _ _ _ _ _ _ _ _ _ _ _ _ _ _ _ _ _ _ _ _ _ _ _ _ _ _ _ _ _ _ _ _ _ _ _ _ _ _ _ _ _ _ _ _ _ _ _ _ _ _ _ _ _ _ _ _ _ _ _ _ _ _ _))
      rw [HT1.out]; exact HR.out
    · rw [if_neg c2] at hr
      have HH : Aside0 ((m.head? == some 84) = false) := ⟨by cases m with | nil => simp | cons b m => simp at c2 ⊢; exact c2⟩
      obtain ⟨n, u, q, hq⟩ : ∃ n u q, spNext m = (n, u, q) := ⟨_, _, _, rfl⟩
      have hn := spNext_n m
      unfold spDate at hr
      rw [hq] at hr hn
      dsimp only at hr hn
      have HQ := Aside0.mk hq
      clear hm c2 hq
      by_cases c3 : u = 89 ∨ u = 77
      · rw [if_pos c3] at hr
        subst hr
        rcases c3 with rfl | rfl
        all_goals
          go_wp2_with (first
            | (go_at_call 184; refine (next_calls t (by have := HT2.out; omega) _).mono ?_; rintro e1 w1 ⟨v, rfl, hv1, hv2, hb1⟩; rw [HT1.out, HQ.out] at hv1 ⊢; dsimp only at hv1 ⊢; have HB1 := Aside0.mk (HB.out.trans (hb1.mono HB.out.size)); have HV1 := Aside0.mk hv1; have HV2 := Aside0.mk hv2; clear hb1 hv1 hv2)
            | (go_at_call 183; refine (CY.out _).mono ?_; rintro e0 w00 ⟨t, rfl, ht1, ht2, rfl⟩; have HT1 := Aside0.mk ht1; have HT2 := Aside0.mk ht2; clear ht1 ht2)
            | (go_at_call 154; refine (has_calls (s := t) (c := 84) _).mono ?_; rintro e5 w5 ⟨rfl, rfl⟩; rw [HT1.out, HH.out]))
          refine jumps_ret ?_
          go_ret2
          exact ⟨rfl, HB1.out⟩
      · rw [if_neg c3] at hr
        simp only [not_or] at c3
        obtain ⟨ui, hui⟩ : ∃ ui : Int, ui = u := ⟨_, rfl⟩
        have d1 : ((u : Int) == 89) = false := by rw [beq_eq_false_iff_ne]; omega
        have d2 : ((u : Int) == 77) = false := by rw [beq_eq_false_iff_ne]; omega
        by_cases c4 : u = 87
        · rw [if_pos c4] at hr
          have MM : Aside0 (∀ v : World, Calls Tryz.prog 185 #[.int .u64 0, .int .u64 n, .int .u64 604800] v fun e w' => e = .returned (.int .u64 (spMore 0 n 604800)) ∧ w' = v) := ⟨fun v => by have q := more_calls 0 n 604800 (by omega) (by omega) (by omega) v; simpa using q⟩
          have hM := Aside0.mk (spMore_lt 0 n 604800)
          generalize spMore 0 n 604800 = T at *
          have HR := Aside0.mk hr
          subst c4
          clear c3 hr d1 d2 hui
          go_wp2_with (first
            | (go_at_call 184; refine (next_calls t (by have := HT2.out; omega) _).mono ?_; rintro e1 w1 ⟨v, rfl, hv1, hv2, hb1⟩; rw [HT1.out, HQ.out] at hv1 ⊢; dsimp only at hv1 ⊢; have HB1 := Aside0.mk (HB.out.trans (hb1.mono HB.out.size)); have HV1 := Aside0.mk hv1; have HV2 := Aside0.mk hv2; clear hb1 hv1 hv2)
            | (go_at_call 183; refine (CY.out _).mono ?_; rintro e0 w00 ⟨t, rfl, ht1, ht2, rfl⟩; have HT1 := Aside0.mk ht1; have HT2 := Aside0.mk ht2; clear ht1 ht2)
            | (go_at_call 154; refine (has_calls (s := t) (c := 84) _).mono ?_; rintro e5 w5 ⟨rfl, rfl⟩; rw [HT1.out, HH.out])
            | (go_at_call 185; with_reducible refine (MM.out _).mono ?_; rintro e2 w2 ⟨rfl, rfl⟩))
          refine wp_goto (show K 2 _ _ from HK.out _ _ _ _ (spI2.mk HB1.out hM.out ?_ _ _ _ _ _ _ _ _ _ _ _ _ _ _ _ _ _ _ _ _ _ _ _ _ _ _ _ _ _ _ _ _ _ _ _ _ _ _ _ _ _ _ _ _ _ _ _ _ _ _ _ _ _ _ _ _ _ _ _ _ _ _ _ _ _ _ _ _ _ _ _ _))
          rw [HV1.out]; exact HR.out
        · rw [if_neg c4] at hr
          have d3 : ((u : Int) == 87) = false := by rw [beq_eq_false_iff_ne]; omega
          by_cases c5 : u = 68
          · rw [if_pos c5] at hr
            have MM : Aside0 (∀ v : World, Calls Tryz.prog 185 #[.int .u64 0, .int .u64 n, .int .u64 86400] v fun e w' => e = .returned (.int .u64 (spMore 0 n 86400)) ∧ w' = v) := ⟨fun v => by have q := more_calls 0 n 86400 (by omega) (by omega) (by omega) v; simpa using q⟩
            have hM := Aside0.mk (spMore_lt 0 n 86400)
            generalize spMore 0 n 86400 = T at *
            subst c5
            clear c3 c4 d1 d2 d3 hui
            by_cases c6 : q = []
            · rw [if_pos c6] at hr
              have C6 := Aside0.mk c6
              have HR := Aside0.mk hr
              clear c6 hr
              go_wp2_with (first
                | (go_at_call 184; refine (next_calls t (by have := HT2.out; omega) _).mono ?_; rintro e1 w1 ⟨v, rfl, hv1, hv2, hb1⟩; rw [HT1.out, HQ.out] at hv1 ⊢; dsimp only at hv1 ⊢; have HB1 := Aside0.mk (HB.out.trans (hb1.mono HB.out.size)); have HV1 := Aside0.mk hv1; have HV2 := Aside0.mk hv2; have e1 := sEmpty (hv1.trans C6.out); clear hb1 hv1 hv2)
                | (go_at_call 183; refine (CY.out _).mono ?_; rintro e0 w00 ⟨t, rfl, ht1, ht2, rfl⟩; have HT1 := Aside0.mk ht1; have HT2 := Aside0.mk ht2; clear ht1 ht2)
                | (go_at_call 154; refine (has_calls (s := t) (c := 84) _).mono ?_; rintro e5 w5 ⟨rfl, rfl⟩; rw [HT1.out, HH.out])
                | (go_at_call 185; with_reducible refine (MM.out _).mono ?_; rintro e2 w2 ⟨rfl, rfl⟩))
              refine wp_goto (show K 2 _ _ from HK.out _ _ _ _ (spI2.mk HB1.out hM.out ?_ _ _ _ _ _ _ _ _ _ _ _ _ _ _ _ _ _ _ _ _ _ _ _ _ _ _ _ _ _ _ _ _ _ _ _ _ _ _ _ _ _ _ _ _ _ _ _ _ _ _ _ _ _ _ _ _ _ _ _ _ _ _ _ _ _ _ _ _ _ _ _ _))
              rw [if_pos (HV1.out.trans C6.out)]; exact HR.out
            · rw [if_neg c6] at hr
              have C6 := Aside0.mk c6
              have HR := Aside0.mk hr
              clear c6 hr
              go_wp2_with (first
                | (go_at_call 184; refine (next_calls t (by have := HT2.out; omega) _).mono ?_; rintro e1 w1 ⟨v, rfl, hv1, hv2, hb1⟩; rw [HT1.out, HQ.out] at hv1 ⊢; dsimp only at hv1 ⊢; have HB1 := Aside0.mk (HB.out.trans (hb1.mono HB.out.size)); have HV1 := Aside0.mk hv1; have HV2 := Aside0.mk hv2; have e1 := (sSome (fun q => C6.out (hv1.symm.trans q))).1; have e2 := (sSome (fun q => C6.out (hv1.symm.trans q))).2; clear hb1 hv1 hv2)
                | (go_at_call 183; refine (CY.out _).mono ?_; rintro e0 w00 ⟨t, rfl, ht1, ht2, rfl⟩; have HT1 := Aside0.mk ht1; have HT2 := Aside0.mk ht2; clear ht1 ht2)
                | (go_at_call 154; refine (has_calls (s := t) (c := 84) _).mono ?_; rintro e5 w5 ⟨rfl, rfl⟩; rw [HT1.out, HH.out])
                | (go_at_call 185; with_reducible refine (MM.out _).mono ?_; rintro e2 w2 ⟨rfl, rfl⟩))
              go_step3
              go_step
              rename_i K1 hK1
              refine hK1 _ _ (sp_time rfl rfl HB1 HV1 (by have := HV2.out; have := HT2.out; omega) hM.out HR.out ⟨fun w' k T' last' t y0 y1 y2 y3 y5 y6 y7 y10 y11 y12 y13 y14 y15 y16 y17 y18 y19 y20 y21 y22 y23 y24 y25 y26 y27 y28 y29 y30 y31 y32 y33 y34 y35 y36 y37 y38 y39 y40 y41 y42 y43 y44 y45 y46 y47 y48 y49 y50 y51 y52 y53 y54 y55 y56 y57 y58 y59 y60 y61 y62 y63 y64 y65 y66 y67 y68 y69 y70 y71 y72 y73 g1 g2 g3 g4 g5 g6 g7 => HK.out _ _ _ _ (spI3.mk g1 g2 g3 g4 (by omega) g6 g7 y0 y1 y2 y3 y5 y6 y7 y10 y11 y12 y13 y14 y15 y16 y17 y18 y19 y20 y21 y22 y23 y24 y25 y26 y27 y28 y29 y30 y31 y32 y33 y34 y35 y36 y37 y38 y39 y40 y41 y42 y43 y44 y45 y46 y47 y48 y49 y50 y51 y52 y53 y54 y55 y56 y57 y58 y59 y60 y61 y62 y63 y64 y65 y66 y67 y68 y69 y70 y71 y72 y73)⟩ ⟨fun g w' y0 y1 y2 y3 y4 y5 y6 y7 y8 y9 y10 y11 y12 y13 y14 y15 y16 y17 y18 y19 y20 y21 y22 y23 y24 y25 y26 y27 y28 y29 y30 y31 y32 y33 y34 y35 y36 y37 y38 y39 y40 y41 y42 y43 y44 y45 y46 y47 y48 y49 y50 y51 y52 y53 y54 y55 y56 y57 y58 y59 y60 y61 y62 y63 y64 y65 y66 y67 y68 y69 y70 y71 y72 y73 g1 => HK.out _ _ _ _ (spI0.mk g1 g y0 y1 y2 y3 y4 y5 y6 y7 y8 y9 y10 y11 y12 y13 y14 y15 y16 y17 y18 y19 y20 y21 y22 y23 y24 y25 y26 y27 y28 y29 y30 y31 y32 y33 y34 y35 y36 y37 y38 y39 y40 y41 y42 y43 y44 y45 y46 y47 y48 y49 y50 y51 y52 y53 y54 y55 y56 y57 y58 y59 y60 y61 y62 y63 y64 y65 y66 y67 y68 y69 y70 y71 y72 y73)⟩)
          · rw [if_neg c5] at hr
            have d4 : ((u : Int) == 68) = false := by rw [beq_eq_false_iff_ne]; omega
            have HR := Aside0.mk hr
            clear c3 c4 c5 hr hui
            go_wp2_with (first
              | (go_at_call 184; refine (next_calls t (by have := HT2.out; omega) _).mono ?_; rintro e1 w1 ⟨v, rfl, hv1, hv2, hb1⟩; rw [HT1.out, HQ.out] at hv1 ⊢; dsimp only at hv1 ⊢; have HB1 := Aside0.mk (HB.out.trans (hb1.mono HB.out.size)); have HV1 := Aside0.mk hv1; have HV2 := Aside0.mk hv2; clear hb1 hv1 hv2)
              | (go_at_call 183; refine (CY.out _).mono ?_; rintro e0 w00 ⟨t, rfl, ht1, ht2, rfl⟩; have HT1 := Aside0.mk ht1; have HT2 := Aside0.mk ht2; clear ht1 ht2)
              | (go_at_call 154; refine (has_calls (s := t) (c := 84) _).mono ?_; rintro e5 w5 ⟨rfl, rfl⟩; rw [HT1.out, HH.out]))
            exact wp_goto (show K 0 _ _ from HK.out _ _ _ _ (spI0.mk HB1.out HR.out _ _ _ _ _ _ _ _ _ _ _ _ _ _ _ _ _ _ _ _ _ _ _ _ _ _ _ _ _ _ _ _ _ _ _ _ _ _ _ _ _ _ _ _ _ _ _ _ _ _ _ _ _ _ _ _ _ _ _ _ _ _ _ _ _ _ _ _ _ _ _ _ _ _))
  · have CN := Aside0.mk (fun (v : World) => cut_no (s := s) (c := 80) (fun m q => c1 ⟨m, q⟩) v)
    have hw : r = (0, 2) := by
      rw [hr]
      unfold spParse
      cases hl : s.data.toList with
      | nil => rfl
      | cons b m => simp only; rw [if_neg (fun q => c1 ⟨m, by rw [hl, q]⟩)]
    have HW := Aside0.mk hw
    clear hw c1 hr
    go_wp2_with (first
      | (go_at_call 183; refine (CN.out _).mono ?_; rintro e1 w1 ⟨t, rfl, rfl⟩))
    exact wp_goto (show K 0 _ _ from HK.out _ _ _ _ (spI0.mk HB.out HW.out _ _ _ _ _ _ _ _ _ _ _ _ _ _ _ _ _ _ _ _ _ _ _ _ _ _ _ _ _ _ _ _ _ _ _ _ _ _ _ _ _ _ _ _ _ _ _ _ _ _ _ _ _ _ _ _ _ _ _ _ _ _ _ _ _ _ _ _ _ _ _ _ _ _))
end Go.Proofs.YtdfkbiffdcfnpaaGreatDoor.H
-- Written by hp.py (a program of this session, over the kit's print.py), with hand-made contracts beside it.
namespace Go.Proofs.YtdfkbiffdcfnpaaGreatDoor.H
open Go.RowKit Go.Proofs.YtdfkbiffdcfnpaaGreatDoorW.PrintWords Go.Proofs.YtdfkbiffdcfnpaaGreatDoorW.PrintLast Go.Proofs.YtdfkbiffdcfnpaaGreatDoorW.PrintMore
attribute [local go_sem] max2_int min2_int max_two min_two max_three min_three max_four min_four   -- for this text's walks alone
set_option linter.unusedVariables false
set_option linter.unusedSimpArgs false

-- HANDMADE remontoir/span.Parse
/-! ### span_Parse: function 117 -/
def span_Parse.f (a0 : ByteArray) : Option (Int × Int) := if a0.size ≤ 1000 then some (((spParse a0.data.toList).1 : Int), (spParse a0.data.toList).2) else none
theorem span_Parse.calls (a0 : ByteArray) (r1 : Int) (r2 : Int) (w : World) (h : span_Parse.f a0 = some (r1, r2)) :
    Calls Tryz.prog 117 #[.string a0] w fun e w' => e = .returned (.tuple #[.int .u64 r1, .int .i64 r2]) ∧ Below w.heap.size w w' := by
  unfold span_Parse.f at h
  by_cases hl : a0.size ≤ 1000
  · rw [if_pos hl] at h
    simp only [Option.some.injEq, Prod.mk.injEq] at h
    obtain ⟨rfl, rfl⟩ := h
    exact parse_calls a0 hl w
  · rw [if_neg hl] at h
    cases h


end Go.Proofs.YtdfkbiffdcfnpaaGreatDoor.H
-- Written by hp.py (a program of this session, over the kit's print.py), with hand-made contracts beside it.
namespace Go.Proofs.YtdfkbiffdcfnpaaGreatDoor.H
open Go.RowKit Go.Proofs.YtdfkbiffdcfnpaaGreatDoorW.PrintWords Go.Proofs.YtdfkbiffdcfnpaaGreatDoorW.PrintLast Go.Proofs.YtdfkbiffdcfnpaaGreatDoorW.PrintMore
attribute [local go_sem] max2_int min2_int max_two min_two max_three min_three max_four min_four   -- for this text's walks alone
set_option linter.unusedVariables false
set_option linter.unusedSimpArgs false

-- HANDMADE strconv.Atoi
/-! ### strconv_Atoi: function 89 -/
def strconv_Atoi.f (a0 : ByteArray) : Option (Int × Option Int) := if a0.size ≤ 15 then (Lib.atoi a0.data.toList).map (fun v => (v, none)) else none
theorem strconv_Atoi.calls (a0 : ByteArray) (r1 : Int) (r2 : Option Int) (w : World) (h : strconv_Atoi.f a0 = some (r1, r2)) :
    Calls Tryz.prog 89 #[.string a0] w fun e w' => e = .returned (.tuple #[.int .i64 r1, errW r2]) ∧ Below w.heap.size w w' := by
  unfold strconv_Atoi.f at h
  by_cases hl : a0.size ≤ 15
  · rw [if_pos hl] at h
    obtain ⟨v, hv, he⟩ := Option.map_eq_some_iff.1 h
    simp only [Prod.mk.injEq] at he
    obtain ⟨rfl, rfl⟩ := he
    exact (Tryz.strconv_Atoi a0 v (by omega) hv w).mono fun e w' ⟨he, t, hw⟩ => ⟨he, hw ▸ bytes_below (Below.refl _ _) (Nat.le_refl _) _ _⟩
  · rw [if_neg hl] at h
    cases h


end Go.Proofs.YtdfkbiffdcfnpaaGreatDoor.H
-- Written by hp.py (a program of this session, over the kit's print.py), with hand-made contracts beside it.
namespace Go.Proofs.YtdfkbiffdcfnpaaGreatDoor.H
open Go.RowKit Go.Proofs.YtdfkbiffdcfnpaaGreatDoorW.PrintWords Go.Proofs.YtdfkbiffdcfnpaaGreatDoorW.PrintLast Go.Proofs.YtdfkbiffdcfnpaaGreatDoorW.PrintMore
attribute [local go_sem] max2_int min2_int max_two min_two max_three min_three max_four min_four   -- for this text's walks alone
set_option linter.unusedVariables false
set_option linter.unusedSimpArgs false

/-! ### stringslite_HasPrefix: function 209 -/
def stringslite_HasPrefix.f (a0 : ByteArray) (a1 : ByteArray) : Option (Bool) := if (a0.size : Int) ≥ (a1.size : Int) then (if 0 ≤ (a1.size : Int) then (if (a1.size : Int) ≤ (a0.size : Int) then (some ((a0.extract 0 ((a1.size : Int) : Int).toNat).toList == a1.toList)) else (none)) else (none)) else (some false)
set_option maxHeartbeats 8000000 in
set_option maxRecDepth 100000 in
theorem stringslite_HasPrefix.calls (a0 : ByteArray) (a1 : ByteArray) (r : Bool) (w : World) (h : stringslite_HasPrefix.f a0 a1 = some r) :
    Calls Tryz.prog 209 #[.string a0, .string a1] w fun e w' => e = .returned (.bool r) ∧ Drawn0 w w' := by
  have H : (if (a0.size : Int) ≥ (a1.size : Int) then (if 0 ≤ (a1.size : Int) then (if (a1.size : Int) ≤ (a0.size : Int) then (some ((a0.extract 0 ((a1.size : Int) : Int).toNat).toList == a1.toList)) else (none)) else (none)) else (some false)) = some r := h
  clear h
  by_cases c3 : (a0.size : Int) ≥ (a1.size : Int)
  · rw [if_pos c3] at H
    have c3b0 : decide ((a1.size : Int) ≤ (a0.size : Int)) = true := decide_eq_true c3
    have c3b1 : decide (a1.size ≤ a0.size) = true := decide_eq_true (Int.ofNat_le.mp c3)
    clear c3
    by_cases c4 : 0 ≤ (a1.size : Int)
    · rw [if_pos c4] at H
      have c4b0 := eq_true c4
      have c4b1 : decide (0 ≤ (a1.size : Int)) = true := decide_eq_true c4
      clear c4
      by_cases c5 : (a1.size : Int) ≤ (a0.size : Int)
      · rw [if_pos c5] at H
        have c5b0 := eq_true c5
        have c5b1 : decide ((a1.size : Int) ≤ (a0.size : Int)) = true := decide_eq_true c5
        clear c5
        obtain rfl := Option.some.inj H
        go_enter Tryz.func209, Tryz.ntmps209
        go_wp2
        go_ret
        exact ⟨by first | rfl | (simp; done) | (simp [*]; done), by repeat (first | exact Drawn0.refl _ | apply Drawn0.step)⟩
      · rw [if_neg c5] at H
        exact absurd H (by simp)
    · rw [if_neg c4] at H
      exact absurd H (by simp)
  · rw [if_neg c3] at H
    have c3b0 : decide ((a1.size : Int) ≤ (a0.size : Int)) = false := decide_eq_false c3
    have c3b1 : decide (a1.size ≤ a0.size) = false := decide_eq_false (fun h => c3 (Int.ofNat_le.mpr h))
    clear c3
    obtain rfl := Option.some.inj H
    go_enter Tryz.func209, Tryz.ntmps209
    go_wp2
    go_ret
    exact ⟨by first | rfl | (simp; done) | (simp [*]; done), by repeat (first | exact Drawn0.refl _ | apply Drawn0.step)⟩

/-! ### stringslite_CutPrefix: function 246 -/
def stringslite_CutPrefix.f (a0 : ByteArray) (a1 : ByteArray) : Option (ByteArray × Bool) := (stringslite_HasPrefix.f a0 a1).bind fun t106 => (if t106 = true then (if 0 ≤ (a1.size : Int) then (if (a1.size : Int) ≤ (a0.size : Int) then (some (a0.extract ((a1.size : Int) : Int).toNat a0.size, true)) else (none)) else (none)) else (some (a0, false)))
set_option maxHeartbeats 8000000 in
set_option maxRecDepth 100000 in
theorem stringslite_CutPrefix.calls (a0 : ByteArray) (a1 : ByteArray) (r1 : ByteArray) (r2 : Bool) (w : World) (h : stringslite_CutPrefix.f a0 a1 = some (r1, r2)) :
  Calls Tryz.prog 246 #[.string a0, .string a1] w fun e w' => e = .returned (.tuple #[.string r1, .bool r2]) ∧ Drawn0 w w' := by
 have H : ((stringslite_HasPrefix.f a0 a1).bind fun t106 => (if t106 = true then (if 0 ≤ (a1.size : Int) then (if (a1.size : Int) ≤ (a0.size : Int) then (some (a0.extract ((a1.size : Int) : Int).toNat a0.size, true)) else (none)) else (none)) else (some (a0, false)))) = some (r1, r2) := h
 clear h
 replace H := Option.bind_eq_some_iff.mp H
 obtain ⟨t106, A30, H⟩ := H
 replace H : (if t106 = true then (if 0 ≤ (a1.size : Int) then (if (a1.size : Int) ≤ (a0.size : Int) then (some (a0.extract ((a1.size : Int) : Int).toNat a0.size, true)) else (none)) else (none)) else (some (a0, false))) = some (r1, r2) := H
 have A3 := Aside0.mk A30
 clear A30
 by_cases c4 : t106 = true
 ·subst c4
  have H1 : (if 0 ≤ (a1.size : Int) then (if (a1.size : Int) ≤ (a0.size : Int) then (some (a0.extract ((a1.size : Int) : Int).toNat a0.size, true)) else (none)) else (none)) = some (r1, r2) := by rw [if_pos rfl] at H; exact H
  clear H
  have H := H1
  clear H1
  by_cases c5 : 0 ≤ (a1.size : Int)
  ·rw [if_pos c5] at H
   have c5b0 := eq_true c5
   have c5b1 : decide (0 ≤ (a1.size : Int)) = true := decide_eq_true c5
   clear c5
   by_cases c6 : (a1.size : Int) ≤ (a0.size : Int)
   ·rw [if_pos c6] at H
    have c6b0 := eq_true c6
    have c6b1 : decide ((a1.size : Int) ≤ (a0.size : Int)) = true := decide_eq_true c6
    clear c6
    simp only [Option.some.injEq, Prod.mk.injEq] at H
    obtain ⟨rfl, rfl⟩ := H
    go_enter Tryz.func246, Tryz.ntmps246
    go_wp2_with (first | ((with_reducible refine gate_callee (f := 209) rfl ?_); refine goesL_ (some 8) rfl rfl Tryz.func209 (by kernel_rfl) rfl #[.string a0, .string a1] rfl (by (try simp only [List.map_toArray, List.map_cons, List.map_nil]); first | done | rfl | (simp only [List.length_drop, List.length_take]; rfl)) ?_; (with_reducible refine (stringslite_HasPrefix.calls a0 a1 true _ A3.out).mono ?_); rintro e w' ⟨rfl, ⟨nd, rfl⟩⟩; refine ⟨_, rfl, ?_⟩))
    go_ret2
    exact ⟨by first | rfl | (simp; done) | (simp [*]; done), by repeat (first | exact Drawn0.refl _ | apply Drawn0.step)⟩
   ·rw [if_neg c6] at H
    exact absurd H (by simp)
  ·rw [if_neg c5] at H
   exact absurd H (by simp)
 ·replace c4 := Bool.eq_false_iff.mpr c4
  subst c4
  have H1 : (some (a0, false)) = some (r1, r2) := by rw [if_neg (show ¬ (false = true) by decide)] at H; exact H
  clear H
  have H := H1
  clear H1
  simp only [Option.some.injEq, Prod.mk.injEq] at H
  obtain ⟨rfl, rfl⟩ := H
  go_enter Tryz.func246, Tryz.ntmps246
  go_wp2_with (first | ((with_reducible refine gate_callee (f := 209) rfl ?_); refine goesL_ (some 8) rfl rfl Tryz.func209 (by kernel_rfl) rfl #[.string a0, .string a1] rfl (by (try simp only [List.map_toArray, List.map_cons, List.map_nil]); first | done | rfl | (simp only [List.length_drop, List.length_take]; rfl)) ?_; (with_reducible refine (stringslite_HasPrefix.calls a0 a1 false _ A3.out).mono ?_); rintro e w' ⟨rfl, ⟨nd, rfl⟩⟩; refine ⟨_, rfl, ?_⟩))
  go_ret2
  exact ⟨by first | rfl | (simp; done) | (simp [*]; done), by repeat (first | exact Drawn0.refl _ | apply Drawn0.step)⟩

/-! ### strings_CutPrefix: function 183 -/
def strings_CutPrefix.f (a0 : ByteArray) (a1 : ByteArray) : Option (ByteArray × Bool) := (stringslite_CutPrefix.f a0 a1).bind fun bt107 => (some (bt107.1, bt107.2))
set_option maxHeartbeats 8000000 in
set_option maxRecDepth 100000 in
theorem strings_CutPrefix.calls (a0 : ByteArray) (a1 : ByteArray) (r1 : ByteArray) (r2 : Bool) (w : World) (h : strings_CutPrefix.f a0 a1 = some (r1, r2)) :
    Calls Tryz.prog 183 #[.string a0, .string a1] w fun e w' => e = .returned (.tuple #[.string r1, .bool r2]) ∧ Drawn0 w w' := by
  have H : ((stringslite_CutPrefix.f a0 a1).bind fun bt107 => (some (bt107.1, bt107.2))) = some (r1, r2) := h
  clear h
  replace H := Option.bind_eq_some_iff.mp H
  obtain ⟨⟨t107, t108⟩, A30, H⟩ := H
  replace H : (some (t107, t108)) = some (r1, r2) := H
  have A3 := Aside0.mk A30
  clear A30
  simp only [Option.some.injEq, Prod.mk.injEq] at H
  obtain ⟨rfl, rfl⟩ := H
  go_enter Tryz.func183, Tryz.ntmps183
  go_wp2_with (first | ((with_reducible refine gate_callee (f := 246) rfl ?_); refine goesL_ (some 8) rfl rfl Tryz.func246 (by kernel_rfl) rfl #[.string a0, .string a1] rfl (by (try simp only [List.map_toArray, List.map_cons, List.map_nil]); first | done | rfl | (simp only [List.length_drop, List.length_take]; rfl)) ?_; (with_reducible refine (stringslite_CutPrefix.calls a0 a1 t107 t108 _ A3.out).mono ?_); rintro e w' ⟨rfl, ⟨nd, rfl⟩⟩; refine ⟨_, rfl, ?_⟩))
  go_ret2
  exact ⟨by first | rfl | (simp; done) | (simp [*]; done), by repeat (first | exact Drawn0.refl _ | apply Drawn0.step)⟩

end Go.Proofs.YtdfkbiffdcfnpaaGreatDoor.H
-- Written by hp.py (a program of this session, over the kit's print.py), with hand-made contracts beside it.
namespace Go.Proofs.YtdfkbiffdcfnpaaGreatDoor.H
open Go.RowKit Go.Proofs.YtdfkbiffdcfnpaaGreatDoorW.PrintWords Go.Proofs.YtdfkbiffdcfnpaaGreatDoorW.PrintLast Go.Proofs.YtdfkbiffdcfnpaaGreatDoorW.PrintMore
attribute [local go_sem] max2_int min2_int max_two min_two max_three min_three max_four min_four   -- for this text's walks alone
set_option linter.unusedVariables false
set_option linter.unusedSimpArgs false

-- HANDMADE internal/stringslite.Index
/-! ### stringslite_Index: function 283 -/
def stringslite_Index.f (a0 : ByteArray) (a1 : ByteArray) : Option (Int) := if a1.size = 1 then some (Lib.indexByte a0.data.toList (a1.data.toList.headD 0)) else none
theorem stringslite_Index.calls (a0 : ByteArray) (a1 : ByteArray) (r : Int) (w : World) (h : stringslite_Index.f a0 a1 = some r) :
    Calls Tryz.prog 283 #[.string a0, .string a1] w fun e w' => e = .returned (.int .i64 r) ∧ Drawn0 w w' := by
  unfold stringslite_Index.f at h
  by_cases hl : a1.size = 1
  · rw [if_pos hl] at h
    obtain rfl := Option.some.inj h
    obtain ⟨⟨l⟩⟩ := a1
    match l, hl with
    | [c], _ =>
      refine (Tryz.stringslite_Index_one a0 c w).mono ?_
      rintro e w' ⟨rfl, rfl⟩
      exact ⟨rfl, Drawn0.refl _⟩
  · rw [if_neg hl] at h
    cases h


end Go.Proofs.YtdfkbiffdcfnpaaGreatDoor.H
-- Written by hp.py (a program of this session, over the kit's print.py), with hand-made contracts beside it.
namespace Go.Proofs.YtdfkbiffdcfnpaaGreatDoor.H
open Go.RowKit Go.Proofs.YtdfkbiffdcfnpaaGreatDoorW.PrintWords Go.Proofs.YtdfkbiffdcfnpaaGreatDoorW.PrintLast Go.Proofs.YtdfkbiffdcfnpaaGreatDoorW.PrintMore
attribute [local go_sem] max2_int min2_int max_two min_two max_three min_three max_four min_four   -- for this text's walks alone
set_option linter.unusedVariables false
set_option linter.unusedSimpArgs false

/-! ### stringslite_Cut: function 251 -/
def stringslite_Cut.f (a0 : ByteArray) (a1 : ByteArray) : Option (ByteArray × ByteArray × Bool) := (stringslite_Index.f a0 a1).bind fun t109 => (if t109 ≥ 0 then (if 0 ≤ t109 then (if t109 ≤ (a0.size : Int) then (if 0 ≤ (wrap64 (t109 + (a1.size : Int))) then (if (wrap64 (t109 + (a1.size : Int))) ≤ (a0.size : Int) then (some (a0.extract 0 (t109 : Int).toNat, a0.extract ((wrap64 (t109 + (a1.size : Int))) : Int).toNat a0.size, true)) else (none)) else (none)) else (none)) else (none)) else (some (a0, (⟨#[]⟩ : ByteArray), false)))
set_option maxHeartbeats 8000000 in
set_option maxRecDepth 100000 in
theorem stringslite_Cut.calls (a0 : ByteArray) (a1 : ByteArray) (r1 : ByteArray) (r2 : ByteArray) (r3 : Bool) (w : World) (h : stringslite_Cut.f a0 a1 = some (r1, r2, r3)) :
  Calls Tryz.prog 251 #[.string a0, .string a1] w fun e w' => e = .returned (.tuple #[.string r1, .string r2, .bool r3]) ∧ Drawn0 w w' := by
 have H : ((stringslite_Index.f a0 a1).bind fun t109 => (if t109 ≥ 0 then (if 0 ≤ t109 then (if t109 ≤ (a0.size : Int) then (if 0 ≤ (wrap64 (t109 + (a1.size : Int))) then (if (wrap64 (t109 + (a1.size : Int))) ≤ (a0.size : Int) then (some (a0.extract 0 (t109 : Int).toNat, a0.extract ((wrap64 (t109 + (a1.size : Int))) : Int).toNat a0.size, true)) else (none)) else (none)) else (none)) else (none)) else (some (a0, (⟨#[]⟩ : ByteArray), false)))) = some (r1, r2, r3) := h
 clear h
 replace H := Option.bind_eq_some_iff.mp H
 obtain ⟨t109, A30, H⟩ := H
 replace H : (if t109 ≥ 0 then (if 0 ≤ t109 then (if t109 ≤ (a0.size : Int) then (if 0 ≤ (wrap64 (t109 + (a1.size : Int))) then (if (wrap64 (t109 + (a1.size : Int))) ≤ (a0.size : Int) then (some (a0.extract 0 (t109 : Int).toNat, a0.extract ((wrap64 (t109 + (a1.size : Int))) : Int).toNat a0.size, true)) else (none)) else (none)) else (none)) else (none)) else (some (a0, (⟨#[]⟩ : ByteArray), false))) = some (r1, r2, r3) := H
 have A3 := Aside0.mk A30
 clear A30
 by_cases c4 : t109 ≥ 0
 ·rw [if_pos c4] at H
  have c4b0 : decide (0 ≤ t109) = true := decide_eq_true c4
  clear c4
  by_cases c5 : 0 ≤ t109
  ·rw [if_pos c5] at H
   have c5b0 := eq_true c5
   have c5b1 : decide (0 ≤ t109) = true := decide_eq_true c5
   clear c5
   by_cases c6 : t109 ≤ (a0.size : Int)
   ·rw [if_pos c6] at H
    have c6b0 := eq_true c6
    have c6b1 : decide (t109 ≤ (a0.size : Int)) = true := decide_eq_true c6
    clear c6
    obtain ⟨ji7, hji7⟩ : ∃ j_ : Int, (wrap64 (t109 + (a1.size : Int))) = j_ := ⟨_, rfl⟩
    replace H : (if 0 ≤ (ji7) then (if (ji7) ≤ (a0.size : Int) then (some (a0.extract 0 (t109 : Int).toNat, a0.extract ((ji7) : Int).toNat a0.size, true)) else (none)) else (none)) = some (r1, r2, r3) := by first | (rw [hji7] at H; exact H) | (simp only [hji7] at H ⊢; exact H)
    (try rw [hji7] at A3)
    have hji7w : (IntKind.i64.wrap (t109 + (a1.size : Int))) = ji7 := (i64_w _).trans hji7
    by_cases c8 : 0 ≤ (ji7)
    ·rw [if_pos c8] at H
     have c8b0 := eq_true c8
     have c8b1 : decide (0 ≤ (ji7)) = true := decide_eq_true c8
     clear c8
     by_cases c9 : (ji7) ≤ (a0.size : Int)
     ·rw [if_pos c9] at H
      have c9b0 := eq_true c9
      have c9b1 : decide ((ji7) ≤ (a0.size : Int)) = true := decide_eq_true c9
      clear c9
      simp only [Option.some.injEq, Prod.mk.injEq] at H
      obtain ⟨rfl, rfl, rfl⟩ := H
      go_enter Tryz.func251, Tryz.ntmps251
      go_wp2_with (first | (go_at_call 283; (with_reducible refine (stringslite_Index.calls a0 a1 t109 _ A3.out).mono ?_); rintro e w' ⟨rfl, ⟨nd, rfl⟩⟩; (try first | exact ⟨rfl, _, World.drewN_drewN _ _ _⟩ | exact ⟨rfl, _, Eq.trans (World.drewN_drewN _ _ _) (congrArg (World.drewN _) (Nat.add_assoc _ _ _))⟩)))
      repeat (go_quiet (first | (go_at_call 283; (with_reducible refine (stringslite_Index.calls a0 a1 t109 _ A3.out).mono ?_); rintro e w' ⟨rfl, ⟨nd, rfl⟩⟩; (try first | exact ⟨rfl, _, World.drewN_drewN _ _ _⟩ | exact ⟨rfl, _, Eq.trans (World.drewN_drewN _ _ _) (congrArg (World.drewN _) (Nat.add_assoc _ _ _))⟩))); try go_wp2_with (first | (go_at_call 283; (with_reducible refine (stringslite_Index.calls a0 a1 t109 _ A3.out).mono ?_); rintro e w' ⟨rfl, ⟨nd, rfl⟩⟩; (try first | exact ⟨rfl, _, World.drewN_drewN _ _ _⟩ | exact ⟨rfl, _, Eq.trans (World.drewN_drewN _ _ _) (congrArg (World.drewN _) (Nat.add_assoc _ _ _))⟩))))
      go_ret3
      exact ⟨by first | rfl | (simp; done) | (simp only [← hji7] <;> (first | rfl | simp)) | (simp [*]; done), by repeat (first | exact Drawn0.refl _ | apply Drawn0.step)⟩
     ·rw [if_neg c9] at H
      exact absurd H (by simp)
    ·rw [if_neg c8] at H
     exact absurd H (by simp)
   ·rw [if_neg c6] at H
    exact absurd H (by simp)
  ·rw [if_neg c5] at H
   exact absurd H (by simp)
 ·rw [if_neg c4] at H
  have c4b0 : decide (0 ≤ t109) = false := decide_eq_false c4
  clear c4
  simp only [Option.some.injEq, Prod.mk.injEq] at H
  obtain ⟨rfl, rfl, rfl⟩ := H
  go_enter Tryz.func251, Tryz.ntmps251
  go_wp2_with (first | (go_at_call 283; (with_reducible refine (stringslite_Index.calls a0 a1 t109 _ A3.out).mono ?_); rintro e w' ⟨rfl, ⟨nd, rfl⟩⟩; (try first | exact ⟨rfl, _, World.drewN_drewN _ _ _⟩ | exact ⟨rfl, _, Eq.trans (World.drewN_drewN _ _ _) (congrArg (World.drewN _) (Nat.add_assoc _ _ _))⟩)))
  repeat (go_quiet (first | (go_at_call 283; (with_reducible refine (stringslite_Index.calls a0 a1 t109 _ A3.out).mono ?_); rintro e w' ⟨rfl, ⟨nd, rfl⟩⟩; (try first | exact ⟨rfl, _, World.drewN_drewN _ _ _⟩ | exact ⟨rfl, _, Eq.trans (World.drewN_drewN _ _ _) (congrArg (World.drewN _) (Nat.add_assoc _ _ _))⟩))); try go_wp2_with (first | (go_at_call 283; (with_reducible refine (stringslite_Index.calls a0 a1 t109 _ A3.out).mono ?_); rintro e w' ⟨rfl, ⟨nd, rfl⟩⟩; (try first | exact ⟨rfl, _, World.drewN_drewN _ _ _⟩ | exact ⟨rfl, _, Eq.trans (World.drewN_drewN _ _ _) (congrArg (World.drewN _) (Nat.add_assoc _ _ _))⟩))))
  go_ret3
  exact ⟨by first | rfl | (simp; done) | (simp [*]; done), by repeat (first | exact Drawn0.refl _ | apply Drawn0.step)⟩

/-! ### strings_Cut: function 187 -/
def strings_Cut.f (a0 : ByteArray) (a1 : ByteArray) : Option (ByteArray × ByteArray × Bool) := (stringslite_Cut.f a0 a1).bind fun bt110 => (some (bt110.1, bt110.2.1, bt110.2.2))
set_option maxHeartbeats 8000000 in
set_option maxRecDepth 100000 in
theorem strings_Cut.calls (a0 : ByteArray) (a1 : ByteArray) (r1 : ByteArray) (r2 : ByteArray) (r3 : Bool) (w : World) (h : strings_Cut.f a0 a1 = some (r1, r2, r3)) :
    Calls Tryz.prog 187 #[.string a0, .string a1] w fun e w' => e = .returned (.tuple #[.string r1, .string r2, .bool r3]) ∧ Drawn0 w w' := by
  have H : ((stringslite_Cut.f a0 a1).bind fun bt110 => (some (bt110.1, bt110.2.1, bt110.2.2))) = some (r1, r2, r3) := h
  clear h
  replace H := Option.bind_eq_some_iff.mp H
  obtain ⟨⟨t110, t111, t112⟩, A30, H⟩ := H
  replace H : (some (t110, t111, t112)) = some (r1, r2, r3) := H
  have A3 := Aside0.mk A30
  clear A30
  simp only [Option.some.injEq, Prod.mk.injEq] at H
  obtain ⟨rfl, rfl, rfl⟩ := H
  go_enter Tryz.func187, Tryz.ntmps187
  go_wp2_with (first | ((with_reducible refine gate_callee (f := 251) rfl ?_); refine goesL_ (some 9) rfl rfl Tryz.func251 (by kernel_rfl) rfl #[.string a0, .string a1] rfl (by (try simp only [List.map_toArray, List.map_cons, List.map_nil]); first | done | rfl | (simp only [List.length_drop, List.length_take]; rfl)) ?_; (with_reducible refine (stringslite_Cut.calls a0 a1 t110 t111 t112 _ A3.out).mono ?_); rintro e w' ⟨rfl, ⟨nd, rfl⟩⟩; refine ⟨_, rfl, ?_⟩))
  go_ret3
  exact ⟨by first | rfl | (simp; done) | (simp [*]; done), by repeat (first | exact Drawn0.refl _ | apply Drawn0.step)⟩

end Go.Proofs.YtdfkbiffdcfnpaaGreatDoor.H
-- Written by hp.py (a program of this session, over the kit's print.py), with hand-made contracts beside it.
namespace Go.Proofs.YtdfkbiffdcfnpaaGreatDoor.H
open Go.RowKit Go.Proofs.YtdfkbiffdcfnpaaGreatDoorW.PrintWords Go.Proofs.YtdfkbiffdcfnpaaGreatDoorW.PrintLast Go.Proofs.YtdfkbiffdcfnpaaGreatDoorW.PrintMore
attribute [local go_sem] max2_int min2_int max_two min_two max_three min_three max_four min_four   -- for this text's walks alone
set_option linter.unusedVariables false
set_option linter.unusedSimpArgs false

/-! ### cycle_Parse: function 118 -/
mutual
def cycle_Parse.j0 : Nat → ByteArray → ByteArray → Bool → Bool → Option (Int × Int × Int)
  | 0, _, _, _, _ => none
  | k + 1, x4, x6, x7, x31 => if x31 = true then (some (0, 0, 5)) else (cycle_Parse.l0 k x4 x6 x7 (x6.size : Int) 0)
def cycle_Parse.l0 : Nat → ByteArray → ByteArray → Bool → Int → Int → Option (Int × Int × Int)
  | 0, _, _, _, _, _ => none
  | k + 1, x4, x6, x7, x34, x35 => if x35 < x34 then (if 0 ≤ x35 then (if x35 < (x6.size : Int) then (if (bt x6 x35) < 48 then (some (0, 0, 2)) else (if (bt x6 x35) > 57 then (some (0, 0, 2)) else (cycle_Parse.l0 k x4 x6 x7 x34 (wrap64 (x35 + 1))))) else (none)) else (none)) else (if x7 = true then (if (x6.size : Int) > 7 then (cycle_Parse.j2 k x4 x6 true) else (if 0 < (x6.size : Int) then (cycle_Parse.j2 k x4 x6 ((bt x6 0) == 48)) else (none))) else (cycle_Parse.j2 k x4 x6 true))
def cycle_Parse.j2 : Nat → ByteArray → ByteArray → Bool → Option (Int × Int × Int)
  | 0, _, _, _ => none
  | k + 1, x4, x6, x61 => if x61 = true then (some (0, 0, 2)) else ((strconv_Atoi.f x6).bind fun bt119 => (if bt119.1 > 1000000 then (some (0, 0, 3)) else ((span_Parse.f x4).bind fun bt121 => (if bt121.2 = 0 then (if bt121.1 = 0 then (some (0, 0, 6)) else (some (bt119.1, bt121.1, 0))) else (some (0, 0, bt121.2))))))
end
def cycle_Parse.f (k : Nat) (a0 : ByteArray) : Option (Int × Int × Int) := (strings_CutPrefix.f a0 (⟨#[82]⟩ : ByteArray)).bind fun bt114 => (if bt114.2 = true then ((strings_Cut.f bt114.1 (⟨#[47]⟩ : ByteArray)).bind fun bt116 => (if bt116.2.2 = true then (cycle_Parse.j0 k bt116.2.1 bt116.1 bt116.2.2 (bt116.1.toList == ([] : List UInt8))) else (cycle_Parse.j0 k bt116.2.1 bt116.1 bt116.2.2 false))) else (some (0, 0, 2)))
theorem cycle_Parse.mono_l : ∀ k, (∀ y0 y1 y2 y3, LeO (cycle_Parse.j0 k y0 y1 y2 y3) (cycle_Parse.j0 (k + 1) y0 y1 y2 y3)) ∧ (∀ y0 y1 y2 y3 y4, LeO (cycle_Parse.l0 k y0 y1 y2 y3 y4) (cycle_Parse.l0 (k + 1) y0 y1 y2 y3 y4)) ∧ (∀ y0 y1 y2, LeO (cycle_Parse.j2 k y0 y1 y2) (cycle_Parse.j2 (k + 1) y0 y1 y2))
  | 0 => ⟨fun _ _ _ _ r h => by simp [cycle_Parse.j0] at h, fun _ _ _ _ _ r h => by simp [cycle_Parse.l0] at h, fun _ _ _ r h => by simp [cycle_Parse.j2] at h⟩
  | k + 1 => by
    obtain ⟨ih0, ih1, ih2⟩ := cycle_Parse.mono_l k
    refine ⟨?_, ?_, ?_⟩
    · intro y0 y1 y2 y3
      unfold cycle_Parse.j0
      repeat' first
      | (with_reducible exact ih0 _ _ _ _)
      | (with_reducible exact ih1 _ _ _ _ _)
      | (with_reducible exact ih2 _ _ _)
      | (with_reducible exact LeO.refl _)
      | (with_reducible exact LeO.none _)
      | (with_reducible refine LeO.ite ?_ ?_)
      | (with_reducible refine LeO.bind ?_ (fun _ => ?_))
      | exact ih0 _ _ _ _
      | exact ih1 _ _ _ _ _
      | exact ih2 _ _ _
      | exact LeO.none _
      | refine LeO.ite ?_ ?_
      | refine LeO.bind ?_ (fun _ => ?_)
    · intro y0 y1 y2 y3 y4
      unfold cycle_Parse.l0
      repeat' first
      | (with_reducible exact ih0 _ _ _ _)
      | (with_reducible exact ih1 _ _ _ _ _)
      | (with_reducible exact ih2 _ _ _)
      | (with_reducible exact LeO.refl _)
      | (with_reducible exact LeO.none _)
      | (with_reducible refine LeO.ite ?_ ?_)
      | (with_reducible refine LeO.bind ?_ (fun _ => ?_))
      | exact ih0 _ _ _ _
      | exact ih1 _ _ _ _ _
      | exact ih2 _ _ _
      | exact LeO.none _
      | refine LeO.ite ?_ ?_
      | refine LeO.bind ?_ (fun _ => ?_)
    · intro y0 y1 y2
      unfold cycle_Parse.j2
      repeat' first
      | (with_reducible exact ih0 _ _ _ _)
      | (with_reducible exact ih1 _ _ _ _ _)
      | (with_reducible exact ih2 _ _ _)
      | (with_reducible exact LeO.refl _)
      | (with_reducible exact LeO.none _)
      | (with_reducible refine LeO.ite ?_ ?_)
      | (with_reducible refine LeO.bind ?_ (fun _ => ?_))
      | exact ih0 _ _ _ _
      | exact ih1 _ _ _ _ _
      | exact ih2 _ _ _
      | exact LeO.none _
      | refine LeO.ite ?_ ?_
      | refine LeO.bind ?_ (fun _ => ?_)
theorem cycle_Parse.mono : ∀ a0 k, LeO (cycle_Parse.f k a0) (cycle_Parse.f (k + 1) a0) := by
  intro a0 k
  obtain ⟨ih0, ih1, ih2⟩ := cycle_Parse.mono_l k
  unfold cycle_Parse.f
  repeat' first
      | (with_reducible exact ih0 _ _ _ _)
      | (with_reducible exact ih1 _ _ _ _ _)
      | (with_reducible exact ih2 _ _ _)
      | (with_reducible exact LeO.refl _)
      | (with_reducible exact LeO.none _)
      | (with_reducible refine LeO.ite ?_ ?_)
      | (with_reducible refine LeO.bind ?_ (fun _ => ?_))
      | exact ih0 _ _ _ _
      | exact ih1 _ _ _ _ _
      | exact ih2 _ _ _
      | exact LeO.none _
      | refine LeO.ite ?_ ?_
      | refine LeO.bind ?_ (fun _ => ?_)
set_option maxHeartbeats 8000000 in
set_option maxRecDepth 100000 in
theorem cycle_Parse.calls (k : Nat) (a0 : ByteArray) (r1 : Int) (r2 : Int) (r3 : Int) (w : World) (h : cycle_Parse.f k a0 = some (r1, r2, r3)) :
  Calls Tryz.prog 118 #[.string a0] w fun e w' => e = .returned (.tuple #[.agg #[.int .i64 r1, .int .u64 r2], .int .i64 r3]) ∧ Below w.heap.size w w' := by
 have hu88 := Tryz.underlying88
 have HB := Aside0.mk (Below.refl w.heap.size w)
 have H : ((strings_CutPrefix.f a0 (⟨#[82]⟩ : ByteArray)).bind fun bt114 => (if bt114.2 = true then ((strings_Cut.f bt114.1 (⟨#[47]⟩ : ByteArray)).bind fun bt116 => (if bt116.2.2 = true then (cycle_Parse.j0 k bt116.2.1 bt116.1 bt116.2.2 (bt116.1.toList == ([] : List UInt8))) else (cycle_Parse.j0 k bt116.2.1 bt116.1 bt116.2.2 false))) else (some (0, 0, 2)))) = some (r1, r2, r3) := h
 clear h
 replace H := Option.bind_eq_some_iff.mp H
 obtain ⟨⟨t114, t115⟩, A20, H⟩ := H
 replace H : (if t115 = true then ((strings_Cut.f t114 (⟨#[47]⟩ : ByteArray)).bind fun bt116 => (if bt116.2.2 = true then (cycle_Parse.j0 k bt116.2.1 bt116.1 bt116.2.2 (bt116.1.toList == ([] : List UInt8))) else (cycle_Parse.j0 k bt116.2.1 bt116.1 bt116.2.2 false))) else (some (0, 0, 2))) = some (r1, r2, r3) := H
 have A2 := Aside0.mk A20
 clear A20
 by_cases c3 : t115 = true
 ·subst c3
  have H1 : ((strings_Cut.f t114 (⟨#[47]⟩ : ByteArray)).bind fun bt116 => (if bt116.2.2 = true then (cycle_Parse.j0 k bt116.2.1 bt116.1 bt116.2.2 (bt116.1.toList == ([] : List UInt8))) else (cycle_Parse.j0 k bt116.2.1 bt116.1 bt116.2.2 false))) = some (r1, r2, r3) := by rw [if_pos rfl] at H; exact H
  clear H
  have H := H1
  clear H1
  replace H := Option.bind_eq_some_iff.mp H
  obtain ⟨⟨t116, t117, t118⟩, A40, H⟩ := H
  replace H : (if t118 = true then (cycle_Parse.j0 k t117 t116 t118 (t116.toList == ([] : List UInt8))) else (cycle_Parse.j0 k t117 t116 t118 false)) = some (r1, r2, r3) := H
  have A4 := Aside0.mk A40
  clear A40
  have HC5 := Aside0.mk H
  clear H
  go_enter Tryz.func118, Tryz.ntmps118
  go_upto_region 5 with (first | ((with_reducible refine gate_dst (N := 2) rfl ?_); (try (refine gate_guard (by rfl) ?_; dsimp only)); refine box_event ?hg (N := 2) ?hd (cs := #[.int .i64 0, .int .u64 0]) (t := 88) ?hr ?_; (case hd => rfl); (case hg => rfl); (case hr => first | (go_simp; done) | (go_simp; rfl)); intro gb113 hg w6 hbox hb; have n0_ := Aside0.mk (bsp (by repeat (first | (with_reducible first | exact HB.out | apply bal | apply pbN | apply bd1) | exact HB.out)) hb); have n1_ := Aside0.mk (hbox); have n2_ := Aside0.mk ((by rw [hg]; exact (bsz (by repeat (first | (with_reducible first | exact HB.out | apply bal | apply pbN | apply bd1) | exact HB.out))) : w.heap.size ≤ gb113)); have n3_ := Aside0.mk ((by rw [hg]; exact (bsz (by repeat (first | (with_reducible first | exact HB.out | apply bal | apply pbN | apply bd1) | exact HB.out))) : w.heap.size ≤ gb113)); clear HB; have HB := n0_; have BK113 := n1_; have GW113 := n2_; have GE113 := n3_; clear n0_ n1_ n2_ n3_; clear hb hbox hg) | ((with_reducible refine gate_callee (f := 183) rfl ?_); refine goesL_ (some 15) rfl rfl Tryz.func183 (by kernel_rfl) rfl #[.string a0, .string (⟨#[82]⟩ : ByteArray)] rfl (by (try simp only [List.map_toArray, List.map_cons, List.map_nil]); first | done | rfl | (simp only [List.length_drop, List.length_take]; rfl)) ?_; (with_reducible refine (strings_CutPrefix.calls a0 (⟨#[82]⟩ : ByteArray) t114 true _ A2.out).mono ?_); rintro e w' ⟨rfl, ⟨nd, rfl⟩⟩; refine ⟨_, rfl, ?_⟩) | ((with_reducible refine gate_callee (f := 187) rfl ?_); refine goesL_ (some 23) rfl rfl Tryz.func187 (by kernel_rfl) rfl #[.string t114, .string (⟨#[47]⟩ : ByteArray)] rfl (by (try simp only [List.map_toArray, List.map_cons, List.map_nil]); first | done | rfl | (simp only [List.length_drop, List.length_take]; rfl)) ?_; (with_reducible refine (strings_Cut.calls t114 (⟨#[47]⟩ : ByteArray) t116 t117 t118 _ A4.out).mono ?_); rintro e w' ⟨rfl, ⟨nd, rfl⟩⟩; refine ⟨_, rfl, ?_⟩))
  (try simp only [Act.put, List.setIfInBounds_toArray, List.set_cons_zero, List.set_cons_succ])
  go_cut [31] (fun v31 wc => ∃ (kq : Nat) (x31_4 : Bool), v31 = .bool x31_4 ∧ Aside0 (cycle_Parse.j0 kq t117 t116 t118 x31_4 = some (r1, r2, r3)) ∧ Aside0 (kq ≤ k) ∧ Aside0 (wc.heap[gb113]? = some (.cells #[.int .i64 0, .int .u64 0] 88 (0, 0))) ∧ Aside0 (Below w.heap.size w wc))
  case first =>
   have H := HC5.out
   clear HC5
   by_cases c7 : t118 = true
   ·subst c7
    have H1 : (cycle_Parse.j0 k t117 t116 true (t116.toList == ([] : List UInt8))) = some (r1, r2, r3) := by rw [if_pos rfl] at H; exact H
    clear H
    have H := H1
    clear H1
    have H' := Aside0.mk H
    clear H
    go_wp2
    go_meet
    case rel => exact ⟨_, ((t116.toList == ([] : List UInt8))), (by first | rfl | (simp; done) | (simp [*]; done)), H', ⟨by first | omega | exact Nat.le_refl _⟩, ⟨by (with_reducible repeat (first | refine bkn ?_ _ | refine bkd ?_ | refine bka ?_ _)); exact BK113.out⟩, ⟨by repeat (first | (with_reducible first | exact HB.out | apply bal | apply pbN | apply bd1 | refine bst ?_ GE113.out) | exact HB.out)⟩⟩
   ·replace c7 := Bool.eq_false_iff.mpr c7
    subst c7
    have H1 : (cycle_Parse.j0 k t117 t116 false false) = some (r1, r2, r3) := by rw [if_neg (show ¬ (false = true) by decide)] at H; exact H
    clear H
    have H := H1
    clear H1
    have H' := Aside0.mk H
    clear H
    go_wp2
    go_meet
    case rel => exact ⟨_, (false), (by first | rfl | (simp; done) | (simp [*]; done)), H', ⟨by first | omega | exact Nat.le_refl _⟩, ⟨by (with_reducible repeat (first | refine bkn ?_ _ | refine bkd ?_ | refine bka ?_ _)); exact BK113.out⟩, ⟨by repeat (first | (with_reducible first | exact HB.out | apply bal | apply pbN | apply bd1 | refine bst ?_ GE113.out) | exact HB.out)⟩⟩
  case rest =>
   clear HC5
   try clear c1
   try clear p2
   try clear c3
   try clear c7
   obtain ⟨kq, x31_4, rfl, HA, HJ4, BK113, HB⟩ := hcut
   cases kq with
   | zero => exact absurd HA.out (by simp [cycle_Parse.j0])
   | succ kj4 =>
    have H := HA.out
    clear HA
    simp only [cycle_Parse.j0] at H
    by_cases c8 : x31_4 = true
    ·subst c8
     have H1 : (some (0, 0, 5)) = some (r1, r2, r3) := by rw [if_pos rfl] at H; exact H
     clear H
     have H := H1
     clear H1
     simp only [Option.some.injEq, Prod.mk.injEq] at H
     obtain ⟨rfl, rfl, rfl⟩ := H
     have hcz9_0 : wc.cell? ⟨gb113, 0, none⟩ = some (.int .i64 0) := (bce BK113.out 0).trans rfl
     have hcz9_1 : wc.cell? ⟨gb113, 1, none⟩ = some (.int .u64 0) := (bce BK113.out 1).trans rfl
     have hfz9_0 := bfz BK113.out 0
     have hfz9_1 := bfz BK113.out 1
     go_wp2
     refine bodyPost_ret (results_ct rfl _ _ gb113 88 #[.int .i64 0, .int .u64 0] (0, 0) _ rfl (by (with_reducible repeat (first | refine bkn ?_ _ | refine bkd ?_ | refine bka ?_ _)); refine blk_put (cs := #[.int .i64 0, .int .u64 0]) ?_ 1 _ rfl; (with_reducible repeat (first | refine bkn ?_ _ | refine bkd ?_ | refine bka ?_ _)); refine blk_put (cs := #[.int .i64 0, .int .u64 0]) ?_ 0 _ rfl; (with_reducible repeat (first | refine bkn ?_ _ | refine bkd ?_ | refine bka ?_ _)); exact BK113.out) Tryz.underlying88 rfl (by kernel_rfl)) rfl ?_
     exact ⟨by first | rfl | (simp [errW_none, errW_some] <;> rfl) | (simp [*, errW_none, errW_some] <;> rfl), by repeat (first | (with_reducible first | exact HB.out | apply bal | apply pbN | apply bd1 | refine bst ?_ GE113.out) | exact HB.out)⟩
    ·replace c8 := Bool.eq_false_iff.mpr c8
     subst c8
     have H1 : (cycle_Parse.l0 kj4 t117 t116 t118 (t116.size : Int) 0) = some (r1, r2, r3) := by rw [if_neg (show ¬ (false = true) by decide)] at H; exact H
     clear H
     have H := H1
     clear H1
     have H' := Aside0.mk H
     clear H
     go_wp2
     go_loopg [35] kj4 (fun kq v35 w' => ∃ (x35_2 : Int) (x114000_2 : Int) (x114001_2 : Int), v35 = .int .i64 x35_2 ∧ Aside0 (cycle_Parse.l0 kq t117 t116 t118 (t116.size : Int) x35_2 = some (r1, r2, r3)) ∧ Aside0 (kq ≤ kj4) ∧ Aside0 (w'.heap[gb113]? = some (.cells #[.int .i64 x114000_2, .int .u64 x114001_2] 88 (0, 0))) ∧ Aside0 (Below w.heap.size w w'))
     case atStart => exact ⟨(0), (0), (0), (by first | rfl | (simp; done) | (simp [*]; done)), H', ⟨Nat.le_refl _⟩, ⟨by (with_reducible repeat (first | refine bkn ?_ _ | refine bkd ?_ | refine bka ?_ _)); exact BK113.out⟩, ⟨by repeat (first | (with_reducible first | exact HB.out | apply bal | apply pbN | apply bd1 | refine bst ?_ GE113.out) | exact HB.out)⟩⟩
     case round =>
      clear H'
      try clear c1
      try clear p2
      try clear c3
      try clear c7
      try clear c8
      try clear hcz9_0
      try clear hcz9_1
      try clear hfz9_0
      try clear hfz9_1
      try clear p2
      obtain ⟨x35_2, x114000_2, x114001_2, rfl, HA, HK2, BK113, HB⟩ := hrel
      cases gk with
      | zero => exact absurd HA.out (by simp [cycle_Parse.l0])
      | succ k2 =>
       have H := HA.out
       clear HA
       simp only [cycle_Parse.l0] at H
       by_cases c10 : x35_2 < (t116.size : Int)
       ·rw [if_pos c10] at H
        have c10b0 : decide (x35_2 < (t116.size : Int)) = true := decide_eq_true c10
        clear c10
        by_cases c11 : 0 ≤ x35_2
        ·rw [if_pos c11] at H
         have c11b0 : decide (0 ≤ x35_2) = true := decide_eq_true c11
         clear c11
         by_cases c12 : x35_2 < (t116.size : Int)
         ·rw [if_pos c12] at H
          have c12b0 : decide (x35_2 < (t116.size : Int)) = true := decide_eq_true c12
          clear c12
          by_cases c14 : (bt t116 x35_2) < 48
          ·rw [if_pos c14] at H
           have c14b0 : decide ((bt t116 x35_2) < 48) = true := decide_eq_true c14
           clear c14
           simp only [Option.some.injEq, Prod.mk.injEq] at H
           obtain ⟨rfl, rfl, rfl⟩ := H
           have p13 : 0 ≤ (x35_2 : Int) := of_decide_eq_true (by first | (with_reducible assumption) | assumption)
           have q13 : x35_2 < (t116.size : Int) := of_decide_eq_true (by first | (with_reducible assumption) | assumption)
           have hx13 := bt_at t116 x35_2
           replace p13 := eq_true p13
           replace q13 := eq_true q13
           have hcz15_0 : wr.cell? ⟨gb113, 0, none⟩ = some (.int .i64 x114000_2) := (bce BK113.out 0).trans rfl
           have hcz15_1 : wr.cell? ⟨gb113, 1, none⟩ = some (.int .u64 x114001_2) := (bce BK113.out 1).trans rfl
           have hfz15_0 := bfz BK113.out 0
           have hfz15_1 := bfz BK113.out 1
           go_wp2
           refine bodyPost_ret (results_ct rfl _ _ gb113 88 #[.int .i64 0, .int .u64 0] (0, 0) _ rfl (by (with_reducible repeat (first | refine bkn ?_ _ | refine bkd ?_ | refine bka ?_ _)); refine blk_put (cs := #[.int .i64 0, .int .u64 x114001_2]) ?_ 1 _ rfl; (with_reducible repeat (first | refine bkn ?_ _ | refine bkd ?_ | refine bka ?_ _)); refine blk_put (cs := #[.int .i64 x114000_2, .int .u64 x114001_2]) ?_ 0 _ rfl; (with_reducible repeat (first | refine bkn ?_ _ | refine bkd ?_ | refine bka ?_ _)); exact BK113.out) Tryz.underlying88 rfl (by kernel_rfl)) rfl ?_
           exact ⟨by first | rfl | (simp [errW_none, errW_some] <;> rfl) | (simp [*, errW_none, errW_some] <;> rfl), by repeat (first | (with_reducible first | exact HB.out | apply bal | apply pbN | apply bd1 | refine bst ?_ GE113.out) | exact HB.out)⟩
          ·rw [if_neg c14] at H
           have c14b0 : decide ((bt t116 x35_2) < 48) = false := decide_eq_false c14
           clear c14
           by_cases c17 : (bt t116 x35_2) > 57
           ·rw [if_pos c17] at H
            have c17b0 : decide (57 < (bt t116 x35_2)) = true := decide_eq_true c17
            clear c17
            simp only [Option.some.injEq, Prod.mk.injEq] at H
            obtain ⟨rfl, rfl, rfl⟩ := H
            have p13 : 0 ≤ (x35_2 : Int) := of_decide_eq_true (by first | (with_reducible assumption) | assumption)
            have q13 : x35_2 < (t116.size : Int) := of_decide_eq_true (by first | (with_reducible assumption) | assumption)
            have hx13 := bt_at t116 x35_2
            replace p13 := eq_true p13
            replace q13 := eq_true q13
            have p16 : 0 ≤ (x35_2 : Int) := of_decide_eq_true (by first | (with_reducible assumption) | assumption)
            have q16 : x35_2 < (t116.size : Int) := of_decide_eq_true (by first | (with_reducible assumption) | assumption)
            have hx16 := bt_at t116 x35_2
            replace p16 := eq_true p16
            replace q16 := eq_true q16
            have hcz18_0 : wr.cell? ⟨gb113, 0, none⟩ = some (.int .i64 x114000_2) := (bce BK113.out 0).trans rfl
            have hcz18_1 : wr.cell? ⟨gb113, 1, none⟩ = some (.int .u64 x114001_2) := (bce BK113.out 1).trans rfl
            have hfz18_0 := bfz BK113.out 0
            have hfz18_1 := bfz BK113.out 1
            go_wp2
            refine bodyPost_ret (results_ct rfl _ _ gb113 88 #[.int .i64 0, .int .u64 0] (0, 0) _ rfl (by (with_reducible repeat (first | refine bkn ?_ _ | refine bkd ?_ | refine bka ?_ _)); refine blk_put (cs := #[.int .i64 0, .int .u64 x114001_2]) ?_ 1 _ rfl; (with_reducible repeat (first | refine bkn ?_ _ | refine bkd ?_ | refine bka ?_ _)); refine blk_put (cs := #[.int .i64 x114000_2, .int .u64 x114001_2]) ?_ 0 _ rfl; (with_reducible repeat (first | refine bkn ?_ _ | refine bkd ?_ | refine bka ?_ _)); exact BK113.out) Tryz.underlying88 rfl (by kernel_rfl)) rfl ?_
            exact ⟨by first | rfl | (simp [errW_none, errW_some] <;> rfl) | (simp [*, errW_none, errW_some] <;> rfl), by repeat (first | (with_reducible first | exact HB.out | apply bal | apply pbN | apply bd1 | refine bst ?_ GE113.out) | exact HB.out)⟩
           ·rw [if_neg c17] at H
            have c17b0 : decide (57 < (bt t116 x35_2)) = false := decide_eq_false c17
            clear c17
            have H' := Aside0.mk H
            clear H
            have p13 : 0 ≤ (x35_2 : Int) := of_decide_eq_true (by first | (with_reducible assumption) | assumption)
            have q13 : x35_2 < (t116.size : Int) := of_decide_eq_true (by first | (with_reducible assumption) | assumption)
            have hx13 := bt_at t116 x35_2
            replace p13 := eq_true p13
            replace q13 := eq_true q13
            have p16 : 0 ≤ (x35_2 : Int) := of_decide_eq_true (by first | (with_reducible assumption) | assumption)
            have q16 : x35_2 < (t116.size : Int) := of_decide_eq_true (by first | (with_reducible assumption) | assumption)
            have hx16 := bt_at t116 x35_2
            replace p16 := eq_true p16
            replace q16 := eq_true q16
            go_wp2
            go_roundg k2
            case measure => have := HJ4.out; have := HK2.out; omega
            case rel => exact ⟨(wrap64 (x35_2 + 1)), (x114000_2), (x114001_2), (by first | rfl | (simp; done) | (simp [*]; done)), H', ⟨by have := HJ4.out; have := HK2.out; omega⟩, ⟨by (with_reducible repeat (first | refine bkn ?_ _ | refine bkd ?_ | refine bka ?_ _)); exact BK113.out⟩, ⟨by repeat (first | (with_reducible first | exact HB.out | apply bal | apply pbN | apply bd1 | refine bst ?_ GE113.out) | exact HB.out)⟩⟩
         ·rw [if_neg c12] at H
          exact absurd H (by simp)
        ·rw [if_neg c11] at H
         exact absurd H (by simp)
       ·rw [if_neg c10] at H
        have c10b0 : decide (x35_2 < (t116.size : Int)) = false := decide_eq_false c10
        clear c10
        have HC19 := Aside0.mk H
        clear H
        go_upto_region 13 with (fail)
        go_cut [61] (fun v61 wc => ∃ (kq : Nat) (x61_18 : Bool), v61 = .bool x61_18 ∧ Aside0 (cycle_Parse.j2 kq t117 t116 x61_18 = some (r1, r2, r3)) ∧ Aside0 (kq ≤ k2) ∧ Aside0 (wc.heap[gb113]? = some (.cells #[.int .i64 x114000_2, .int .u64 x114001_2] 88 (0, 0))) ∧ Aside0 (Below w.heap.size w wc))
        case first =>
         have H := HC19.out
         clear HC19
         by_cases c20 : t118 = true
         ·subst c20
          have H1 : (if (t116.size : Int) > 7 then (cycle_Parse.j2 k2 t117 t116 true) else (if 0 < (t116.size : Int) then (cycle_Parse.j2 k2 t117 t116 ((bt t116 0) == 48)) else (none))) = some (r1, r2, r3) := by rw [if_pos rfl] at H; exact H
          clear H
          have H := H1
          clear H1
          by_cases c21 : (t116.size : Int) > 7
          ·rw [if_pos c21] at H
           have c21b0 : decide (7 < (t116.size : Int)) = true := decide_eq_true c21
           have c21b1 : decide (7 < t116.size) = true := decide_eq_true (by omega)
           clear c21
           (first | rw [c21b0] | (simp only [i64_w, i32_w]; rw [c21b0]) | skip)
           have H' := Aside0.mk H
           clear H
           go_wp2
           go_meet
           case rel => exact ⟨_, (true), (by first | rfl | (simp; done) | (simp [*]; done)), H', ⟨by have := HJ4.out; have := HK2.out; first | omega | exact Nat.le_refl _⟩, ⟨by (with_reducible repeat (first | refine bkn ?_ _ | refine bkd ?_ | refine bka ?_ _)); exact BK113.out⟩, ⟨by repeat (first | (with_reducible first | exact HB.out | apply bal | apply pbN | apply bd1 | refine bst ?_ GE113.out) | exact HB.out)⟩⟩
          ·rw [if_neg c21] at H
           have c21b0 : decide (7 < (t116.size : Int)) = false := decide_eq_false c21
           have c21b1 : decide (7 < t116.size) = false := decide_eq_false (by omega)
           clear c21
           (first | rw [c21b0] | (simp only [i64_w, i32_w]; rw [c21b0]) | skip)
           by_cases c22 : 0 < (t116.size : Int)
           ·rw [if_pos c22] at H
            have c22b0 : decide (0 < (t116.size : Int)) = true := decide_eq_true c22
            have c22b1 : decide (0 < t116.size) = true := decide_eq_true (by omega)
            clear c22
            have H' := Aside0.mk H
            clear H
            have p23 : 0 ≤ (0 : Int) := (by omega)
            have q23 : 0 < t116.size := (by have : (0 : Int) < (t116.size : Int) := of_decide_eq_true (by first | (with_reducible assumption) | assumption); omega)
            have hx23 : ∀ h : 0 < t116.size, ((t116[0]'h).toNat : Int) = bt t116 0 := bt_at t116 0
            clear p23
            have qi23 : (0 < (t116.size : Int)) = True := eq_true (of_decide_eq_true (by first | (with_reducible assumption) | assumption))
            replace q23 := eq_true q23
            go_wp2
            go_meet
            case rel => exact ⟨_, (((bt t116 0) == 48)), (by first | rfl | (simp; done) | (simp [*]; done)), H', ⟨by have := HJ4.out; have := HK2.out; first | omega | exact Nat.le_refl _⟩, ⟨by (with_reducible repeat (first | refine bkn ?_ _ | refine bkd ?_ | refine bka ?_ _)); exact BK113.out⟩, ⟨by repeat (first | (with_reducible first | exact HB.out | apply bal | apply pbN | apply bd1 | refine bst ?_ GE113.out) | exact HB.out)⟩⟩
           ·rw [if_neg c22] at H
            exact absurd H (by simp)
         ·replace c20 := Bool.eq_false_iff.mpr c20
          subst c20
          have H1 : (cycle_Parse.j2 k2 t117 t116 true) = some (r1, r2, r3) := by rw [if_neg (show ¬ (false = true) by decide)] at H; exact H
          clear H
          have H := H1
          clear H1
          have H' := Aside0.mk H
          clear H
          go_wp2
          go_meet
          case rel => exact ⟨_, (true), (by first | rfl | (simp; done) | (simp [*]; done)), H', ⟨by have := HJ4.out; have := HK2.out; first | omega | exact Nat.le_refl _⟩, ⟨by (with_reducible repeat (first | refine bkn ?_ _ | refine bkd ?_ | refine bka ?_ _)); exact BK113.out⟩, ⟨by repeat (first | (with_reducible first | exact HB.out | apply bal | apply pbN | apply bd1 | refine bst ?_ GE113.out) | exact HB.out)⟩⟩
        case rest =>
         clear HC19
         try clear c1
         try clear p1
         try clear q1
         try clear hx1
         try clear c2
         try clear p2
         try clear q2
         try clear hx2
         try clear qi2
         try clear c3
         try clear p6
         try clear c7
         try clear c8
         try clear c10
         try clear c10b0
         try clear c11
         try clear c11b0
         try clear c12
         try clear c12b0
         try clear p13
         try clear q13
         try clear hx13
         try clear c14
         try clear c14b0
         try clear p16
         try clear q16
         try clear hx16
         try clear c17
         try clear c17b0
         try clear c18
         try clear c20
         try clear c21
         try clear c21b0
         try clear c21b1
         try clear c22
         try clear c22b0
         try clear c22b1
         try clear p23
         try clear q23
         try clear hx23
         try clear qi23
         try clear hcz15_0
         try clear hcz15_1
         try clear hcz18_0
         try clear hcz18_1
         try clear hcz9_0
         try clear hcz9_1
         try clear hfz15_0
         try clear hfz15_1
         try clear hfz18_0
         try clear hfz18_1
         try clear hfz9_0
         try clear hfz9_1
         try clear p13
         try clear p16
         try clear p2
         try clear p23
         try clear q13
         try clear q16
         try clear q23
         obtain ⟨kq, x61_18, rfl, HA, HJ18, BK113, HB⟩ := hcut
         cases kq with
         | zero => exact absurd HA.out (by simp [cycle_Parse.j2])
         | succ kj18 =>
          have H := HA.out
          clear HA
          simp only [cycle_Parse.j2] at H
          by_cases c24 : x61_18 = true
          ·subst c24
           have H1 : (some (0, 0, 2)) = some (r1, r2, r3) := by rw [if_pos rfl] at H; exact H
           clear H
           have H := H1
           clear H1
           simp only [Option.some.injEq, Prod.mk.injEq] at H
           obtain ⟨rfl, rfl, rfl⟩ := H
           have hcz25_0 : wc.cell? ⟨gb113, 0, none⟩ = some (.int .i64 x114000_2) := (bce BK113.out 0).trans rfl
           have hcz25_1 : wc.cell? ⟨gb113, 1, none⟩ = some (.int .u64 x114001_2) := (bce BK113.out 1).trans rfl
           have hfz25_0 := bfz BK113.out 0
           have hfz25_1 := bfz BK113.out 1
           go_wp2
           refine bodyPost_ret (results_ct rfl _ _ gb113 88 #[.int .i64 0, .int .u64 0] (0, 0) _ rfl (by (with_reducible repeat (first | refine bkn ?_ _ | refine bkd ?_ | refine bka ?_ _)); refine blk_put (cs := #[.int .i64 0, .int .u64 x114001_2]) ?_ 1 _ rfl; (with_reducible repeat (first | refine bkn ?_ _ | refine bkd ?_ | refine bka ?_ _)); refine blk_put (cs := #[.int .i64 x114000_2, .int .u64 x114001_2]) ?_ 0 _ rfl; (with_reducible repeat (first | refine bkn ?_ _ | refine bkd ?_ | refine bka ?_ _)); exact BK113.out) Tryz.underlying88 rfl (by kernel_rfl)) rfl ?_
           exact ⟨by first | rfl | (simp [errW_none, errW_some] <;> rfl) | (simp [*, errW_none, errW_some] <;> rfl), by repeat (first | (with_reducible first | exact HB.out | apply bal | apply pbN | apply bd1 | refine bst ?_ GE113.out) | exact HB.out)⟩
          ·replace c24 := Bool.eq_false_iff.mpr c24
           subst c24
           have H1 : ((strconv_Atoi.f t116).bind fun bt119 => (if bt119.1 > 1000000 then (some (0, 0, 3)) else ((span_Parse.f t117).bind fun bt121 => (if bt121.2 = 0 then (if bt121.1 = 0 then (some (0, 0, 6)) else (some (bt119.1, bt121.1, 0))) else (some (0, 0, bt121.2)))))) = some (r1, r2, r3) := by rw [if_neg (show ¬ (false = true) by decide)] at H; exact H
           clear H
           have H := H1
           clear H1
           replace H := Option.bind_eq_some_iff.mp H
           obtain ⟨⟨t119, t120⟩, A260, H⟩ := H
           replace H : (if t119 > 1000000 then (some (0, 0, 3)) else ((span_Parse.f t117).bind fun bt121 => (if bt121.2 = 0 then (if bt121.1 = 0 then (some (0, 0, 6)) else (some (t119, bt121.1, 0))) else (some (0, 0, bt121.2))))) = some (r1, r2, r3) := H
           have A26 := Aside0.mk A260
           clear A260
           by_cases c27 : t119 > 1000000
           ·rw [if_pos c27] at H
            have c27b0 : decide (1000000 < t119) = true := decide_eq_true c27
            clear c27
            simp only [Option.some.injEq, Prod.mk.injEq] at H
            obtain ⟨rfl, rfl, rfl⟩ := H
            go_wp2_with (first | ((with_reducible refine gate_callee (f := 89) rfl ?_); refine goesL_ (some 65) rfl rfl Tryz.func89 (by kernel_rfl) rfl #[.string t116] rfl (by (try simp only [List.map_toArray, List.map_cons, List.map_nil]); first | done | rfl | (simp only [List.length_drop, List.length_take]; rfl)) ?_; (with_reducible refine (strconv_Atoi.calls t116 t119 t120 _ A26.out).mono ?_); rintro e w28 ⟨rfl, hb⟩; refine ⟨_, rfl, ?_⟩; have n0_ := Aside0.mk (bbe (g := gb113) (o := .cells #[.int .i64 x114000_2, .int .u64 x114001_2] 88 (0, 0)) (by (with_reducible repeat (first | refine bkn ?_ _ | refine bkd ?_ | refine bka ?_ _)); exact BK113.out) hb); have n1_ := Aside0.mk (bsp (by repeat (first | (with_reducible first | exact HB.out | apply bal | apply pbN | apply bd1 | refine bst ?_ GE113.out) | exact HB.out)) hb); clear BK113; clear HB; have BK113 := n0_; have HB := n1_; clear n0_ n1_; (try clear hb); (try clear hb2); (try clear hk); (try clear hi); (try simp only [errW_none, errW_some]); have hcz29_0 : w28.cell? ⟨gb113, 0, none⟩ = some (.int .i64 x114000_2) := (bce BK113.out 0).trans rfl; have hcz29_1 : w28.cell? ⟨gb113, 1, none⟩ = some (.int .u64 x114001_2) := (bce BK113.out 1).trans rfl; have hfz29_0 := bfz BK113.out 0; have hfz29_1 := bfz BK113.out 1))
            refine bodyPost_ret (results_ct rfl _ _ gb113 88 #[.int .i64 0, .int .u64 0] (0, 0) _ rfl (by (with_reducible repeat (first | refine bkn ?_ _ | refine bkd ?_ | refine bka ?_ _)); refine blk_put (cs := #[.int .i64 0, .int .u64 x114001_2]) ?_ 1 _ rfl; (with_reducible repeat (first | refine bkn ?_ _ | refine bkd ?_ | refine bka ?_ _)); refine blk_put (cs := #[.int .i64 x114000_2, .int .u64 x114001_2]) ?_ 0 _ rfl; (with_reducible repeat (first | refine bkn ?_ _ | refine bkd ?_ | refine bka ?_ _)); exact BK113.out) Tryz.underlying88 rfl (by kernel_rfl)) rfl ?_
            exact ⟨by first | rfl | (simp [errW_none, errW_some] <;> rfl) | (simp [*, errW_none, errW_some] <;> rfl), by repeat (first | (with_reducible first | exact HB.out | apply bal | apply pbN | apply bd1 | refine bst ?_ GE113.out) | exact HB.out)⟩
           ·rw [if_neg c27] at H
            have c27b0 : decide (1000000 < t119) = false := decide_eq_false c27
            clear c27
            replace H := Option.bind_eq_some_iff.mp H
            obtain ⟨⟨t121, t122⟩, A300, H⟩ := H
            replace H : (if t122 = 0 then (if t121 = 0 then (some (0, 0, 6)) else (some (t119, t121, 0))) else (some (0, 0, t122))) = some (r1, r2, r3) := H
            have A30 := Aside0.mk A300
            clear A300
            by_cases c31 : t122 = 0
            ·rw [if_pos c31] at H
             have c31b0 : (t122 == 0) = true := beq_iff_eq.mpr c31
             have c31b1 : (t122 != 0) = false := bne_eq_false_iff_eq.mpr c31
             clear c31
             by_cases c32 : t121 = 0
             ·rw [if_pos c32] at H
              have c32b0 : (t121 == 0) = true := beq_iff_eq.mpr c32
              have c32b1 : (t121 != 0) = false := bne_eq_false_iff_eq.mpr c32
              clear c32
              simp only [Option.some.injEq, Prod.mk.injEq] at H
              obtain ⟨rfl, rfl, rfl⟩ := H
              go_wp2_with (first | ((with_reducible refine gate_callee (f := 89) rfl ?_); refine goesL_ (some 65) rfl rfl Tryz.func89 (by kernel_rfl) rfl #[.string t116] rfl (by (try simp only [List.map_toArray, List.map_cons, List.map_nil]); first | done | rfl | (simp only [List.length_drop, List.length_take]; rfl)) ?_; (with_reducible refine (strconv_Atoi.calls t116 t119 t120 _ A26.out).mono ?_); rintro e w33 ⟨rfl, hb⟩; refine ⟨_, rfl, ?_⟩; have n0_ := Aside0.mk (bbe (g := gb113) (o := .cells #[.int .i64 x114000_2, .int .u64 x114001_2] 88 (0, 0)) (by (with_reducible repeat (first | refine bkn ?_ _ | refine bkd ?_ | refine bka ?_ _)); exact BK113.out) hb); have n1_ := Aside0.mk (bsp (by repeat (first | (with_reducible first | exact HB.out | apply bal | apply pbN | apply bd1 | refine bst ?_ GE113.out) | exact HB.out)) hb); clear BK113; clear HB; have BK113 := n0_; have HB := n1_; clear n0_ n1_; (try clear hb); (try clear hb2); (try clear hk); (try clear hi); (try simp only [errW_none, errW_some])) | ((with_reducible refine gate_callee (f := 117) rfl ?_); refine goesL_ (some 73) rfl rfl Tryz.func117 (by kernel_rfl) rfl #[.string t117] rfl (by (try simp only [List.map_toArray, List.map_cons, List.map_nil]); first | done | rfl | (simp only [List.length_drop, List.length_take]; rfl)) ?_; (with_reducible refine (span_Parse.calls t117 t121 t122 _ A30.out).mono ?_); rintro e w34 ⟨rfl, hb⟩; refine ⟨_, rfl, ?_⟩; have n0_ := Aside0.mk (bbe (g := gb113) (o := .cells #[.int .i64 x114000_2, .int .u64 x114001_2] 88 (0, 0)) (by (with_reducible repeat (first | refine bkn ?_ _ | refine bkd ?_ | refine bka ?_ _)); exact BK113.out) hb); have n1_ := Aside0.mk (bsp (by repeat (first | (with_reducible first | exact HB.out | apply bal | apply pbN | apply bd1 | refine bst ?_ GE113.out) | exact HB.out)) hb); clear BK113; clear HB; have BK113 := n0_; have HB := n1_; clear n0_ n1_; (try clear hb); (try clear hb2); (try clear hk); (try clear hi); have hcz35_0 : w34.cell? ⟨gb113, 0, none⟩ = some (.int .i64 x114000_2) := (bce BK113.out 0).trans rfl; have hcz35_1 : w34.cell? ⟨gb113, 1, none⟩ = some (.int .u64 x114001_2) := (bce BK113.out 1).trans rfl; have hfz35_0 := bfz BK113.out 0; have hfz35_1 := bfz BK113.out 1))
              refine bodyPost_ret (results_ct rfl _ _ gb113 88 #[.int .i64 0, .int .u64 0] (0, 0) _ rfl (by (with_reducible repeat (first | refine bkn ?_ _ | refine bkd ?_ | refine bka ?_ _)); refine blk_put (cs := #[.int .i64 0, .int .u64 x114001_2]) ?_ 1 _ rfl; (with_reducible repeat (first | refine bkn ?_ _ | refine bkd ?_ | refine bka ?_ _)); refine blk_put (cs := #[.int .i64 x114000_2, .int .u64 x114001_2]) ?_ 0 _ rfl; (with_reducible repeat (first | refine bkn ?_ _ | refine bkd ?_ | refine bka ?_ _)); exact BK113.out) Tryz.underlying88 rfl (by kernel_rfl)) rfl ?_
              exact ⟨by first | rfl | (simp [errW_none, errW_some] <;> rfl) | (simp [*, errW_none, errW_some] <;> rfl), by repeat (first | (with_reducible first | exact HB.out | apply bal | apply pbN | apply bd1 | refine bst ?_ GE113.out) | exact HB.out)⟩
             ·rw [if_neg c32] at H
              have c32b0 : (t121 == 0) = false := beq_eq_false_iff_ne.mpr c32
              have c32b1 : (t121 != 0) = true := bne_iff_ne.mpr c32
              simp only [Option.some.injEq, Prod.mk.injEq] at H
              obtain ⟨rfl, rfl, rfl⟩ := H
              go_wp2_with (first | ((with_reducible refine gate_callee (f := 89) rfl ?_); refine goesL_ (some 65) rfl rfl Tryz.func89 (by kernel_rfl) rfl #[.string t116] rfl (by (try simp only [List.map_toArray, List.map_cons, List.map_nil]); first | done | rfl | (simp only [List.length_drop, List.length_take]; rfl)) ?_; (with_reducible refine (strconv_Atoi.calls t116 t119 t120 _ A26.out).mono ?_); rintro e w36 ⟨rfl, hb⟩; refine ⟨_, rfl, ?_⟩; have n0_ := Aside0.mk (bbe (g := gb113) (o := .cells #[.int .i64 x114000_2, .int .u64 x114001_2] 88 (0, 0)) (by (with_reducible repeat (first | refine bkn ?_ _ | refine bkd ?_ | refine bka ?_ _)); exact BK113.out) hb); have n1_ := Aside0.mk (bsp (by repeat (first | (with_reducible first | exact HB.out | apply bal | apply pbN | apply bd1 | refine bst ?_ GE113.out) | exact HB.out)) hb); clear BK113; clear HB; have BK113 := n0_; have HB := n1_; clear n0_ n1_; (try clear hb); (try clear hb2); (try clear hk); (try clear hi); (try simp only [errW_none, errW_some])) | ((with_reducible refine gate_callee (f := 117) rfl ?_); refine goesL_ (some 73) rfl rfl Tryz.func117 (by kernel_rfl) rfl #[.string t117] rfl (by (try simp only [List.map_toArray, List.map_cons, List.map_nil]); first | done | rfl | (simp only [List.length_drop, List.length_take]; rfl)) ?_; (with_reducible refine (span_Parse.calls t117 t121 t122 _ A30.out).mono ?_); rintro e w37 ⟨rfl, hb⟩; refine ⟨_, rfl, ?_⟩; have n0_ := Aside0.mk (bbe (g := gb113) (o := .cells #[.int .i64 x114000_2, .int .u64 x114001_2] 88 (0, 0)) (by (with_reducible repeat (first | refine bkn ?_ _ | refine bkd ?_ | refine bka ?_ _)); exact BK113.out) hb); have n1_ := Aside0.mk (bsp (by repeat (first | (with_reducible first | exact HB.out | apply bal | apply pbN | apply bd1 | refine bst ?_ GE113.out) | exact HB.out)) hb); clear BK113; clear HB; have BK113 := n0_; have HB := n1_; clear n0_ n1_; (try clear hb); (try clear hb2); (try clear hk); (try clear hi); have hcz38_0 : w37.cell? ⟨gb113, 0, none⟩ = some (.int .i64 x114000_2) := (bce BK113.out 0).trans rfl; have hcz38_1 : w37.cell? ⟨gb113, 1, none⟩ = some (.int .u64 x114001_2) := (bce BK113.out 1).trans rfl; have hfz38_0 := bfz BK113.out 0; have hfz38_1 := bfz BK113.out 1))
              refine bodyPost_ret (results_ct rfl _ _ gb113 88 #[.int .i64 t119, .int .u64 t121] (0, 0) _ rfl (by (with_reducible repeat (first | refine bkn ?_ _ | refine bkd ?_ | refine bka ?_ _)); refine blk_put (cs := #[.int .i64 t119, .int .u64 x114001_2]) ?_ 1 _ rfl; (with_reducible repeat (first | refine bkn ?_ _ | refine bkd ?_ | refine bka ?_ _)); refine blk_put (cs := #[.int .i64 x114000_2, .int .u64 x114001_2]) ?_ 0 _ rfl; (with_reducible repeat (first | refine bkn ?_ _ | refine bkd ?_ | refine bka ?_ _)); exact BK113.out) Tryz.underlying88 rfl (by kernel_rfl)) rfl ?_
              exact ⟨by first | rfl | (simp [errW_none, errW_some] <;> rfl) | (simp [*, errW_none, errW_some] <;> rfl), by repeat (first | (with_reducible first | exact HB.out | apply bal | apply pbN | apply bd1 | refine bst ?_ GE113.out) | exact HB.out)⟩
            ·rw [if_neg c31] at H
             have c31b0 : (t122 == 0) = false := beq_eq_false_iff_ne.mpr c31
             have c31b1 : (t122 != 0) = true := bne_iff_ne.mpr c31
             simp only [Option.some.injEq, Prod.mk.injEq] at H
             obtain ⟨rfl, rfl, rfl⟩ := H
             go_wp2_with (first | ((with_reducible refine gate_callee (f := 89) rfl ?_); refine goesL_ (some 65) rfl rfl Tryz.func89 (by kernel_rfl) rfl #[.string t116] rfl (by (try simp only [List.map_toArray, List.map_cons, List.map_nil]); first | done | rfl | (simp only [List.length_drop, List.length_take]; rfl)) ?_; (with_reducible refine (strconv_Atoi.calls t116 t119 t120 _ A26.out).mono ?_); rintro e w39 ⟨rfl, hb⟩; refine ⟨_, rfl, ?_⟩; have n0_ := Aside0.mk (bbe (g := gb113) (o := .cells #[.int .i64 x114000_2, .int .u64 x114001_2] 88 (0, 0)) (by (with_reducible repeat (first | refine bkn ?_ _ | refine bkd ?_ | refine bka ?_ _)); exact BK113.out) hb); have n1_ := Aside0.mk (bsp (by repeat (first | (with_reducible first | exact HB.out | apply bal | apply pbN | apply bd1 | refine bst ?_ GE113.out) | exact HB.out)) hb); clear BK113; clear HB; have BK113 := n0_; have HB := n1_; clear n0_ n1_; (try clear hb); (try clear hb2); (try clear hk); (try clear hi); (try simp only [errW_none, errW_some])) | ((with_reducible refine gate_callee (f := 117) rfl ?_); refine goesL_ (some 73) rfl rfl Tryz.func117 (by kernel_rfl) rfl #[.string t117] rfl (by (try simp only [List.map_toArray, List.map_cons, List.map_nil]); first | done | rfl | (simp only [List.length_drop, List.length_take]; rfl)) ?_; (with_reducible refine (span_Parse.calls t117 t121 t122 _ A30.out).mono ?_); rintro e w40 ⟨rfl, hb⟩; refine ⟨_, rfl, ?_⟩; have n0_ := Aside0.mk (bbe (g := gb113) (o := .cells #[.int .i64 x114000_2, .int .u64 x114001_2] 88 (0, 0)) (by (with_reducible repeat (first | refine bkn ?_ _ | refine bkd ?_ | refine bka ?_ _)); exact BK113.out) hb); have n1_ := Aside0.mk (bsp (by repeat (first | (with_reducible first | exact HB.out | apply bal | apply pbN | apply bd1 | refine bst ?_ GE113.out) | exact HB.out)) hb); clear BK113; clear HB; have BK113 := n0_; have HB := n1_; clear n0_ n1_; (try clear hb); (try clear hb2); (try clear hk); (try clear hi); have hcz41_0 : w40.cell? ⟨gb113, 0, none⟩ = some (.int .i64 x114000_2) := (bce BK113.out 0).trans rfl; have hcz41_1 : w40.cell? ⟨gb113, 1, none⟩ = some (.int .u64 x114001_2) := (bce BK113.out 1).trans rfl; have hfz41_0 := bfz BK113.out 0; have hfz41_1 := bfz BK113.out 1))
             refine bodyPost_ret (results_ct rfl _ _ gb113 88 #[.int .i64 0, .int .u64 0] (0, 0) _ rfl (by (with_reducible repeat (first | refine bkn ?_ _ | refine bkd ?_ | refine bka ?_ _)); refine blk_put (cs := #[.int .i64 0, .int .u64 x114001_2]) ?_ 1 _ rfl; (with_reducible repeat (first | refine bkn ?_ _ | refine bkd ?_ | refine bka ?_ _)); refine blk_put (cs := #[.int .i64 x114000_2, .int .u64 x114001_2]) ?_ 0 _ rfl; (with_reducible repeat (first | refine bkn ?_ _ | refine bkd ?_ | refine bka ?_ _)); exact BK113.out) Tryz.underlying88 rfl (by kernel_rfl)) rfl ?_
             exact ⟨by first | rfl | (simp [errW_none, errW_some] <;> rfl) | (simp [*, errW_none, errW_some] <;> rfl), by repeat (first | (with_reducible first | exact HB.out | apply bal | apply pbN | apply bd1 | refine bst ?_ GE113.out) | exact HB.out)⟩
 ·replace c3 := Bool.eq_false_iff.mpr c3
  subst c3
  have H1 : (some (0, 0, 2)) = some (r1, r2, r3) := by rw [if_neg (show ¬ (false = true) by decide)] at H; exact H
  clear H
  have H := H1
  clear H1
  simp only [Option.some.injEq, Prod.mk.injEq] at H
  obtain ⟨rfl, rfl, rfl⟩ := H
  go_enter Tryz.func118, Tryz.ntmps118
  go_wp2_with (first | ((with_reducible refine gate_dst (N := 2) rfl ?_); (try (refine gate_guard (by rfl) ?_; dsimp only)); refine box_event ?hg (N := 2) ?hd (cs := #[.int .i64 0, .int .u64 0]) (t := 88) ?hr ?_; (case hd => rfl); (case hg => rfl); (case hr => first | (go_simp; done) | (go_simp; rfl)); intro gb113 hg w42 hbox hb; have n0_ := Aside0.mk (bsp (by repeat (first | (with_reducible first | exact HB.out | apply bal | apply pbN | apply bd1) | exact HB.out)) hb); have n1_ := Aside0.mk (hbox); have n2_ := Aside0.mk ((by rw [hg]; exact (bsz (by repeat (first | (with_reducible first | exact HB.out | apply bal | apply pbN | apply bd1) | exact HB.out))) : w.heap.size ≤ gb113)); have n3_ := Aside0.mk ((by rw [hg]; exact (bsz (by repeat (first | (with_reducible first | exact HB.out | apply bal | apply pbN | apply bd1) | exact HB.out))) : w.heap.size ≤ gb113)); clear HB; have HB := n0_; have BK113 := n1_; have GW113 := n2_; have GE113 := n3_; clear n0_ n1_ n2_ n3_; clear hb hbox hg) | ((with_reducible refine gate_callee (f := 183) rfl ?_); refine goesL_ (some 15) rfl rfl Tryz.func183 (by kernel_rfl) rfl #[.string a0, .string (⟨#[82]⟩ : ByteArray)] rfl (by (try simp only [List.map_toArray, List.map_cons, List.map_nil]); first | done | rfl | (simp only [List.length_drop, List.length_take]; rfl)) ?_; (with_reducible refine (strings_CutPrefix.calls a0 (⟨#[82]⟩ : ByteArray) t114 false _ A2.out).mono ?_); rintro e w' ⟨rfl, ⟨nd, rfl⟩⟩; refine ⟨_, rfl, ?_⟩; (try (rw [drewN_self w42]; generalize hq_ : World.drewN w42 _ = w42; have n0_ : Aside0 (w42.heap[gb113]? = some (.cells #[.int .i64 0, .int .u64 0] 88 (0, 0))) := ⟨by rw [← hq_]; exact (by (with_reducible repeat (first | refine bkn ?_ _ | refine bkd ?_ | refine bka ?_ _)); exact BK113.out)⟩; have n1_ : Aside0 (Below w.heap.size w w42) := ⟨by rw [← hq_]; exact (by repeat (first | (with_reducible first | exact HB.out | apply bal | apply pbN | apply bd1 | refine bst ?_ GE113.out) | exact HB.out))⟩; clear BK113 HB hq_; have BK113 := n0_; have HB := n1_; clear n0_ n1_)); have hcz43_0 : w42.cell? ⟨gb113, 0, none⟩ = some (.int .i64 0) := (bce BK113.out 0).trans rfl; have hcz43_1 : w42.cell? ⟨gb113, 1, none⟩ = some (.int .u64 0) := (bce BK113.out 1).trans rfl; have hfz43_0 := bfz BK113.out 0; have hfz43_1 := bfz BK113.out 1))
  refine bodyPost_ret (results_ct rfl _ _ gb113 88 #[.int .i64 0, .int .u64 0] (0, 0) _ rfl (by (with_reducible repeat (first | refine bkn ?_ _ | refine bkd ?_ | refine bka ?_ _)); refine blk_put (cs := #[.int .i64 0, .int .u64 0]) ?_ 1 _ rfl; (with_reducible repeat (first | refine bkn ?_ _ | refine bkd ?_ | refine bka ?_ _)); refine blk_put (cs := #[.int .i64 0, .int .u64 0]) ?_ 0 _ rfl; (with_reducible repeat (first | refine bkn ?_ _ | refine bkd ?_ | refine bka ?_ _)); exact BK113.out) Tryz.underlying88 rfl (by kernel_rfl)) rfl ?_
  exact ⟨by first | rfl | (simp [errW_none, errW_some] <;> rfl) | (simp [*, errW_none, errW_some] <;> rfl), by repeat (first | (with_reducible first | exact HB.out | apply bal | apply pbN | apply bd1 | refine bst ?_ GE113.out) | exact HB.out)⟩

end Go.Proofs.YtdfkbiffdcfnpaaGreatDoor.H
