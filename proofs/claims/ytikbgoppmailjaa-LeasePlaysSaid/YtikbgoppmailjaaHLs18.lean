import Derived.Test.YtikbgoppmailjaaHLs17
import Derived.Test.YtikbgoppmailjaaLsB
/- Over of any table, given the sort. -/
namespace Go.Proofs.Ytikbgoppmailjaa.H
open Go.RowKit Go.HK Go.Maps Go.WideShapes Go.ChangeShapes Go.Proofs.YtikbgoppmailjaaW.PrintWords Go.Proofs.YtikbgoppmailjaaW.PrintLast Go.Proofs.YtikbgoppmailjaaW.PrintMore
set_option linter.unusedVariables false
set_option linter.unusedSimpArgs false
theorem Has3s.mem {D1 : DataW Unit} : ∀ {ks : List Int} {l : List G3}, Has3s D1 ks l → ∀ x ∈ l, ∃ k ∈ ks, Has3 D1 k x
  | [], [], _, x, h => by cases h
  | k :: ks, y :: l, hh, x, h => by
    rcases List.mem_cons.1 h with rfl | h
    · exact ⟨k, by simp, hh.1⟩
    · obtain ⟨k', h1, h2⟩ := Has3s.mem hh.2 x h
      exact ⟨k', by simp [h1], h2⟩
  | [], _ :: _, hh, _, _ => hh.elim
  | _ :: _, [], hh, _, _ => hh.elim
/-- Each number of a table leads to a lease of that number. -/
def TabOk (D1 : DataW Unit) : Prop := (intKeys D1).Nodup ∧ ∀ k ∈ intKeys D1, (Lit.int .i64 k).wf = true ∧ has D1 (kk k) = true ∧ ∃ b c, D1.atKey (kk k) (gd 0 0 0) = gd k b c ∧ (Lit.int .i64 b).wf = true
theorem Has3s.firsts {D1 : DataW Unit} (hD : TabOk D1) : ∀ {ks : List Int} {l : List G3}, (∀ k ∈ ks, k ∈ intKeys D1) → Has3s D1 ks l → l.map (·.1) = ks
  | [], [], _, _ => rfl
  | k :: ks, y :: l, hk, hh => by
    obtain ⟨_, _, b, c, e, _⟩ := hD.2 k (hk k (by simp))
    have h1 := (gd_inj (hh.1.symm.trans e)).1
    rw [List.map_cons, h1, Has3s.firsts hD (fun k' h => hk k' (by simp [h])) hh.2]
  | [], _ :: _, _, hh => hh.elim
  | _ :: _, [], _, hh => hh.elim
theorem TabAt.grown {w w' : World} {p g : Nat} {n : Int} {b1 b2 m : Nat} {D1 D2 : DataW Unit} (T : TabAt w p n b1 b2 m D1 D2) (hg : w.grownBy w' (some g)) (h0 : p ≠ g) (h1 : b1 ≠ g) (h2 : b2 ≠ g) : TabAt w' p n b1 b2 m D1 D2 :=
  ⟨(hg.block p (blk_lt T.head) (fun e => h0 (Option.some.inj e))).trans T.head, T.all.kept hg (fun e => h1 (Option.some.inj e)), T.of.kept hg (fun e => h2 (Option.some.inj e)), T.apart⟩
theorem grown_below {w w' : World} {g B : Nat} (hg : w.grownBy w' (some g)) (hB : B ≤ w.heap.size) (h : B ≤ g) : Below B w w' := (Below.refl B w).grown hg hB (fun k e => by cases e; exact h)
theorem len_keys {D : DataW Unit} (h : IsMap D) : (intKeys D).length = size D := by obtain ⟨es, rfl⟩ := h; simp [intKeys, size]
def byEnd (x y : G3) : Bool := decide (x.2.2 ≤ y.2.2)
set_option maxRecDepth 100000 in
set_option maxHeartbeats 4000000 in
theorem over_calls {P : List G3 → List G3 → Prop} (SO : SortP P) (hP : ∀ l l', P l l' → l'.Perm l) (hP0 : P [] []) {w : World} {p : Nat} {n : Int} {b1 b2 m : Nat} {D1 D2 : DataW Unit} (T : TabAt w p n b1 b2 m D1 D2) (hsz : size D1 ≤ 100) (hD : TabOk D1) {u : Int} :
    Calls Try.prog 12 #[.pointer (some ⟨p, 0, none⟩), .int .u64 u] w fun e w' => ∃ (v : Value) (ss : List Int) (l0 l : List G3) (f : Nat → G3), e = .returned v ∧ RowG w' w.heap.size v l ∧ ss.Perm (intKeys D1) ∧ Has3s D1 (ss.mergeSort (fun x y => decide (x ≤ y))) l0 ∧ P (l0.filter (due u)) l ∧ (List.range l.length).map f = l ∧ TabAt w' p n b1 b2 m (del1 f D1 l.length) (del2 f D2 l.length) ∧ (∀ B, B ≤ p → B ≤ b1 → B ≤ b2 → Below B w w') ∧ ∀ k, k < w.heap.size → k ≠ b1 → k ≠ b2 → w'.heap[k]? = w.heap[k]? := by
  have BL := Aside0.mk ((Below.refl w.heap.size w).alloc (Nat.le_refl _) (.cells #[.int .u64 u] 28))
  have T1 := Aside0.mk (T.keep BL.out)
  have Q1 := Aside0.mk (show (w.alloc (.cells #[.int .u64 u] 28)).cell? ⟨w.heap.size, 0, none⟩ = some (.int .u64 u) from by rw [blk_cell (heap_alloc_last _ _)]; rfl)
  have L1 := Aside0.mk (show (w.alloc (.cells #[.int .u64 u] 28)).heap.size = w.heap.size + 1 from by simp)
  have P1 := Aside0.mk (And.intro (blk_lt T.head) (And.intro T.all.lt T.of.lt))
  have HD := Aside0.mk hD
  have HSZ := Aside0.mk hsz
  clear T hD hsz
  go_enter Try.func12, Try.ntmps12
  go_wp2_with (go_at_call 16; refine (list_calls T1.out (Nat.le_trans HSZ.out (by omega)) (fun k hk => (HD.out.2 k hk).1)).mono ?_; rintro e w2 ⟨v, ss, l0, rfl, hp, hh, hr, hb⟩; have PP := Aside0.mk hp; have H3 := Aside0.mk hh; have BL2 := Aside0.mk hb; have T2 := Aside0.mk (T1.out.keep hb); have Q2 := Aside0.mk ((hb.cell (p := ⟨w.heap.size, 0, none⟩) (show w.heap.size < _ by rw [L1.out]; omega)).trans Q1.out); rcases hr.fn with ⟨rfl, rfl⟩ | ⟨g, cap, f, rfl, hg, hc, hF, hl⟩ <;> clear hp hh hb hr)
  · go_wp2_with (first
      | (go_at_call 24; refine (delete_none).mono ?_; rintro e z ⟨rfl, rfl⟩)
      | (go_at_call 26; refine (sort_none).mono ?_; rintro e z ⟨rfl, rfl⟩))
    refine wp_loop_rounds 1 ?_
    rw [rounds_succ]
    go_wp2_with (go_at_call 29; refine (clone_none).mono ?_; rintro e z ⟨rfl, rfl⟩)
    go_ret
    have e1 := L1.out
    have h1 := P1.out
    exact ⟨_, ss, [], [], fun _ => (0, 0, 0), rfl, RowG.nil _ _, PP.out, H3.out, hP0, rfl, T2.out, fun B x y z => (BL.out.mono (by omega)).trans (BL2.out.mono (by omega)), fun k hk _ _ => (BL2.out.block k (by omega)).trans (BL.out.block k hk)⟩
  · have e1 := L1.out
    have h1 := P1.out
    have hlen : l0.length ≤ 100 := by
      have := H3.out.length
      rw [List.length_mergeSort, PP.out.length_eq, len_keys T2.out.all.isMap] at this
      have := HSZ.out
      omega
    have hqg : w.heap.size ≠ g := by omega
    have DF := Aside0.mk (delete_calls (cap := cap) Q2.out hF hqg (by omega) hc)
    have NP := Aside0.mk (show p ≠ g ∧ b1 ≠ g ∧ b2 ≠ g by refine ⟨?_, ?_, ?_⟩ <;> omega)
    have FL := Aside0.mk hl
    have LEN := Aside0.mk hlen
    have GG := Aside0.mk hg
    clear hF hl hqg e1 h1 hc hlen hg
    go_wp2_with (first
      | (go_at_call 24; refine DF.out.mono ?_; rintro e w3 ⟨i, h, rfl, hi, hF3, hG3, hfil⟩; have F3 := Aside0.mk hF3; have G3' := Aside0.mk hG3; have I3 := Aside0.mk hi; have FI := Aside0.mk hfil; clear hi hF3 hG3 hfil)
      | (go_at_call 26; refine (SO _ g i cap h F3.out (Nat.le_trans I3.out LEN.out)).mono ?_; rintro e w4 ⟨rfl, f', hF4, hG4, hs4⟩; have F4 := Aside0.mk hF4; have G4 := Aside0.mk (grown_trans G3'.out hG4); have S4 := Aside0.mk hs4; clear hF4 hG4 hs4))
    have T4 := T2.out.grown G4.out NP.out.1 NP.out.2.1 NP.out.2.2
    have key : P (l0.filter (due u)) ((List.range i).map f') := by
      have h1 := S4.out
      rw [FI.out, FL.out] at h1
      exact h1
    have hperm := hP _ _ key
    have hks : ∀ k ∈ ss.mergeSort (fun x y => decide (x ≤ y)), k ∈ intKeys D1 := fun k hk => PP.out.subset ((List.mergeSort_perm ss _).subset hk)
    have hmem : ∀ k, k < i → f' k ∈ l0 := fun k hk => by
      have h1 : f' k ∈ (List.range i).map f' := List.mem_map.2 ⟨k, List.mem_range.2 hk, rfl⟩
      exact (List.mem_filter.1 (hperm.subset h1)).1
    have hnd : ((List.range i).map (fun k => (f' k).1)).Nodup := by
      have h1 : ((List.range i).map f').map (·.1) = (List.range i).map (fun k => (f' k).1) := by rw [List.map_map]; rfl
      rw [← h1]
      have h2 : (l0.map (·.1)).Nodup := by
        rw [H3.out.firsts HD.out hks]
        exact ((List.mergeSort_perm ss _).trans PP.out).nodup_iff.2 HD.out.1
      have h3 : ((l0.filter (due u)).map (·.1)).Nodup := h2.sublist (List.filter_sublist.map _)
      exact (hperm.map _).nodup_iff.2 h3
    refine wp_loop_rounds (i + 1) ?_
    refine over_loop (f := f') (D1 := D1) (D2 := D2) (cap := cap) (g := g) rfl (Nat.le_trans I3.out (Nat.le_trans LEN.out (by omega))) ⟨Ne.symm NP.out.2.1, Ne.symm NP.out.2.2⟩ (fun k hk => ?_) (fun a b hab hb => ?_) ?_ i 0 w4 (by omega) T4 F4.out (Nat.le_refl _) ⟨fun B _ _ _ _ => Below.refl B w4, fun _ _ _ _ => rfl⟩
    · obtain ⟨c, hc, h3⟩ := H3.out.mem _ (hmem k hk)
      obtain ⟨a1, a2, b, d, a3, a4⟩ := HD.out.2 c (hks c hc)
      obtain ⟨q1, q2, q3⟩ := gd_inj (h3.symm.trans a3)
      rw [q1]
      exact ⟨a2, by rw [a3, q2, q3], a1, by rw [q2]; exact a4⟩
    · have h5 := List.pairwise_iff_getElem.1 hnd a b (by simp; omega) (by simpa using hb) hab
      simpa using h5
    · intro w' y1 y2 y3 y6 y7 y8 y9 y10 y11 y12 y13 y17 y18 y19 y20 y21 y22 y23 y24 y25 y26 T' F' S' B'
      have T6 := Aside0.mk T'
      have F6 := Aside0.mk F'
      have S6 := Aside0.mk S'
      have B6 := Aside0.mk B'
      have KEY := Aside0.mk key
      clear T' F' S' B' T4 key hperm hks hmem hnd
      go_wp2_with (go_at_call 29; refine (clone_any F6.out (Nat.le_trans I3.out (Nat.le_trans LEN.out (by omega)))).mono ?_; rintro e w7 ⟨v, rfl, hv, hb⟩; have V7 := Aside0.mk hv; have B7 := Aside0.mk hb; clear hv hb)
      go_ret
      have e1 := L1.out
      have h1 := P1.out
      have e4 := G4.out.size
      have e2 := BL2.out.size
      have e6 := S6.out
      have hlen2 : ((List.range i).map f').length = i := by simp
      refine ⟨_, ss, l0, (List.range i).map f', f', rfl, owns_base V7.out (by omega), PP.out, H3.out, KEY.out, by rw [hlen2], by rw [hlen2]; exact T6.out.keep B7.out, fun B x y z => ?_, fun k hk q1 q2 => ?_⟩
      · exact (BL.out.mono (by omega)).trans ((BL2.out.mono (by omega)).trans ((grown_below G4.out (by omega) (by have := GG.out; omega)).trans ((B6.out.1 B (by omega) x y z).trans (B7.out.mono (by omega)))))
      · have q3 := GG.out
        exact (B7.out.block k (by omega)).trans ((B6.out.2 k (by omega) q1 q2).trans ((G4.out.block k (by omega) (fun e => by injection e with e; omega)).trans ((BL2.out.block k (by omega)).trans (BL.out.block k hk))))
end Go.Proofs.Ytikbgoppmailjaa.H
