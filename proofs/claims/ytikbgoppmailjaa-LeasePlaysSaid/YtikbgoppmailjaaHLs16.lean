import Derived.Test.YtikbgoppmailjaaHLs15
import Derived.Lib.SliceRun
/- Clone of any row of leases; rows as lists and as functions. -/
namespace Go.Proofs.Ytikbgoppmailjaa.H
open Go.RowKit Go.HK Go.Maps Go.WideShapes Go.ChangeShapes Go.Proofs.YtikbgoppmailjaaW.PrintWords Go.Proofs.YtikbgoppmailjaaW.PrintLast Go.Proofs.YtikbgoppmailjaaW.PrintMore
set_option linter.unusedVariables false
set_option linter.unusedSimpArgs false
theorem flat_length (l : List G3) : (flat l).length = 3 * l.length := by
  induction l with
  | nil => rfl
  | cons x l ih => simp [flat, List.flatMap_cons] at ih ⊢; omega
theorem flat_snoc (l : List G3) (x : G3) : flat (l ++ [x]) = flat l ++ c3 x := by simp [flat, List.flatMap_append]
theorem RowF.flat {w : World} {g L : Nat} {f : Nat → G3} (h : RowF w g L f) : ∀ (j : Nat) (u : Value), (H.flat ((List.range L).map f))[j]? = some u → w.cell? ⟨g, j, none⟩ = some u := by
  obtain ⟨C, h1, h2, h3⟩ := h
  intro j u hu
  rw [blk_cell h1]
  have key : ∀ n, n ≤ L → ∀ (j : Nat) (u : Value), (H.flat ((List.range n).map f))[j]? = some u → C[j]? = some u := by
    intro n
    induction n with
    | zero => intro _ j u h; simp at h
    | succ n ih =>
      intro hn j u h
      rw [List.range_succ, List.map_append, List.map_cons, List.map_nil, flat_snoc] at h
      have hl : (H.flat ((List.range n).map f)).length = 3 * n := by rw [flat_length]; simp
      obtain ⟨a0, a1, a2⟩ := h3 n (by omega)
      by_cases e : j < 3 * n
      · rw [List.getElem?_append_left (by omega)] at h
        exact ih (by omega) j u h
      · rw [List.getElem?_append_right (by omega), hl] at h
        obtain ⟨r, hr⟩ : ∃ r, j = 3 * n + r := ⟨j - 3 * n, by omega⟩
        subst hr
        rw [Nat.add_sub_cancel_left] at h
        match r, h with
        | 0, h => rw [← h]; exact a0
        | 1, h => rw [← h]; exact a1
        | 2, h => rw [← h]; exact a2
        | k + 3, h => simp at h
  exact key L (Nat.le_refl _) j u hu
theorem flat_one (l : List G3) : ∀ x ∈ H.flat l, x.oneCell' = true := by
  intro x hx
  simp only [H.flat, List.mem_flatMap] at hx
  obtain ⟨y, _, hy⟩ := hx
  simp at hy
  rcases hy with rfl | rfl | rfl <;> rfl
set_option maxRecDepth 100000 in
theorem clone_any {w : World} {g L cap : Nat} {f : Nat → G3} (hF : RowF w g L f) (hL : L ≤ 100000) :
    Calls Try.prog 29 #[.slice (some ⟨g, 0, none⟩) L cap] w fun e w' => ∃ v, e = .returned v ∧ RowG w' w.heap.size v ((List.range L).map f) ∧ Below w.heap.size w w' := by
  obtain ⟨i0, hi, hz0, hz1, hz2⟩ := infoG
  have HI := Aside0.mk hi
  have HI0 := Aside0.mk hz0
  have HI1 := Aside0.mk hz1
  have HI2 := Aside0.mk hz2
  have HO := Aside0.mk (show (w.alloc (.cells #[] 38)).ownsRow w.heap.size 38 3 (.slice (some ⟨w.heap.size, 0, none⟩) 0 0) 0 [] from ⟨rfl, .inr ⟨w.heap.size, 0, #[], rfl, Nat.le_refl _, heap_alloc_last _ _, Nat.le_refl _, Nat.zero_le _, rfl, rfl⟩⟩)
  have HC := Aside0.mk (show ∀ (j : Nat) (u : Value), (H.flat ((List.range L).map f))[j]? = some u → (w.alloc (.cells #[] 38)).cell? ((⟨g, 0, none⟩ : Addr).add j) = some u from fun j u h => by
    rw [Addr.add_mid, Nat.zero_add, World.cell?_alloc_lt _ _ _ hF.lt]
    exact hF.flat j u h)
  have HLn := Aside0.mk (show (H.flat ((List.range L).map f)).length = L * 3 from by rw [flat_length]; simp [Nat.mul_comm])
  clear hi hz0 hz1 hz2 hF
  have hq : ∀ w, (binOp .eql 34 (.slice (some ⟨g, 0, none⟩) L cap) (.slice none 0 0)).run Try.prog w = .ok (.bool false) w := fun w => Go.Lib.run_eql_slice_nil w 34 38 (some ⟨g, 0, none⟩) L cap 0 0 Try.underlying34
  go_enter Try.func29, Try.ntmps29
  go_wp2_with (at_builtin; refine wpList_append_own _ rfl _ _ 34 rfl w.heap.size 38 i0 (gv 0 0 0) 3 24 Try.underlying34 HI.out HI0.out HI1.out HI2.out rfl (by decide) (.slice (some ⟨w.heap.size, 0, none⟩) 0 0) 0 [] rfl HO.out ⟨g, 0, none⟩ L cap (H.flat ((List.range L).map f)) rfl HLn.out HC.out (flat_one _) (by unfold maxLen; omega) (by omega) (by simp) ?_; intro v' w3 hown' hgrow3 hnil3; have HO3 := Aside0.mk hown'; have HB3 := Aside0.mk (((Below.refl w.heap.size w).alloc (Nat.le_refl _) (.cells #[] 38)).grown hgrow3 (by simp) (fun k e => by have e2 : w.heap.size = k := Option.some.inj e; omega)); clear hown' hgrow3 hnil3)
  go_ret
  refine ⟨_, rfl, ?_, HB3.out⟩
  have h := HO3.out
  unfold RowG
  rw [List.length_map, List.length_range]
  simpa using h
/-- A row of leases as a function of the place. -/
theorem RowG.fn {w : World} {B : Nat} {v : Value} {l : List G3} (h : RowG w B v l) : (v = .slice none 0 0 ∧ l = []) ∨ ∃ (g cap : Nat) (f : Nat → G3), v = .slice (some ⟨g, 0, none⟩) l.length cap ∧ B ≤ g ∧ l.length ≤ cap ∧ RowF w g l.length f ∧ (List.range l.length).map f = l := by
  rcases h.2 with ⟨rfl, hz⟩ | ⟨g, cap, cur, rfl, hB, hg, r1, r2, r3, r4⟩
  · exact .inl ⟨rfl, List.eq_nil_of_length_eq_zero hz⟩
  · refine .inr ⟨g, cap, fun i => l.getD i (0, 0, 0), rfl, hB, r1, ⟨cur, hg, by omega, fun i hi => ?_⟩, ?_⟩
    · have key : ∀ r, r < 3 → cur[3 * i + r]? = (c3 (l.getD i (0, 0, 0)))[r]? := by
        intro r hr
        have e1 : cur[3 * i + r]? = (H.flat l)[3 * i + r]? := by
          rw [← r4, List.getElem?_take_of_lt (by omega), Array.getElem?_toList]
        rw [e1]
        have e2 : ∀ (l : List G3) (i : Nat), i < l.length → (H.flat l)[3 * i + r]? = (c3 (l.getD i (0, 0, 0)))[r]? := by
          intro l
          induction l with
          | nil => intro i h; simp at h
          | cons x l ih =>
            intro i h
            have hc : H.flat (x :: l) = c3 x ++ H.flat l := rfl
            rw [hc]
            cases i with
            | zero => rw [List.getElem?_append_left (by simp; omega)]; simp
            | succ i =>
              rw [List.getElem?_append_right (by simp; omega)]
              have : 3 * (i + 1) + r - (c3 x).length = 3 * i + r := by simp; omega
              rw [this, ih i (by simpa using h)]
              simp
        exact e2 l i hi
      exact ⟨key 0 (by omega), key 1 (by omega), key 2 (by omega)⟩
    · apply List.ext_getElem
      · simp
      · intro i h1 h2
        simp [List.getD_eq_getElem?_getD, List.getElem?_eq_getElem h2]
end Go.Proofs.Ytikbgoppmailjaa.H
