import Derived.Test.YtikbgoppmailjaaHLs9
import Derived.LoopN
/- List of a table of any leases: a row of them, in the order of their numbers. -/
namespace Go.Proofs.Ytikbgoppmailjaa.H
open Go.RowKit Go.HK Go.Maps Go.WideShapes Go.ChangeShapes Go.Proofs.YtikbgoppmailjaaW.PrintWords Go.Proofs.YtikbgoppmailjaaW.PrintLast Go.Proofs.YtikbgoppmailjaaW.PrintMore
set_option linter.unusedVariables false
set_option linter.unusedSimpArgs false
set_option maxRecDepth 100000 in
set_option maxHeartbeats 8000000 in
theorem list_calls {w : World} {p : Nat} {n : Int} {b1 b2 m : Nat} {D1 D2 : DataW Unit} (T : TabAt w p n b1 b2 m D1 D2) (hsz : size D1 ≤ 100000) (hwf : ∀ k ∈ intKeys D1, (Lit.int .i64 k).wf = true) : Calls Try.prog 16 #[.pointer (some ⟨p, 0, none⟩)] w fun e w' => ∃ (v : Value) (ss : List Int) (l : List (Int × Int × Int)), e = .returned v ∧ ss.Perm (intKeys D1) ∧ Has3s D1 (ss.mergeSort (fun x y => decide (x ≤ y))) l ∧ RowG w' w.heap.size v l ∧ Below w.heap.size w w' := by
  have HT := Aside0.mk T
  have HW := Aside0.mk (fun (_ : Unit) => hwf)
  have HS := Aside0.mk hsz
  have HE := Aside0.mk (show (intKeys D1).length ≤ 100000 from by obtain ⟨es, e⟩ := T.all.isMap; subst e; simpa [intKeys, size] using hsz)
  have c1 := blk_cell T.head 1
  clear hwf T hsz
  go_enter Try.func16, Try.ntmps16
  go_wp2_with (first
    | (go_at_call 31; refine (keys_calls _ _).mono ?_; rintro e w1 ⟨rfl, rfl⟩)
    | (go_at_call 30; refine (sorted_calls HT.out.all HS.out).mono ?_; rintro e w2 ⟨v, ss, rfl, hp, hrow, hn, hb⟩; have P2 := Aside0.mk hp; have B2 := Aside0.mk (((Below.refl _ w).alloc (Nat.le_refl _) (.cells #[.map (some b1)] 59)).trans (hb.mono (by omega))); have H1 := Aside0.mk hrow.1; rcases hrow.2 with ⟨rfl, hz⟩ | ⟨g, cap, cur, rfl, hbase, hg, r1, r2, r3, r4⟩ <;> clear hp hrow hn hb))
  · have e0 : ss = [] := List.eq_nil_of_length_eq_zero hz
    subst e0
    refine wp_loop_rounds 1 ?_
    rw [rounds_succ]
    go_wp2
    go_ret
    exact ⟨_, [], [], rfl, P2.out, by simp [Has3s], RowG.nil _ _, B2.out⟩
  · have e0 : ss.length = (ss.mergeSort (fun x y => decide (x ≤ y))).length := (List.length_mergeSort ss).symm
    have hcell : ∀ i (h : i < (ss.mergeSort (fun x y => decide (x ≤ y))).length), w2.cell? ⟨g, i, none⟩ = some (.int .i64 (ss.mergeSort (fun x y => decide (x ≤ y)))[i]) ∧ (Lit.int .i64 (ss.mergeSort (fun x y => decide (x ≤ y)))[i]).wf = true := by
      intro i h
      constructor
      · rw [blk_cell hg i, ← Array.getElem?_toList]
        have q1 : (cur.toList.take (ss.length * 1))[i]? = cur.toList[i]? := List.getElem?_take_of_lt (by omega)
        rw [← q1, r4, List.getElem?_map, List.getElem?_eq_getElem h]
        rfl
      · exact HW.out () _ (P2.out.subset ((List.mergeSort_perm ss _).subset (List.getElem_mem h)))
    have hL : (ss.mergeSort (fun x y => decide (x ≤ y))).length ≤ 100000 := by
      have := HE.out
      rw [← e0, P2.out.length_eq]; exact this
    clear hg r1 r2 r3 r4
    obtain ⟨ks, he⟩ : ∃ ks, ks = ss.mergeSort (fun x y => decide (x ≤ y)) := ⟨_, rfl⟩
    rw [← he] at hL hcell e0
    have HEQ := Aside0.mk he
    clear he
    rw [e0]
    refine wp_loop_rounds (ks.length + 1) ?_
    refine list_loop (ks := ks) (g := g) (cap := cap) rfl (HT.out.keep B2.out) hL hcell ?_ ks.length 0 w2 (.slice none 0 0) [] (by omega) trivial (Below.refl _ _) (RowG.nil _ _)
    intro w' v l y1 y4 y5 y6 y7 y8 y9 y10 y11 y12 y16 y17 y18 y19 y20 y21 y22 y23 y24 y25 y26 y27 y28 y29 H hb hr
    have HH := Aside0.mk H
    have HB := Aside0.mk hb
    have HR := Aside0.mk hr
    clear H hb hr
    go_wp2
    go_ret
    exact ⟨_, ss, l, rfl, P2.out, HEQ.out ▸ HH.out, owns_base HR.out B2.out.size, B2.out.trans (HB.out.mono B2.out.size)⟩
end Go.Proofs.Ytikbgoppmailjaa.H
