import Derived.Test.YtojfdekiponccaaGreatDoorHReader
import Derived.Test.YtojfdekiponccaaGreatDoorPG
/- guard's reader, second part: factor, one; and the whole. -/
namespace Go.Proofs.YtojfdekiponccaaGreatDoor.H
open Go.RowKit Go.HK Go.Proofs.YtojfdekiponccaaGreatDoorW.PrintWords Go.Proofs.YtojfdekiponccaaGreatDoorW.PrintLast Go.Proofs.YtojfdekiponccaaGreatDoorW.PrintMore
set_option linter.unusedVariables false
set_option linter.unusedSimpArgs false
theorem cell_alloc_keep {w : World} {ad : Addr} {v : Value} (o : Obj) (h : w.cell? ad = some v) : (w.alloc o).cell? ad = some v :=
  (((Below.refl w.heap.size w).alloc (Nat.le_refl _) o).cell (World.block_lt_of_cell? w _ h)).trans h
set_option maxRecDepth 100000 in
theorem factor_operand {b g : Nat} {v : Value} {w : World} {a : S46} {l o : List S46} (hk : a.f0 = 1 ∨ a.f0 = 2) (hW : Wr b w) (h : RS b g v w (a :: l, o)) (hl : o.length < 8796093022208) :
    Calls Tryz.prog 88 #[.pointer (some ⟨g, 0, none⟩)] w (Post b g v w (some (l, o ++ [a]))) := by
  have HW := Aside0.mk hW
  have HR0 := Aside0.mk h
  have HM0 := Aside0.mk (Mv.refl (b := b) (g := g) (v := v) (w := w))
  have HW0 := HW
  have main : ∀ (w3 : World), Mv b g v w v w3 → RS b g v w3 (a :: l, o) → True := fun _ _ _ => trivial
  rcases hk with hk | hk
  · have HS1 := Aside0.mk (show seesF 1 (a :: l, o) = true by simp [seesF, hk])
    have HL := Aside0.mk hl
    clear hW h hl main hk
    go_enter Tryz.func88, Tryz.ntmps88
    go_wp2_with (first | (go_at_call 65; (with_reducible refine (sees_calls 1 _ HR0.out HS1.out).mono ?_); rintro e w1 ⟨rfl, hb⟩; have HM1 := Aside0.mk (HM0.out.trans (Mv.of_below hb HR0.out.base)); have HR1 := Aside0.mk (HR0.out.below hb); have HW1 := Aside0.mk (HW.out.mv HM1.out); clear hb))
    have hr := HR1.out
    have HS := Aside0.mk hr.base
    have HN := Aside0.mk hr.ne
    obtain ⟨A0, c0, h1, h2, h3, h4, h5⟩ := hr
    have hc0 := blk_cell h1 0
    have hc1 : w1.cell? ⟨g, 1, none⟩ = some v := blk_cell h1 1
    have hC0 := h3 w1 (KeepBut.refl _ _ _)
    have HO := Aside0.mk h4
    have H1 := Aside0.mk h1
    obtain ⟨ad, rfl, e0, e1⟩ := at_T46 hC0 0 (by omega) (by simp)
    have e0 : w1.cell? ad = some (.int .i64 a.f0) := by simpa [Addr.add, rd_T46] using e0
    have e1 : w1.cell? ⟨ad.block, ad.off + 1, none⟩ = some (.int .i64 a.f1) := by simpa [Addr.add, rd_T46] using e1
    have hc0 : w1.cell? ⟨g, 0, none⟩ = some (.slice (some ad) (l.length + 1) c0) := hc0
    have hlo := HL.out
    clear h1 h2 h3 h4 h5 hC0
    refine start_ (n := 16) (S := fun w' => w'.cell? ⟨g, 0, none⟩ = some (.slice (some ad) (l.length + 1) c0) ∧ w'.cell? ⟨g, 1, none⟩ = some v ∧ w'.cell? ad = some (.int .i64 a.f0) ∧ w'.cell? ⟨ad.block, ad.off + 1, none⟩ = some (.int .i64 a.f1)) (ds := [12, 15]) #[false, false, false, false, false, false, false, false, false, false, false, false, false, false, false, false] (by kernel_rfl) rfl rfl ⟨hc0, hc1, e0, e1⟩ (fun hHeld => ?_)
    refine pure_ (i := 0) (N := some 13) (v := ?_) (a' := ?_) #[true, false, false, false, false, false, false, false, false, false, false, false, false, false, false, false] rfl rfl (by kernel_rfl) (fun _ _ _ h => h) (Or.inl ⟨by rfl, ?_⟩) ?_ ?_
    rotate_left
    · intro w'
      go_simp
      with_reducible rfl
    rotate_left
    · simp only [Act.put, List.setIfInBounds_toArray, List.set_cons_zero, List.set_cons_succ, i64_w, i32_w]
      rfl
    refine pure_ (i := 1) (N := some 14) (v := ?_) (a' := ?_) #[true, true, false, false, false, false, false, false, false, false, false, false, false, false, false, false] rfl rfl (by kernel_rfl) (fun _ _ _ h => h) (Or.inl ⟨by rfl, ?_⟩) ?_ ?_
    rotate_left
    · intro w'
      go_simp
      with_reducible rfl
    rotate_left
    · simp only [Act.put, List.setIfInBounds_toArray, List.set_cons_zero, List.set_cons_succ, i64_w, i32_w]
      rfl
    refine pure_ (i := 2) (N := some 15) (v := ?_) (a' := ?_) #[true, true, true, false, false, false, false, false, false, false, false, false, false, false, false, false] rfl rfl (by kernel_rfl) (fun _ _ _ h => h) (Or.inl ⟨by rfl, ?_⟩) ?_ ?_
    rotate_left
    · intro w'
      go_simp
      with_reducible rfl
    rotate_left
    · simp only [Act.put, List.setIfInBounds_toArray, List.set_cons_zero, List.set_cons_succ, i64_w, i32_w]
      rfl
    refine pure_ (i := 3) (N := some 16) (v := ?_) (a' := ?_) #[true, true, true, true, false, false, false, false, false, false, false, false, false, false, false, false] rfl rfl (by kernel_rfl) (fun _ _ _ h => h) (Or.inl ⟨by rfl, ?_⟩) ?_ ?_
    rotate_left
    · intro w'
      go_simp
      with_reducible rfl
    rotate_left
    · simp only [Act.put, List.setIfInBounds_toArray, List.set_cons_zero, List.set_cons_succ, i64_w, i32_w]
      rfl
    refine pure_ (i := 5) (N := some 18) (v := ?_) (a' := ?_) #[true, true, true, true, false, true, false, false, false, false, false, false, false, false, false, false] rfl rfl (by kernel_rfl) (fun _ _ _ h => h) (Or.inl ⟨by rfl, ?_⟩) ?_ ?_
    rotate_left
    · intro w'
      go_simp
      with_reducible rfl
    rotate_left
    · simp only [Act.put, List.setIfInBounds_toArray, List.set_cons_zero, List.set_cons_succ, i64_w, i32_w]
      rfl
    refine pure_ (i := 6) (N := some 19) (v := ?_) (a' := ?_) #[true, true, true, true, false, true, true, false, false, false, false, false, false, false, false, false] rfl rfl (by kernel_rfl) (fun _ _ _ h => h) (Or.inl ⟨by rfl, ?_⟩) ?_ ?_
    rotate_left
    · intro w'
      go_simp
      with_reducible rfl
    rotate_left
    · simp only [Act.put, List.setIfInBounds_toArray, List.set_cons_zero, List.set_cons_succ, i64_w, i32_w]
      rfl
    refine pure_ (i := 7) (N := some 20) (v := ?_) (a' := ?_) #[true, true, true, true, false, true, true, true, false, false, false, false, false, false, false, false] rfl rfl (by kernel_rfl) (fun _ _ _ h => h) (Or.inl ⟨by rfl, ?_⟩) ?_ ?_
    rotate_left
    · intro w'
      go_simp
      with_reducible rfl
    rotate_left
    · simp only [Act.put, List.setIfInBounds_toArray, List.set_cons_zero, List.set_cons_succ, i64_w, i32_w]
      rfl
    refine take_ (i := 4) (N := some 17) (v := ?_) (a' := ?_) #[true, true, true, true, true, true, true, true, false, false, false, false, false, false, false, false] rfl rfl (by kernel_rfl) (fun _ _ _ h => h) (Or.inl ⟨by rfl, ?_⟩) hHeld ?_ ?_
    rotate_left
    · rintro w' ⟨s0, s1, s2, s3⟩
      go_simp
      with_reducible rfl
    rotate_left
    · simp only [Act.put, List.setIfInBounds_toArray, List.set_cons_zero, List.set_cons_succ, i64_w, i32_w]
      rfl
    refine take_ (i := 8) (N := some 21) (v := ?_) (a' := ?_) #[true, true, true, true, true, true, true, true, true, false, false, false, false, false, false, false] rfl rfl (by kernel_rfl) (fun _ _ _ h => h) (Or.inl ⟨by rfl, ?_⟩) hHeld ?_ ?_
    rotate_left
    · rintro w' ⟨s0, s1, s2, s3⟩
      go_simp
      with_reducible rfl
    rotate_left
    · simp only [Act.put, List.setIfInBounds_toArray, List.set_cons_zero, List.set_cons_succ, i64_w, i32_w]
      rfl
    refine pure_ (i := 9) (N := some 22) (v := ?_) (a' := ?_) #[true, true, true, true, true, true, true, true, true, true, false, false, false, false, false, false] rfl rfl (by kernel_rfl) (fun _ _ _ h => h) (Or.inl ⟨by rfl, ?_⟩) ?_ ?_
    rotate_left
    · intro w'
      go_simp
      with_reducible rfl
    rotate_left
    · simp only [Act.put, List.setIfInBounds_toArray, List.set_cons_zero, List.set_cons_succ, i64_w, i32_w]
      rfl
    refine take_ (i := 10) (N := some 23) (v := ?_) (a' := ?_) #[true, true, true, true, true, true, true, true, true, true, true, false, false, false, false, false] rfl rfl (by kernel_rfl) (fun _ _ _ h => h) (Or.inl ⟨by rfl, ?_⟩) hHeld ?_ ?_
    rotate_left
    · rintro w' ⟨s0, s1, s2, s3⟩
      go_simp
      with_reducible rfl
    rotate_left
    · simp only [Act.put, List.setIfInBounds_toArray, List.set_cons_zero, List.set_cons_succ, i64_w, i32_w]
      rfl
    refine one_ (i := 11) (N := some 24) #[true, true, true, true, true, true, true, true, true, true, true, true, false, false, false, false] rfl rfl (by kernel_rfl) (by decide) (fun K hK => ?_)
    refine value_ (w1 := ?_) (v := ?_) (by rfl) rfl ?_ ?_
    rotate_left 2
    · go_simp
      constructor
      · rfl
      · rfl
    refine hK.out _ _ ⟨(cell_alloc_keep _ hHeld.1), (cell_alloc_keep _ hHeld.2.1), (cell_alloc_keep _ hHeld.2.2.1), (cell_alloc_keep _ hHeld.2.2.2)⟩ (fun hHeld => ?_)
    clear hK K
    refine norm_ (a' := ?_) ?_ ?_
    rotate_left
    · show Act.put _ (some 24) _ = _
      simp only [Act.put, List.setIfInBounds_toArray, List.set_cons_zero, List.set_cons_succ, i64_w, i32_w]
      rfl
    refine last_ (i := 12) (N := some 25) #[true, true, true, true, true, true, true, true, true, true, true, true, true, false, false, false] rfl rfl (by kernel_rfl) (by decide) (fun K hK => ?_)
    refine Kd.R_append_step k46 (w0 := World.drew w1) (W := World.drew w1) b (by rfl) (.tmp 17) (.tmp 24) 24 46 (.agg #[(.int .i64 0), (.int .i64 0)]) 16 rfl Tryz.underlying24 info46 rfl (by decide) (by omega) v o a [.int .i64 a.f0, .int .i64 a.f1] (fun _ => True) (fun _ => False) rfl rfl ?aP (fun _ hk => hk.elim) ?aF ?aO ?aB ?aS ?aL ?_
    case aP => exact k46_mkM _ _ _ a
    case aF => exact (fun _ _ => trivial)
    case aO => exact Kd.R_drew HO.out
    case aB => exact Below.refl _ _
    case aS => exact HS.out
    case aL => omega
    intro v1 w4 ho hb hg hat
    obtain ⟨A1, c1, e1, _, _⟩ := Kd.R_reads ho
    subst e1
    have hb1 := blk_grown (w := World.drew w1) H1.out hg HN.out
    have hcell : w4.cell? ⟨g, 1, none⟩ = some v := blk_cell hb1 1
    have hfr : w4.frozen? ⟨g, 1, none⟩ = false := blk_frozen hb1 1
    have HO1 := Aside0.mk ho
    have HB1 := Aside0.mk hb
    have HG1 := Aside0.mk hg
    have HA1 := Aside0.mk hat
    have H1b := Aside0.mk hb1
    clear ho hb hg hat hb1
    refine hK.out _ _ ?_
    clear hK K
    refine norm_ (a' := ?_) ?_ ?_
    rotate_left
    · show Act.put _ (some 25) _ = _
      simp only [Act.put, List.setIfInBounds_toArray, List.set_cons_zero, List.set_cons_succ, i64_w, i32_w]
      rfl
    refine pure_ (i := 13) (N := some 26) (v := ?_) (a' := ?_) #[true, true, true, true, true, true, true, true, true, true, true, true, true, true, false, false] rfl rfl (by kernel_rfl) (fun _ _ _ h => h) (Or.inl ⟨by rfl, ?_⟩) ?_ ?_
    rotate_left
    · intro w'
      go_simp
      with_reducible rfl
    rotate_left
    · simp only [Act.put, List.setIfInBounds_toArray, List.set_cons_zero, List.set_cons_succ, i64_w, i32_w]
      rfl
    refine pure_ (i := 14) (N := some 27) (v := ?_) (a' := ?_) #[true, true, true, true, true, true, true, true, true, true, true, true, true, true, true, false] rfl rfl (by kernel_rfl) (fun _ _ _ h => h) (Or.inl ⟨by rfl, ?_⟩) ?_ ?_
    rotate_left
    · intro w'
      go_simp
      with_reducible rfl
    rotate_left
    · simp only [Act.put, List.setIfInBounds_toArray, List.set_cons_zero, List.set_cons_succ, i64_w, i32_w]
      rfl
    refine last_ (i := 15) (N := none) #[true, true, true, true, true, true, true, true, true, true, true, true, true, true, true, true] rfl rfl (by kernel_rfl) (by decide) (fun K hK => ?_)
    refine skip_ (w1 := ?_) (by rfl) rfl ?_ ?_
    rotate_left
    · go_simp
      rfl
    refine hK.out _ _ ?_
    clear hK K
    refine done_ (by kernel_rfl) ?_
    clear hcell hfr hc0 hc1 e0 e1 hHeld
    have hbd : Below w1.heap.size w1 (World.drew w1) := (Below.refl _ _).drew
    obtain ⟨q1, q2⟩ := RS.stored (HR1.out.below hbd) HO1.out HB1.out HG1.out HA1.out
    have q3 := (HM1.out.trans (Mv.of_below (v := v) (g := g) hbd HS.out)).trans q1
    have e : o.length + 1 = (o ++ [a]).length := by simp
    rw [e]
    clear e q1 hbd HO1 HB1 HG1 HA1 H1b H1 HO
    generalize w4.setCell ⟨g, 1, none⟩ (.slice A1 (o ++ [a]).length c1) = w5 at q2 q3 ⊢
    have HM5 := Aside0.mk q3
    have HR5 := Aside0.mk q2
    obtain ⟨A5, c5, h1, h2, h3, h4, h5⟩ := q2
    have hc5 : w5.cell? ⟨g, 0, none⟩ = some (.slice A5 (l.length + 1) c5) := blk_cell h1 0
    have hfr5 := blk_frozen h1 0
    have H15 := Aside0.mk h1
    clear h1 h3 h4 q3
    go_wp2
    all_goals
      go_end0
      obtain ⟨r1, r2⟩ := RS.cut HR5.out H15.out
      have r3 := HM5.out.trans r1
      refine ⟨.slice A1 (o ++ [a]).length c1, ?_, rfl, ?_⟩
      · simpa [h, Addr.add] using r3
      · simpa [h, Addr.add] using r2
  · have HS1 := Aside0.mk (show seesF 1 (a :: l, o) = false by simp [seesF, hk])
    have HS2 := Aside0.mk (show seesF 2 (a :: l, o) = true by simp [seesF, hk])
    have HL := Aside0.mk hl
    clear hW h hl main hk
    go_enter Tryz.func88, Tryz.ntmps88
    go_wp2_with (first | (go_at_call 65; (with_reducible refine (sees_calls 1 _ HR0.out HS1.out).mono ?_); rintro e w1 ⟨rfl, hb⟩; have HM1 := Aside0.mk (HM0.out.trans (Mv.of_below hb HR0.out.base)); have HR1 := Aside0.mk (HR0.out.below hb); have HW1 := Aside0.mk (HW.out.mv HM1.out); clear hb) | (go_at_call 65; (with_reducible refine (sees_calls 2 _ HR1.out HS2.out).mono ?_); rintro e w2 ⟨rfl, hb⟩; have HM2 := Aside0.mk (HM1.out.trans (Mv.of_below hb HR1.out.base)); have HR2 := Aside0.mk (HR1.out.below hb); have HW2 := Aside0.mk (HW.out.mv HM2.out); clear hb))
    have hr := HR2.out
    have HS := Aside0.mk hr.base
    have HN := Aside0.mk hr.ne
    obtain ⟨A0, c0, h1, h2, h3, h4, h5⟩ := hr
    have hc0 := blk_cell h1 0
    have hc1 : w2.cell? ⟨g, 1, none⟩ = some v := blk_cell h1 1
    have hC0 := h3 w2 (KeepBut.refl _ _ _)
    have HO := Aside0.mk h4
    have H1 := Aside0.mk h1
    obtain ⟨ad, rfl, e0, e1⟩ := at_T46 hC0 0 (by omega) (by simp)
    have e0 : w2.cell? ad = some (.int .i64 a.f0) := by simpa [Addr.add, rd_T46] using e0
    have e1 : w2.cell? ⟨ad.block, ad.off + 1, none⟩ = some (.int .i64 a.f1) := by simpa [Addr.add, rd_T46] using e1
    have hc0 : w2.cell? ⟨g, 0, none⟩ = some (.slice (some ad) (l.length + 1) c0) := hc0
    have hlo := HL.out
    clear h1 h2 h3 h4 h5 hC0
    refine start_ (n := 16) (S := fun w' => w'.cell? ⟨g, 0, none⟩ = some (.slice (some ad) (l.length + 1) c0) ∧ w'.cell? ⟨g, 1, none⟩ = some v ∧ w'.cell? ad = some (.int .i64 a.f0) ∧ w'.cell? ⟨ad.block, ad.off + 1, none⟩ = some (.int .i64 a.f1)) (ds := [12, 15]) #[false, false, false, false, false, false, false, false, false, false, false, false, false, false, false, false] (by kernel_rfl) rfl rfl ⟨hc0, hc1, e0, e1⟩ (fun hHeld => ?_)
    refine pure_ (i := 0) (N := some 13) (v := ?_) (a' := ?_) #[true, false, false, false, false, false, false, false, false, false, false, false, false, false, false, false] rfl rfl (by kernel_rfl) (fun _ _ _ h => h) (Or.inl ⟨by rfl, ?_⟩) ?_ ?_
    rotate_left
    · intro w'
      go_simp
      with_reducible rfl
    rotate_left
    · simp only [Act.put, List.setIfInBounds_toArray, List.set_cons_zero, List.set_cons_succ, i64_w, i32_w]
      rfl
    refine pure_ (i := 1) (N := some 14) (v := ?_) (a' := ?_) #[true, true, false, false, false, false, false, false, false, false, false, false, false, false, false, false] rfl rfl (by kernel_rfl) (fun _ _ _ h => h) (Or.inl ⟨by rfl, ?_⟩) ?_ ?_
    rotate_left
    · intro w'
      go_simp
      with_reducible rfl
    rotate_left
    · simp only [Act.put, List.setIfInBounds_toArray, List.set_cons_zero, List.set_cons_succ, i64_w, i32_w]
      rfl
    refine pure_ (i := 2) (N := some 15) (v := ?_) (a' := ?_) #[true, true, true, false, false, false, false, false, false, false, false, false, false, false, false, false] rfl rfl (by kernel_rfl) (fun _ _ _ h => h) (Or.inl ⟨by rfl, ?_⟩) ?_ ?_
    rotate_left
    · intro w'
      go_simp
      with_reducible rfl
    rotate_left
    · simp only [Act.put, List.setIfInBounds_toArray, List.set_cons_zero, List.set_cons_succ, i64_w, i32_w]
      rfl
    refine pure_ (i := 3) (N := some 16) (v := ?_) (a' := ?_) #[true, true, true, true, false, false, false, false, false, false, false, false, false, false, false, false] rfl rfl (by kernel_rfl) (fun _ _ _ h => h) (Or.inl ⟨by rfl, ?_⟩) ?_ ?_
    rotate_left
    · intro w'
      go_simp
      with_reducible rfl
    rotate_left
    · simp only [Act.put, List.setIfInBounds_toArray, List.set_cons_zero, List.set_cons_succ, i64_w, i32_w]
      rfl
    refine pure_ (i := 5) (N := some 18) (v := ?_) (a' := ?_) #[true, true, true, true, false, true, false, false, false, false, false, false, false, false, false, false] rfl rfl (by kernel_rfl) (fun _ _ _ h => h) (Or.inl ⟨by rfl, ?_⟩) ?_ ?_
    rotate_left
    · intro w'
      go_simp
      with_reducible rfl
    rotate_left
    · simp only [Act.put, List.setIfInBounds_toArray, List.set_cons_zero, List.set_cons_succ, i64_w, i32_w]
      rfl
    refine pure_ (i := 6) (N := some 19) (v := ?_) (a' := ?_) #[true, true, true, true, false, true, true, false, false, false, false, false, false, false, false, false] rfl rfl (by kernel_rfl) (fun _ _ _ h => h) (Or.inl ⟨by rfl, ?_⟩) ?_ ?_
    rotate_left
    · intro w'
      go_simp
      with_reducible rfl
    rotate_left
    · simp only [Act.put, List.setIfInBounds_toArray, List.set_cons_zero, List.set_cons_succ, i64_w, i32_w]
      rfl
    refine pure_ (i := 7) (N := some 20) (v := ?_) (a' := ?_) #[true, true, true, true, false, true, true, true, false, false, false, false, false, false, false, false] rfl rfl (by kernel_rfl) (fun _ _ _ h => h) (Or.inl ⟨by rfl, ?_⟩) ?_ ?_
    rotate_left
    · intro w'
      go_simp
      with_reducible rfl
    rotate_left
    · simp only [Act.put, List.setIfInBounds_toArray, List.set_cons_zero, List.set_cons_succ, i64_w, i32_w]
      rfl
    refine take_ (i := 4) (N := some 17) (v := ?_) (a' := ?_) #[true, true, true, true, true, true, true, true, false, false, false, false, false, false, false, false] rfl rfl (by kernel_rfl) (fun _ _ _ h => h) (Or.inl ⟨by rfl, ?_⟩) hHeld ?_ ?_
    rotate_left
    · rintro w' ⟨s0, s1, s2, s3⟩
      go_simp
      with_reducible rfl
    rotate_left
    · simp only [Act.put, List.setIfInBounds_toArray, List.set_cons_zero, List.set_cons_succ, i64_w, i32_w]
      rfl
    refine take_ (i := 8) (N := some 21) (v := ?_) (a' := ?_) #[true, true, true, true, true, true, true, true, true, false, false, false, false, false, false, false] rfl rfl (by kernel_rfl) (fun _ _ _ h => h) (Or.inl ⟨by rfl, ?_⟩) hHeld ?_ ?_
    rotate_left
    · rintro w' ⟨s0, s1, s2, s3⟩
      go_simp
      with_reducible rfl
    rotate_left
    · simp only [Act.put, List.setIfInBounds_toArray, List.set_cons_zero, List.set_cons_succ, i64_w, i32_w]
      rfl
    refine pure_ (i := 9) (N := some 22) (v := ?_) (a' := ?_) #[true, true, true, true, true, true, true, true, true, true, false, false, false, false, false, false] rfl rfl (by kernel_rfl) (fun _ _ _ h => h) (Or.inl ⟨by rfl, ?_⟩) ?_ ?_
    rotate_left
    · intro w'
      go_simp
      with_reducible rfl
    rotate_left
    · simp only [Act.put, List.setIfInBounds_toArray, List.set_cons_zero, List.set_cons_succ, i64_w, i32_w]
      rfl
    refine take_ (i := 10) (N := some 23) (v := ?_) (a' := ?_) #[true, true, true, true, true, true, true, true, true, true, true, false, false, false, false, false] rfl rfl (by kernel_rfl) (fun _ _ _ h => h) (Or.inl ⟨by rfl, ?_⟩) hHeld ?_ ?_
    rotate_left
    · rintro w' ⟨s0, s1, s2, s3⟩
      go_simp
      with_reducible rfl
    rotate_left
    · simp only [Act.put, List.setIfInBounds_toArray, List.set_cons_zero, List.set_cons_succ, i64_w, i32_w]
      rfl
    refine one_ (i := 11) (N := some 24) #[true, true, true, true, true, true, true, true, true, true, true, true, false, false, false, false] rfl rfl (by kernel_rfl) (by decide) (fun K hK => ?_)
    refine value_ (w1 := ?_) (v := ?_) (by rfl) rfl ?_ ?_
    rotate_left 2
    · go_simp
      constructor
      · rfl
      · rfl
    refine hK.out _ _ ⟨(cell_alloc_keep _ hHeld.1), (cell_alloc_keep _ hHeld.2.1), (cell_alloc_keep _ hHeld.2.2.1), (cell_alloc_keep _ hHeld.2.2.2)⟩ (fun hHeld => ?_)
    clear hK K
    refine norm_ (a' := ?_) ?_ ?_
    rotate_left
    · show Act.put _ (some 24) _ = _
      simp only [Act.put, List.setIfInBounds_toArray, List.set_cons_zero, List.set_cons_succ, i64_w, i32_w]
      rfl
    refine last_ (i := 12) (N := some 25) #[true, true, true, true, true, true, true, true, true, true, true, true, true, false, false, false] rfl rfl (by kernel_rfl) (by decide) (fun K hK => ?_)
    refine Kd.R_append_step k46 (w0 := World.drew w2) (W := World.drew w2) b (by rfl) (.tmp 17) (.tmp 24) 24 46 (.agg #[(.int .i64 0), (.int .i64 0)]) 16 rfl Tryz.underlying24 info46 rfl (by decide) (by omega) v o a [.int .i64 a.f0, .int .i64 a.f1] (fun _ => True) (fun _ => False) rfl rfl ?aP (fun _ hk => hk.elim) ?aF ?aO ?aB ?aS ?aL ?_
    case aP => exact k46_mkM _ _ _ a
    case aF => exact (fun _ _ => trivial)
    case aO => exact Kd.R_drew HO.out
    case aB => exact Below.refl _ _
    case aS => exact HS.out
    case aL => omega
    intro v1 w4 ho hb hg hat
    obtain ⟨A1, c1, e1, _, _⟩ := Kd.R_reads ho
    subst e1
    have hb1 := blk_grown (w := World.drew w2) H1.out hg HN.out
    have hcell : w4.cell? ⟨g, 1, none⟩ = some v := blk_cell hb1 1
    have hfr : w4.frozen? ⟨g, 1, none⟩ = false := blk_frozen hb1 1
    have HO1 := Aside0.mk ho
    have HB1 := Aside0.mk hb
    have HG1 := Aside0.mk hg
    have HA1 := Aside0.mk hat
    have H1b := Aside0.mk hb1
    clear ho hb hg hat hb1
    refine hK.out _ _ ?_
    clear hK K
    refine norm_ (a' := ?_) ?_ ?_
    rotate_left
    · show Act.put _ (some 25) _ = _
      simp only [Act.put, List.setIfInBounds_toArray, List.set_cons_zero, List.set_cons_succ, i64_w, i32_w]
      rfl
    refine pure_ (i := 13) (N := some 26) (v := ?_) (a' := ?_) #[true, true, true, true, true, true, true, true, true, true, true, true, true, true, false, false] rfl rfl (by kernel_rfl) (fun _ _ _ h => h) (Or.inl ⟨by rfl, ?_⟩) ?_ ?_
    rotate_left
    · intro w'
      go_simp
      with_reducible rfl
    rotate_left
    · simp only [Act.put, List.setIfInBounds_toArray, List.set_cons_zero, List.set_cons_succ, i64_w, i32_w]
      rfl
    refine pure_ (i := 14) (N := some 27) (v := ?_) (a' := ?_) #[true, true, true, true, true, true, true, true, true, true, true, true, true, true, true, false] rfl rfl (by kernel_rfl) (fun _ _ _ h => h) (Or.inl ⟨by rfl, ?_⟩) ?_ ?_
    rotate_left
    · intro w'
      go_simp
      with_reducible rfl
    rotate_left
    · simp only [Act.put, List.setIfInBounds_toArray, List.set_cons_zero, List.set_cons_succ, i64_w, i32_w]
      rfl
    refine last_ (i := 15) (N := none) #[true, true, true, true, true, true, true, true, true, true, true, true, true, true, true, true] rfl rfl (by kernel_rfl) (by decide) (fun K hK => ?_)
    refine skip_ (w1 := ?_) (by rfl) rfl ?_ ?_
    rotate_left
    · go_simp
      rfl
    refine hK.out _ _ ?_
    clear hK K
    refine done_ (by kernel_rfl) ?_
    clear hcell hfr hc0 hc1 e0 e1 hHeld
    have hbd : Below w2.heap.size w2 (World.drew w2) := (Below.refl _ _).drew
    obtain ⟨q1, q2⟩ := RS.stored (HR2.out.below hbd) HO1.out HB1.out HG1.out HA1.out
    have q3 := (HM2.out.trans (Mv.of_below (v := v) (g := g) hbd HS.out)).trans q1
    have e : o.length + 1 = (o ++ [a]).length := by simp
    rw [e]
    clear e q1 hbd HO1 HB1 HG1 HA1 H1b H1 HO
    generalize w4.setCell ⟨g, 1, none⟩ (.slice A1 (o ++ [a]).length c1) = w5 at q2 q3 ⊢
    have HM5 := Aside0.mk q3
    have HR5 := Aside0.mk q2
    obtain ⟨A5, c5, h1, h2, h3, h4, h5⟩ := q2
    have hc5 : w5.cell? ⟨g, 0, none⟩ = some (.slice A5 (l.length + 1) c5) := blk_cell h1 0
    have hfr5 := blk_frozen h1 0
    have H15 := Aside0.mk h1
    clear h1 h3 h4 q3
    go_wp2
    all_goals
      go_end0
      obtain ⟨r1, r2⟩ := RS.cut HR5.out H15.out
      have r3 := HM5.out.trans r1
      refine ⟨.slice A1 (o ++ [a]).length c1, ?_, rfl, ?_⟩
      · simpa [h, Addr.add] using r3
      · simpa [h, Addr.add] using r2
set_option maxRecDepth 100000 in
theorem factor_calls {R : Nat → ST → Rz} (h5 : Can R 5) (h3 : Can R 3) (f5 : Fine R 5) (f3 : Fine R 3) {b g : Nat} {v : Value} {w : World} {st : ST} (k : Nat) (res : Option ST) (hW : Wr b w) (h : RS b g v w st) (hl : st.2.length + st.1.length ≤ 100000) (hr : stepF R k 5 st = some res) :
    Calls Tryz.prog 88 #[.pointer (some ⟨g, 0, none⟩)] w (Post b g v w res) := by
  have HW := Aside0.mk hW
  have HR0 := Aside0.mk h
  have HM0 := Aside0.mk (Mv.refl (b := b) (g := g) (v := v) (w := w))
  have HW0 := HW
  have H5 := Aside0.mk h5
  have H3 := Aside0.mk h3
  obtain ⟨l, o⟩ := st
  cases l with
  | nil =>
    obtain rfl := Option.some.inj (show some none = some res from hr)
    have HS1 := Aside0.mk (show seesF 1 (([], o) : ST) = false from rfl)
    have HS2 := Aside0.mk (show seesF 2 (([], o) : ST) = false from rfl)
    have HS4 := Aside0.mk (show seesF 4 (([], o) : ST) = false from rfl)
    have HT17 := Aside0.mk (show takeF 17 (([], o) : ST) = some none from rfl)
    clear hW h hl hr h5 h3 f5 f3
    go_enter Tryz.func88, Tryz.ntmps88
    go_wp2_with (first | (go_at_call 65; (with_reducible refine (sees_calls 1 _ HR0.out HS1.out).mono ?_); rintro e w1 ⟨rfl, hb⟩; have HM1 := Aside0.mk (HM0.out.trans (Mv.of_below hb HR0.out.base)); have HR1 := Aside0.mk (HR0.out.below hb); have HW1 := Aside0.mk (HW.out.mv HM1.out); clear hb) | (go_at_call 65; (with_reducible refine (sees_calls 2 _ HR1.out HS2.out).mono ?_); rintro e w2 ⟨rfl, hb⟩; have HM2 := Aside0.mk (HM1.out.trans (Mv.of_below hb HR1.out.base)); have HR2 := Aside0.mk (HR1.out.below hb); have HW2 := Aside0.mk (HW.out.mv HM2.out); clear hb) | (go_at_call 65; (with_reducible refine (sees_calls 4 _ HR2.out HS4.out).mono ?_); rintro e w3 ⟨rfl, hb⟩; have HM3 := Aside0.mk (HM2.out.trans (Mv.of_below hb HR2.out.base)); have HR3 := Aside0.mk (HR2.out.below hb); have HW3 := Aside0.mk (HW.out.mv HM3.out); clear hb) | (go_at_call 38; (with_reducible refine (take_calls 17 HR3.out HW3.out none HT17.out).mono ?_); rintro e w4 ⟨v4, hm_, T, pv, rfl⟩; have HM4 := Aside0.mk (HM3.out.trans hm_); clear hm_))
    exact ⟨rfl, _, HM4.out, T, pv, rfl⟩
  | cons a l =>
    simp only [List.length_cons] at hl
    have hr : (if a.f0 = 1 ∨ a.f0 = 2 then some (some (l, o ++ [a])) else if a.f0 = 4 then bnd (R 5 (l, o)) (putF 19) else if a.f0 = 17 then bnd (R 3 (l, o)) (takeF 18) else some none) = some res := hr
    by_cases k1 : a.f0 = 1 ∨ a.f0 = 2
    · rw [if_pos k1] at hr
      obtain rfl := Option.some.inj hr
      exact factor_operand k1 hW h (by omega)
    · rw [if_neg k1] at hr
      have HS1 := Aside0.mk (show seesF 1 (a :: l, o) = false by simp [seesF]; omega)
      have HS2 := Aside0.mk (show seesF 2 (a :: l, o) = false by simp [seesF]; omega)
      have HL := Aside0.mk (show o.length + l.length ≤ 100000 by omega)
      clear k1
      by_cases k4 : a.f0 = 4
      · rw [if_pos k4] at hr
        have HS4 := Aside0.mk (show seesF 4 (a :: l, o) = true by simp [seesF, k4])
        have HT4 := Aside0.mk (show takeF 4 (a :: l, o) = some (some (l, o)) by simp [takeF, seesF, k4])
        clear k4
        cases ht : R 5 (l, o) with
        | none => rw [ht] at hr; cases hr
        | some r1 =>
          have HT := Aside0.mk ht
          rw [ht] at hr
          cases r1 with
          | none =>
            obtain rfl := Option.some.inj (show some none = some res from hr)
            clear hW h hl hr h5 h3 f5 f3 ht
            go_enter Tryz.func88, Tryz.ntmps88
            go_wp2_with (first | (go_at_call 65; (with_reducible refine (sees_calls 1 _ HR0.out HS1.out).mono ?_); rintro e w1 ⟨rfl, hb⟩; have HM1 := Aside0.mk (HM0.out.trans (Mv.of_below hb HR0.out.base)); have HR1 := Aside0.mk (HR0.out.below hb); have HW1 := Aside0.mk (HW.out.mv HM1.out); clear hb) | (go_at_call 65; (with_reducible refine (sees_calls 2 _ HR1.out HS2.out).mono ?_); rintro e w2 ⟨rfl, hb⟩; have HM2 := Aside0.mk (HM1.out.trans (Mv.of_below hb HR1.out.base)); have HR2 := Aside0.mk (HR1.out.below hb); have HW2 := Aside0.mk (HW.out.mv HM2.out); clear hb) | (go_at_call 65; (with_reducible refine (sees_calls 4 _ HR2.out HS4.out).mono ?_); rintro e w3 ⟨rfl, hb⟩; have HM3 := Aside0.mk (HM2.out.trans (Mv.of_below hb HR2.out.base)); have HR3 := Aside0.mk (HR2.out.below hb); have HW3 := Aside0.mk (HW.out.mv HM3.out); clear hb) | (go_at_call 38; (with_reducible refine (take_calls 4 HR3.out HW3.out (some (l, o)) HT4.out).mono ?_); rintro e w4 ⟨v4, hm_, rfl, hr_⟩; have HM4 := Aside0.mk (HM3.out.trans hm_); have HR4 := Aside0.mk hr_; have HW4 := Aside0.mk (HW.out.mv HM4.out); clear hm_ hr_) | (go_at_call 88; refine (H5.out _ _ _ _ _ _ HW4.out HR4.out HL.out HT.out).mono ?_; rintro e w5 ⟨v5, hm_, T, pv, rfl⟩; have HM5 := Aside0.mk (HM4.out.trans hm_); clear hm_))
            exact ⟨rfl, _, HM5.out, T, pv, rfl⟩
          | some s1 =>
            obtain rfl := Option.some.inj (show some (some (s1.1, s1.2 ++ [(⟨19, 0⟩ : S46)])) = some res from hr)
            have hf := f5 _ _ ht
            have HLp := Aside0.mk (show s1.2.length < 8796093022208 by dsimp only at hf; omega)
            clear hW h hl hr h5 h3 f5 f3 ht hf
            go_enter Tryz.func88, Tryz.ntmps88
            go_wp2_with (first | (go_at_call 65; (with_reducible refine (sees_calls 1 _ HR0.out HS1.out).mono ?_); rintro e w1 ⟨rfl, hb⟩; have HM1 := Aside0.mk (HM0.out.trans (Mv.of_below hb HR0.out.base)); have HR1 := Aside0.mk (HR0.out.below hb); have HW1 := Aside0.mk (HW.out.mv HM1.out); clear hb) | (go_at_call 65; (with_reducible refine (sees_calls 2 _ HR1.out HS2.out).mono ?_); rintro e w2 ⟨rfl, hb⟩; have HM2 := Aside0.mk (HM1.out.trans (Mv.of_below hb HR1.out.base)); have HR2 := Aside0.mk (HR1.out.below hb); have HW2 := Aside0.mk (HW.out.mv HM2.out); clear hb) | (go_at_call 65; (with_reducible refine (sees_calls 4 _ HR2.out HS4.out).mono ?_); rintro e w3 ⟨rfl, hb⟩; have HM3 := Aside0.mk (HM2.out.trans (Mv.of_below hb HR2.out.base)); have HR3 := Aside0.mk (HR2.out.below hb); have HW3 := Aside0.mk (HW.out.mv HM3.out); clear hb) | (go_at_call 38; (with_reducible refine (take_calls 4 HR3.out HW3.out (some (l, o)) HT4.out).mono ?_); rintro e w4 ⟨v4, hm_, rfl, hr_⟩; have HM4 := Aside0.mk (HM3.out.trans hm_); have HR4 := Aside0.mk hr_; have HW4 := Aside0.mk (HW.out.mv HM4.out); clear hm_ hr_) | (go_at_call 88; refine (H5.out _ _ _ _ _ _ HW4.out HR4.out HL.out HT.out).mono ?_; rintro e w5 ⟨v5, hm_, rfl, hr_⟩; have HM5 := Aside0.mk (HM4.out.trans hm_); have HR5 := Aside0.mk hr_; have HW5 := Aside0.mk (HW.out.mv HM5.out); clear hm_ hr_) | (go_at_call 39; (with_reducible refine (put_calls 19 HR5.out HLp.out).mono ?_); rintro e w6 ⟨v6, hm_, rfl, hr_⟩; have HM6 := Aside0.mk (HM5.out.trans hm_); have HR6 := Aside0.mk hr_; have HW6 := Aside0.mk (HW.out.mv HM6.out); clear hm_ hr_))
            go_end0
            exact ⟨_, HM6.out, rfl, HR6.out⟩
      · rw [if_neg k4] at hr
        have HS4 := Aside0.mk (show seesF 4 (a :: l, o) = false by simp [seesF]; omega)
        clear k4
        by_cases k17 : a.f0 = 17
        · rw [if_pos k17] at hr
          have HT17 := Aside0.mk (show takeF 17 (a :: l, o) = some (some (l, o)) by simp [takeF, seesF, k17])
          clear k17
          cases ht : R 3 (l, o) with
          | none => rw [ht] at hr; cases hr
          | some r1 =>
            have HT := Aside0.mk ht
            rw [ht] at hr
            cases r1 with
            | none =>
              obtain rfl := Option.some.inj (show some none = some res from hr)
              clear hW h hl hr h5 h3 f5 f3 ht
              go_enter Tryz.func88, Tryz.ntmps88
              go_wp2_with (first | (go_at_call 65; (with_reducible refine (sees_calls 1 _ HR0.out HS1.out).mono ?_); rintro e w1 ⟨rfl, hb⟩; have HM1 := Aside0.mk (HM0.out.trans (Mv.of_below hb HR0.out.base)); have HR1 := Aside0.mk (HR0.out.below hb); have HW1 := Aside0.mk (HW.out.mv HM1.out); clear hb) | (go_at_call 65; (with_reducible refine (sees_calls 2 _ HR1.out HS2.out).mono ?_); rintro e w2 ⟨rfl, hb⟩; have HM2 := Aside0.mk (HM1.out.trans (Mv.of_below hb HR1.out.base)); have HR2 := Aside0.mk (HR1.out.below hb); have HW2 := Aside0.mk (HW.out.mv HM2.out); clear hb) | (go_at_call 65; (with_reducible refine (sees_calls 4 _ HR2.out HS4.out).mono ?_); rintro e w3 ⟨rfl, hb⟩; have HM3 := Aside0.mk (HM2.out.trans (Mv.of_below hb HR2.out.base)); have HR3 := Aside0.mk (HR2.out.below hb); have HW3 := Aside0.mk (HW.out.mv HM3.out); clear hb) | (go_at_call 38; (with_reducible refine (take_calls 17 HR3.out HW3.out (some (l, o)) HT17.out).mono ?_); rintro e w4 ⟨v4, hm_, rfl, hr_⟩; have HM4 := Aside0.mk (HM3.out.trans hm_); have HR4 := Aside0.mk hr_; have HW4 := Aside0.mk (HW.out.mv HM4.out); clear hm_ hr_) | (go_at_call 66; refine (H3.out _ _ _ _ _ _ HW4.out HR4.out HL.out HT.out).mono ?_; rintro e w5 ⟨v5, hm_, T, pv, rfl⟩; have HM5 := Aside0.mk (HM4.out.trans hm_); clear hm_))
              exact ⟨rfl, _, HM5.out, T, pv, rfl⟩
            | some s1 =>
              have hr : takeF 18 s1 = some res := hr
              cases res with
              | none =>
                have HT18 := Aside0.mk hr
                clear hW h hl hr h5 h3 f5 f3 ht
                go_enter Tryz.func88, Tryz.ntmps88
                go_wp2_with (first | (go_at_call 65; (with_reducible refine (sees_calls 1 _ HR0.out HS1.out).mono ?_); rintro e w1 ⟨rfl, hb⟩; have HM1 := Aside0.mk (HM0.out.trans (Mv.of_below hb HR0.out.base)); have HR1 := Aside0.mk (HR0.out.below hb); have HW1 := Aside0.mk (HW.out.mv HM1.out); clear hb) | (go_at_call 65; (with_reducible refine (sees_calls 2 _ HR1.out HS2.out).mono ?_); rintro e w2 ⟨rfl, hb⟩; have HM2 := Aside0.mk (HM1.out.trans (Mv.of_below hb HR1.out.base)); have HR2 := Aside0.mk (HR1.out.below hb); have HW2 := Aside0.mk (HW.out.mv HM2.out); clear hb) | (go_at_call 65; (with_reducible refine (sees_calls 4 _ HR2.out HS4.out).mono ?_); rintro e w3 ⟨rfl, hb⟩; have HM3 := Aside0.mk (HM2.out.trans (Mv.of_below hb HR2.out.base)); have HR3 := Aside0.mk (HR2.out.below hb); have HW3 := Aside0.mk (HW.out.mv HM3.out); clear hb) | (go_at_call 38; (with_reducible refine (take_calls 17 HR3.out HW3.out (some (l, o)) HT17.out).mono ?_); rintro e w4 ⟨v4, hm_, rfl, hr_⟩; have HM4 := Aside0.mk (HM3.out.trans hm_); have HR4 := Aside0.mk hr_; have HW4 := Aside0.mk (HW.out.mv HM4.out); clear hm_ hr_) | (go_at_call 66; refine (H3.out _ _ _ _ _ _ HW4.out HR4.out HL.out HT.out).mono ?_; rintro e w5 ⟨v5, hm_, rfl, hr_⟩; have HM5 := Aside0.mk (HM4.out.trans hm_); have HR5 := Aside0.mk hr_; have HW5 := Aside0.mk (HW.out.mv HM5.out); clear hm_ hr_) | (go_at_call 38; (with_reducible refine (take_calls 18 HR5.out HW5.out none HT18.out).mono ?_); rintro e w6 ⟨v6, hm_, T, pv, rfl⟩; have HM6 := Aside0.mk (HM5.out.trans hm_); clear hm_))
                exact ⟨rfl, _, HM6.out, T, pv, rfl⟩
              | some s2 =>
                have HT18 := Aside0.mk hr
                clear hW h hl hr h5 h3 f5 f3 ht
                go_enter Tryz.func88, Tryz.ntmps88
                go_wp2_with (first | (go_at_call 65; (with_reducible refine (sees_calls 1 _ HR0.out HS1.out).mono ?_); rintro e w1 ⟨rfl, hb⟩; have HM1 := Aside0.mk (HM0.out.trans (Mv.of_below hb HR0.out.base)); have HR1 := Aside0.mk (HR0.out.below hb); have HW1 := Aside0.mk (HW.out.mv HM1.out); clear hb) | (go_at_call 65; (with_reducible refine (sees_calls 2 _ HR1.out HS2.out).mono ?_); rintro e w2 ⟨rfl, hb⟩; have HM2 := Aside0.mk (HM1.out.trans (Mv.of_below hb HR1.out.base)); have HR2 := Aside0.mk (HR1.out.below hb); have HW2 := Aside0.mk (HW.out.mv HM2.out); clear hb) | (go_at_call 65; (with_reducible refine (sees_calls 4 _ HR2.out HS4.out).mono ?_); rintro e w3 ⟨rfl, hb⟩; have HM3 := Aside0.mk (HM2.out.trans (Mv.of_below hb HR2.out.base)); have HR3 := Aside0.mk (HR2.out.below hb); have HW3 := Aside0.mk (HW.out.mv HM3.out); clear hb) | (go_at_call 38; (with_reducible refine (take_calls 17 HR3.out HW3.out (some (l, o)) HT17.out).mono ?_); rintro e w4 ⟨v4, hm_, rfl, hr_⟩; have HM4 := Aside0.mk (HM3.out.trans hm_); have HR4 := Aside0.mk hr_; have HW4 := Aside0.mk (HW.out.mv HM4.out); clear hm_ hr_) | (go_at_call 66; refine (H3.out _ _ _ _ _ _ HW4.out HR4.out HL.out HT.out).mono ?_; rintro e w5 ⟨v5, hm_, rfl, hr_⟩; have HM5 := Aside0.mk (HM4.out.trans hm_); have HR5 := Aside0.mk hr_; have HW5 := Aside0.mk (HW.out.mv HM5.out); clear hm_ hr_) | (go_at_call 38; (with_reducible refine (take_calls 18 HR5.out HW5.out (some s2) HT18.out).mono ?_); rintro e w6 ⟨v6, hm_, rfl, hr_⟩; have HM6 := Aside0.mk (HM5.out.trans hm_); have HR6 := Aside0.mk hr_; have HW6 := Aside0.mk (HW.out.mv HM6.out); clear hm_ hr_))
                go_end0
                exact ⟨_, HM6.out, rfl, HR6.out⟩
        · rw [if_neg k17] at hr
          have HT17 := Aside0.mk (show takeF 17 (a :: l, o) = some none by simp [takeF, seesF, k17])
          obtain rfl := Option.some.inj hr
          clear hW h hl hr h5 h3 f5 f3 k17
          go_enter Tryz.func88, Tryz.ntmps88
          go_wp2_with (first | (go_at_call 65; (with_reducible refine (sees_calls 1 _ HR0.out HS1.out).mono ?_); rintro e w1 ⟨rfl, hb⟩; have HM1 := Aside0.mk (HM0.out.trans (Mv.of_below hb HR0.out.base)); have HR1 := Aside0.mk (HR0.out.below hb); have HW1 := Aside0.mk (HW.out.mv HM1.out); clear hb) | (go_at_call 65; (with_reducible refine (sees_calls 2 _ HR1.out HS2.out).mono ?_); rintro e w2 ⟨rfl, hb⟩; have HM2 := Aside0.mk (HM1.out.trans (Mv.of_below hb HR1.out.base)); have HR2 := Aside0.mk (HR1.out.below hb); have HW2 := Aside0.mk (HW.out.mv HM2.out); clear hb) | (go_at_call 65; (with_reducible refine (sees_calls 4 _ HR2.out HS4.out).mono ?_); rintro e w3 ⟨rfl, hb⟩; have HM3 := Aside0.mk (HM2.out.trans (Mv.of_below hb HR2.out.base)); have HR3 := Aside0.mk (HR2.out.below hb); have HW3 := Aside0.mk (HW.out.mv HM3.out); clear hb) | (go_at_call 38; (with_reducible refine (take_calls 17 HR3.out HW3.out none HT17.out).mono ?_); rintro e w4 ⟨v4, hm_, T, pv, rfl⟩; have HM4 := Aside0.mk (HM3.out.trans hm_); clear hm_))
          exact ⟨rfl, _, HM4.out, T, pv, rfl⟩
theorem RS.head {b g : Nat} {v : Value} {w : World} {a : S46} {l o : List S46} (h : RS b g v w (a :: l, o)) : ∃ ad c, w.cell? ⟨g, 0, none⟩ = some (.slice (some ad) (l.length + 1) c) ∧ w.cell? ad = some (.int .i64 a.f0) := by
  obtain ⟨A0, c0, h1, h2, h3, h4, h5⟩ := h
  have hC0 := h3 w (KeepBut.refl _ _ _)
  obtain ⟨ad, rfl, e0, e1⟩ := at_T46 hC0 0 (by omega) (by simp)
  exact ⟨ad, c0, blk_cell h1 0, by simpa [Addr.add, rd_T46] using e0⟩
theorem cmpF (x : Int) {r : Bool} (h : decide (6 ≤ x ∧ x ≤ 11) = r) : guard_compares.f x = some r := by
  subst h
  unfold guard_compares.f
  by_cases h : x ≥ 6
  · rw [if_pos h]; congr 1; rw [decide_eq_decide]; omega
  · rw [if_neg h]; congr 1; symm; rw [decide_eq_false_iff_not]; omega
set_option maxRecDepth 100000 in
theorem one_calls {R : Nat → ST → Rz} (h2 : Can R 2) (h0 : Can R 0) (h3 : Can R 3) (f2 : Fine R 2) (f0 : Fine R 0) (f3 : Fine R 3) {b g : Nat} {v : Value} {w : World} {st : ST} (k : Nat) (res : Option ST) (hW : Wr b w) (h : RS b g v w st) (hl : st.2.length + st.1.length ≤ 100000) (hr : stepF R k 2 st = some res) :
    Calls Tryz.prog 40 #[.pointer (some ⟨g, 0, none⟩)] w (Post b g v w res) := by
  have HW := Aside0.mk hW
  have HR0 := Aside0.mk h
  have HM0 := Aside0.mk (Mv.refl (b := b) (g := g) (v := v) (w := w))
  have HW0 := HW
  have H2 := Aside0.mk h2
  have H0 := Aside0.mk h0
  have H3 := Aside0.mk h3
  have hr : (if seesF 14 st = true then bnd (R 2 (st.1.tail, st.2)) (putF 14)
      else if seesF 15 st = true then bnd (R 0 (st.1.tail, st.2)) (takeF 16)
      else bnd (R 3 st) fun s => match s.1 with
        | [] => some none
        | a :: r => if decide (6 ≤ a.f0 ∧ a.f0 ≤ 11) = true then bnd (R 3 (r, s.2)) (putF a.f0) else some none) = some res := hr
  cases k14 : seesF 14 st
  · rw [if_neg (by rw [k14]; decide)] at hr
    have HS14 := Aside0.mk k14
    cases k15 : seesF 15 st
    · rw [if_neg (by rw [k15]; decide)] at hr
      have HS15 := Aside0.mk k15
      have HL := Aside0.mk hl
      cases ht : R 3 st with
      | none => rw [ht] at hr; cases hr
      | some r1 =>
        have HT := Aside0.mk ht
        rw [ht] at hr
        cases r1 with
        | none =>
          obtain rfl := Option.some.inj (show some none = some res from hr)
          clear hW h hl hr h2 h0 h3 f2 f0 f3 ht k14 k15
          go_enter Tryz.func40, Tryz.ntmps40
          go_wp2_with (first | (go_at_call 65; (with_reducible refine (sees_calls 14 _ HR0.out HS14.out).mono ?_); rintro e w1 ⟨rfl, hb⟩; have HM1 := Aside0.mk (HM0.out.trans (Mv.of_below hb HR0.out.base)); have HR1 := Aside0.mk (HR0.out.below hb); have HW1 := Aside0.mk (HW.out.mv HM1.out); clear hb) | (go_at_call 65; (with_reducible refine (sees_calls 15 _ HR1.out HS15.out).mono ?_); rintro e w2 ⟨rfl, hb⟩; have HM2 := Aside0.mk (HM1.out.trans (Mv.of_below hb HR1.out.base)); have HR2 := Aside0.mk (HR1.out.below hb); have HW2 := Aside0.mk (HW.out.mv HM2.out); clear hb) | (go_at_call 66; refine (H3.out _ _ _ _ _ _ HW2.out HR2.out HL.out HT.out).mono ?_; rintro e w3 ⟨v3, hm_, T, pv, rfl⟩; have HM3 := Aside0.mk (HM2.out.trans hm_); clear hm_))
          exact ⟨rfl, _, HM3.out, T, pv, rfl⟩
        | some s1 =>
          obtain ⟨l1, o1⟩ := s1
          have hf := f3 _ _ ht
          dsimp only at hf
          cases l1 with
          | nil =>
            obtain rfl := Option.some.inj (show some none = some res from hr)
            clear hW h hl hr h2 h0 h3 f2 f0 f3 ht k14 k15 hf
            go_enter Tryz.func40, Tryz.ntmps40
            go_wp2_with (first | (go_at_call 65; (with_reducible refine (sees_calls 14 _ HR0.out HS14.out).mono ?_); rintro e w1 ⟨rfl, hb⟩; have HM1 := Aside0.mk (HM0.out.trans (Mv.of_below hb HR0.out.base)); have HR1 := Aside0.mk (HR0.out.below hb); have HW1 := Aside0.mk (HW.out.mv HM1.out); clear hb) | (go_at_call 65; (with_reducible refine (sees_calls 15 _ HR1.out HS15.out).mono ?_); rintro e w2 ⟨rfl, hb⟩; have HM2 := Aside0.mk (HM1.out.trans (Mv.of_below hb HR1.out.base)); have HR2 := Aside0.mk (HR1.out.below hb); have HW2 := Aside0.mk (HW.out.mv HM2.out); clear hb) | (go_at_call 66; refine (H3.out _ _ _ _ _ _ HW2.out HR2.out HL.out HT.out).mono ?_; rintro e w3 ⟨v3, hm_, rfl, hr_⟩; have HM3 := Aside0.mk (HM2.out.trans hm_); have HR3 := Aside0.mk hr_; have HW3 := Aside0.mk (HW.out.mv HM3.out); obtain ⟨A3, c3, q1, _, _, _, _⟩ := hr_; have hc3 : w3.cell? ⟨g, 0, none⟩ = some (.slice A3 0 c3) := blk_cell q1 0; obtain ⟨T, pv, hwr, _⟩ := HW3.out; clear hm_ q1))
            exact ⟨rfl, _, HM3.out, T, pv, rfl⟩
          | cons a l1 =>
            simp only [List.length_cons] at hf
            have hr : (if decide (6 ≤ a.f0 ∧ a.f0 ≤ 11) = true then bnd (R 3 (l1, o1)) (putF a.f0) else some none) = some res := hr
            cases kc : decide (6 ≤ a.f0 ∧ a.f0 ≤ 11)
            · rw [if_neg (by rw [kc]; decide)] at hr
              obtain rfl := Option.some.inj hr
              have HCM := Aside0.mk (cmpF a.f0 kc)
              clear hW h hl hr h2 h0 h3 f2 f0 f3 ht k14 k15 hf kc
              go_enter Tryz.func40, Tryz.ntmps40
              go_wp2_with (first | (go_at_call 65; (with_reducible refine (sees_calls 14 _ HR0.out HS14.out).mono ?_); rintro e w1 ⟨rfl, hb⟩; have HM1 := Aside0.mk (HM0.out.trans (Mv.of_below hb HR0.out.base)); have HR1 := Aside0.mk (HR0.out.below hb); have HW1 := Aside0.mk (HW.out.mv HM1.out); clear hb) | (go_at_call 65; (with_reducible refine (sees_calls 15 _ HR1.out HS15.out).mono ?_); rintro e w2 ⟨rfl, hb⟩; have HM2 := Aside0.mk (HM1.out.trans (Mv.of_below hb HR1.out.base)); have HR2 := Aside0.mk (HR1.out.below hb); have HW2 := Aside0.mk (HW.out.mv HM2.out); clear hb) | (go_at_call 66; refine (H3.out _ _ _ _ _ _ HW2.out HR2.out HL.out HT.out).mono ?_; rintro e w3 ⟨v3, hm_, rfl, hr_⟩; have HM3 := Aside0.mk (HM2.out.trans hm_); have HR3 := Aside0.mk hr_; have HW3 := Aside0.mk (HW.out.mv HM3.out); obtain ⟨ad3, c3, hc3, e3⟩ := RS.head hr_; clear hm_ hr_) | (go_at_call 53; refine (guard_compares.calls _ _ _ HCM.out).mono ?_; rintro e w4 ⟨rfl, hd⟩; have hb3 := hd.below; have HR4 := Aside0.mk (HR3.out.below hb3); have HM4 := Aside0.mk (HM3.out.trans (Mv.of_below hb3 HR3.out.base)); have HW4 := Aside0.mk (HW.out.mv HM4.out); obtain ⟨T, pv, hwr, _⟩ := HW4.out; clear hd hb3))
              exact ⟨rfl, _, HM4.out, T, pv, rfl⟩
            · rw [if_pos kc] at hr
              have HCM := Aside0.mk (cmpF a.f0 kc)
              have HL2 := Aside0.mk (show o1.length + l1.length ≤ 100000 by omega)
              have HTK := Aside0.mk (show takeF a.f0 (a :: l1, o1) = some (some (l1, o1)) by simp [takeF, seesF])
              cases ht2 : R 3 (l1, o1) with
              | none => rw [ht2] at hr; cases hr
              | some r2 =>
                have HT2 := Aside0.mk ht2
                rw [ht2] at hr
                cases r2 with
                | none =>
                  obtain rfl := Option.some.inj (show some none = some res from hr)
                  clear hW h hl hr h2 h0 h3 f2 f0 f3 ht k14 k15 hf kc ht2
                  go_enter Tryz.func40, Tryz.ntmps40
                  go_wp2_with (first | (go_at_call 65; (with_reducible refine (sees_calls 14 _ HR0.out HS14.out).mono ?_); rintro e w1 ⟨rfl, hb⟩; have HM1 := Aside0.mk (HM0.out.trans (Mv.of_below hb HR0.out.base)); have HR1 := Aside0.mk (HR0.out.below hb); have HW1 := Aside0.mk (HW.out.mv HM1.out); clear hb) | (go_at_call 65; (with_reducible refine (sees_calls 15 _ HR1.out HS15.out).mono ?_); rintro e w2 ⟨rfl, hb⟩; have HM2 := Aside0.mk (HM1.out.trans (Mv.of_below hb HR1.out.base)); have HR2 := Aside0.mk (HR1.out.below hb); have HW2 := Aside0.mk (HW.out.mv HM2.out); clear hb) | (go_at_call 66; refine (H3.out _ _ _ _ _ _ HW2.out HR2.out HL.out HT.out).mono ?_; rintro e w3 ⟨v3, hm_, rfl, hr_⟩; have HM3 := Aside0.mk (HM2.out.trans hm_); have HR3 := Aside0.mk hr_; have HW3 := Aside0.mk (HW.out.mv HM3.out); obtain ⟨ad3, c3, hc3, e3⟩ := RS.head hr_; clear hm_ hr_) | (go_at_call 53; refine (guard_compares.calls _ _ _ HCM.out).mono ?_; rintro e w4 ⟨rfl, hd⟩; have hb3 := hd.below; have hc4 : w4.cell? ⟨g, 0, none⟩ = some (.slice (some ad3) (l1.length + 1) c3) := (hb3.cell (p := ⟨g, 0, none⟩) HR3.out.lt).trans hc3; have e4 : w4.cell? ad3 = some (.int .i64 a.f0) := (hb3.cell (World.block_lt_of_cell? w3 _ e3)).trans e3; have HR4 := Aside0.mk (HR3.out.below hb3); have HM4 := Aside0.mk (HM3.out.trans (Mv.of_below hb3 HR3.out.base)); have HW4 := Aside0.mk (HW.out.mv HM4.out); clear hd hb3) | (go_at_call 38; (with_reducible refine (take_calls a.f0 HR4.out HW4.out (some (l1, o1)) HTK.out).mono ?_); rintro e w5 ⟨v5, hm_, rfl, hr_⟩; have HM5 := Aside0.mk (HM4.out.trans hm_); have HR5 := Aside0.mk hr_; have HW5 := Aside0.mk (HW.out.mv HM5.out); clear hm_ hr_) | (go_at_call 66; refine (H3.out _ _ _ _ _ _ HW5.out HR5.out HL2.out HT2.out).mono ?_; rintro e w6 ⟨v6, hm_, T, pv, rfl⟩; have HM6 := Aside0.mk (HM5.out.trans hm_); clear hm_))
                  exact ⟨rfl, _, HM6.out, T, pv, rfl⟩
                | some s2 =>
                  obtain rfl := Option.some.inj (show some (some (s2.1, s2.2 ++ [(⟨a.f0, 0⟩ : S46)])) = some res from hr)
                  have hf2 := f3 _ _ ht2
                  have HLp := Aside0.mk (show s2.2.length < 8796093022208 by dsimp only at hf2; omega)
                  clear hW h hl hr h2 h0 h3 f2 f0 f3 ht k14 k15 hf kc ht2 hf2
                  go_enter Tryz.func40, Tryz.ntmps40
                  go_wp2_with (first | (go_at_call 65; (with_reducible refine (sees_calls 14 _ HR0.out HS14.out).mono ?_); rintro e w1 ⟨rfl, hb⟩; have HM1 := Aside0.mk (HM0.out.trans (Mv.of_below hb HR0.out.base)); have HR1 := Aside0.mk (HR0.out.below hb); have HW1 := Aside0.mk (HW.out.mv HM1.out); clear hb) | (go_at_call 65; (with_reducible refine (sees_calls 15 _ HR1.out HS15.out).mono ?_); rintro e w2 ⟨rfl, hb⟩; have HM2 := Aside0.mk (HM1.out.trans (Mv.of_below hb HR1.out.base)); have HR2 := Aside0.mk (HR1.out.below hb); have HW2 := Aside0.mk (HW.out.mv HM2.out); clear hb) | (go_at_call 66; refine (H3.out _ _ _ _ _ _ HW2.out HR2.out HL.out HT.out).mono ?_; rintro e w3 ⟨v3, hm_, rfl, hr_⟩; have HM3 := Aside0.mk (HM2.out.trans hm_); have HR3 := Aside0.mk hr_; have HW3 := Aside0.mk (HW.out.mv HM3.out); obtain ⟨ad3, c3, hc3, e3⟩ := RS.head hr_; clear hm_ hr_) | (go_at_call 53; refine (guard_compares.calls _ _ _ HCM.out).mono ?_; rintro e w4 ⟨rfl, hd⟩; have hb3 := hd.below; have hc4 : w4.cell? ⟨g, 0, none⟩ = some (.slice (some ad3) (l1.length + 1) c3) := (hb3.cell (p := ⟨g, 0, none⟩) HR3.out.lt).trans hc3; have e4 : w4.cell? ad3 = some (.int .i64 a.f0) := (hb3.cell (World.block_lt_of_cell? w3 _ e3)).trans e3; have HR4 := Aside0.mk (HR3.out.below hb3); have HM4 := Aside0.mk (HM3.out.trans (Mv.of_below hb3 HR3.out.base)); have HW4 := Aside0.mk (HW.out.mv HM4.out); clear hd hb3) | (go_at_call 38; (with_reducible refine (take_calls a.f0 HR4.out HW4.out (some (l1, o1)) HTK.out).mono ?_); rintro e w5 ⟨v5, hm_, rfl, hr_⟩; have HM5 := Aside0.mk (HM4.out.trans hm_); have HR5 := Aside0.mk hr_; have HW5 := Aside0.mk (HW.out.mv HM5.out); clear hm_ hr_) | (go_at_call 66; refine (H3.out _ _ _ _ _ _ HW5.out HR5.out HL2.out HT2.out).mono ?_; rintro e w6 ⟨v6, hm_, rfl, hr_⟩; have HM6 := Aside0.mk (HM5.out.trans hm_); have HR6 := Aside0.mk hr_; have HW6 := Aside0.mk (HW.out.mv HM6.out); clear hm_ hr_) | (go_at_call 39; (with_reducible refine (put_calls a.f0 HR6.out HLp.out).mono ?_); rintro e w7 ⟨v7, hm_, rfl, hr_⟩; have HM7 := Aside0.mk (HM6.out.trans hm_); have HR7 := Aside0.mk hr_; have HW7 := Aside0.mk (HW.out.mv HM7.out); clear hm_ hr_))
                  go_end0
                  exact ⟨_, HM7.out, rfl, HR7.out⟩
    · rw [if_pos k15] at hr
      have HS15 := Aside0.mk k15
      obtain ⟨l, o⟩ := st
      cases l with
      | nil => cases k15
      | cons a l =>
        dsimp only [List.tail_cons] at hr
        simp only [List.length_cons] at hl
        have HTK := Aside0.mk (show takeF 15 (a :: l, o) = some (some (l, o)) by unfold takeF; rw [if_pos k15]; rfl)
        have HL := Aside0.mk (show o.length + l.length ≤ 100000 by omega)
        cases ht : R 0 (l, o) with
        | none => rw [ht] at hr; cases hr
        | some r1 =>
          have HT := Aside0.mk ht
          rw [ht] at hr
          cases r1 with
          | none =>
            obtain rfl := Option.some.inj (show some none = some res from hr)
            clear hW h hl hr h2 h0 h3 f2 f0 f3 ht k14 k15
            go_enter Tryz.func40, Tryz.ntmps40
            go_wp2_with (first | (go_at_call 65; (with_reducible refine (sees_calls 14 _ HR0.out HS14.out).mono ?_); rintro e w1 ⟨rfl, hb⟩; have HM1 := Aside0.mk (HM0.out.trans (Mv.of_below hb HR0.out.base)); have HR1 := Aside0.mk (HR0.out.below hb); have HW1 := Aside0.mk (HW.out.mv HM1.out); clear hb) | (go_at_call 65; (with_reducible refine (sees_calls 15 _ HR1.out HS15.out).mono ?_); rintro e w2 ⟨rfl, hb⟩; have HM2 := Aside0.mk (HM1.out.trans (Mv.of_below hb HR1.out.base)); have HR2 := Aside0.mk (HR1.out.below hb); have HW2 := Aside0.mk (HW.out.mv HM2.out); clear hb) | (go_at_call 38; (with_reducible refine (take_calls 15 HR2.out HW2.out (some (l, o)) HTK.out).mono ?_); rintro e w3 ⟨v3, hm_, rfl, hr_⟩; have HM3 := Aside0.mk (HM2.out.trans hm_); have HR3 := Aside0.mk hr_; have HW3 := Aside0.mk (HW.out.mv HM3.out); clear hm_ hr_) | (go_at_call 10; refine (H0.out _ _ _ _ _ _ HW3.out HR3.out HL.out HT.out).mono ?_; rintro e w4 ⟨v4, hm_, T, pv, rfl⟩; have HM4 := Aside0.mk (HM3.out.trans hm_); clear hm_))
            exact ⟨rfl, _, HM4.out, T, pv, rfl⟩
          | some s1 =>
            have hr : takeF 16 s1 = some res := hr
            cases res with
            | none =>
              have HT16 := Aside0.mk hr
              clear hW h hl hr h2 h0 h3 f2 f0 f3 ht k14 k15
              go_enter Tryz.func40, Tryz.ntmps40
              go_wp2_with (first | (go_at_call 65; (with_reducible refine (sees_calls 14 _ HR0.out HS14.out).mono ?_); rintro e w1 ⟨rfl, hb⟩; have HM1 := Aside0.mk (HM0.out.trans (Mv.of_below hb HR0.out.base)); have HR1 := Aside0.mk (HR0.out.below hb); have HW1 := Aside0.mk (HW.out.mv HM1.out); clear hb) | (go_at_call 65; (with_reducible refine (sees_calls 15 _ HR1.out HS15.out).mono ?_); rintro e w2 ⟨rfl, hb⟩; have HM2 := Aside0.mk (HM1.out.trans (Mv.of_below hb HR1.out.base)); have HR2 := Aside0.mk (HR1.out.below hb); have HW2 := Aside0.mk (HW.out.mv HM2.out); clear hb) | (go_at_call 38; (with_reducible refine (take_calls 15 HR2.out HW2.out (some (l, o)) HTK.out).mono ?_); rintro e w3 ⟨v3, hm_, rfl, hr_⟩; have HM3 := Aside0.mk (HM2.out.trans hm_); have HR3 := Aside0.mk hr_; have HW3 := Aside0.mk (HW.out.mv HM3.out); clear hm_ hr_) | (go_at_call 10; refine (H0.out _ _ _ _ _ _ HW3.out HR3.out HL.out HT.out).mono ?_; rintro e w4 ⟨v4, hm_, rfl, hr_⟩; have HM4 := Aside0.mk (HM3.out.trans hm_); have HR4 := Aside0.mk hr_; have HW4 := Aside0.mk (HW.out.mv HM4.out); clear hm_ hr_) | (go_at_call 38; (with_reducible refine (take_calls 16 HR4.out HW4.out none HT16.out).mono ?_); rintro e w5 ⟨v5, hm_, T, pv, rfl⟩; have HM5 := Aside0.mk (HM4.out.trans hm_); clear hm_))
              exact ⟨rfl, _, HM5.out, T, pv, rfl⟩
            | some s2 =>
              have HT16 := Aside0.mk hr
              clear hW h hl hr h2 h0 h3 f2 f0 f3 ht k14 k15
              go_enter Tryz.func40, Tryz.ntmps40
              go_wp2_with (first | (go_at_call 65; (with_reducible refine (sees_calls 14 _ HR0.out HS14.out).mono ?_); rintro e w1 ⟨rfl, hb⟩; have HM1 := Aside0.mk (HM0.out.trans (Mv.of_below hb HR0.out.base)); have HR1 := Aside0.mk (HR0.out.below hb); have HW1 := Aside0.mk (HW.out.mv HM1.out); clear hb) | (go_at_call 65; (with_reducible refine (sees_calls 15 _ HR1.out HS15.out).mono ?_); rintro e w2 ⟨rfl, hb⟩; have HM2 := Aside0.mk (HM1.out.trans (Mv.of_below hb HR1.out.base)); have HR2 := Aside0.mk (HR1.out.below hb); have HW2 := Aside0.mk (HW.out.mv HM2.out); clear hb) | (go_at_call 38; (with_reducible refine (take_calls 15 HR2.out HW2.out (some (l, o)) HTK.out).mono ?_); rintro e w3 ⟨v3, hm_, rfl, hr_⟩; have HM3 := Aside0.mk (HM2.out.trans hm_); have HR3 := Aside0.mk hr_; have HW3 := Aside0.mk (HW.out.mv HM3.out); clear hm_ hr_) | (go_at_call 10; refine (H0.out _ _ _ _ _ _ HW3.out HR3.out HL.out HT.out).mono ?_; rintro e w4 ⟨v4, hm_, rfl, hr_⟩; have HM4 := Aside0.mk (HM3.out.trans hm_); have HR4 := Aside0.mk hr_; have HW4 := Aside0.mk (HW.out.mv HM4.out); clear hm_ hr_) | (go_at_call 38; (with_reducible refine (take_calls 16 HR4.out HW4.out (some s2) HT16.out).mono ?_); rintro e w5 ⟨v5, hm_, rfl, hr_⟩; have HM5 := Aside0.mk (HM4.out.trans hm_); have HR5 := Aside0.mk hr_; have HW5 := Aside0.mk (HW.out.mv HM5.out); clear hm_ hr_))
              go_end0
              exact ⟨_, HM5.out, rfl, HR5.out⟩
  · rw [if_pos k14] at hr
    have HS14 := Aside0.mk k14
    obtain ⟨l, o⟩ := st
    cases l with
    | nil => cases k14
    | cons a l =>
      dsimp only [List.tail_cons] at hr
      simp only [List.length_cons] at hl
      have HTK := Aside0.mk (show takeF 14 (a :: l, o) = some (some (l, o)) by unfold takeF; rw [if_pos k14]; rfl)
      have HL := Aside0.mk (show o.length + l.length ≤ 100000 by omega)
      cases ht : R 2 (l, o) with
      | none => rw [ht] at hr; cases hr
      | some r1 =>
        have HT := Aside0.mk ht
        rw [ht] at hr
        cases r1 with
        | none =>
          obtain rfl := Option.some.inj (show some none = some res from hr)
          clear hW h hl hr h2 h0 h3 f2 f0 f3 ht k14
          go_enter Tryz.func40, Tryz.ntmps40
          go_wp2_with (first | (go_at_call 65; (with_reducible refine (sees_calls 14 _ HR0.out HS14.out).mono ?_); rintro e w1 ⟨rfl, hb⟩; have HM1 := Aside0.mk (HM0.out.trans (Mv.of_below hb HR0.out.base)); have HR1 := Aside0.mk (HR0.out.below hb); have HW1 := Aside0.mk (HW.out.mv HM1.out); clear hb) | (go_at_call 38; (with_reducible refine (take_calls 14 HR1.out HW1.out (some (l, o)) HTK.out).mono ?_); rintro e w2 ⟨v2, hm_, rfl, hr_⟩; have HM2 := Aside0.mk (HM1.out.trans hm_); have HR2 := Aside0.mk hr_; have HW2 := Aside0.mk (HW.out.mv HM2.out); clear hm_ hr_) | (go_at_call 40; refine (H2.out _ _ _ _ _ _ HW2.out HR2.out HL.out HT.out).mono ?_; rintro e w3 ⟨v3, hm_, T, pv, rfl⟩; have HM3 := Aside0.mk (HM2.out.trans hm_); clear hm_))
          exact ⟨rfl, _, HM3.out, T, pv, rfl⟩
        | some s1 =>
          obtain rfl := Option.some.inj (show some (some (s1.1, s1.2 ++ [(⟨14, 0⟩ : S46)])) = some res from hr)
          have hf := f2 _ _ ht
          have HLp := Aside0.mk (show s1.2.length < 8796093022208 by dsimp only at hf; omega)
          clear hW h hl hr h2 h0 h3 f2 f0 f3 ht k14 hf
          go_enter Tryz.func40, Tryz.ntmps40
          go_wp2_with (first | (go_at_call 65; (with_reducible refine (sees_calls 14 _ HR0.out HS14.out).mono ?_); rintro e w1 ⟨rfl, hb⟩; have HM1 := Aside0.mk (HM0.out.trans (Mv.of_below hb HR0.out.base)); have HR1 := Aside0.mk (HR0.out.below hb); have HW1 := Aside0.mk (HW.out.mv HM1.out); clear hb) | (go_at_call 38; (with_reducible refine (take_calls 14 HR1.out HW1.out (some (l, o)) HTK.out).mono ?_); rintro e w2 ⟨v2, hm_, rfl, hr_⟩; have HM2 := Aside0.mk (HM1.out.trans hm_); have HR2 := Aside0.mk hr_; have HW2 := Aside0.mk (HW.out.mv HM2.out); clear hm_ hr_) | (go_at_call 40; refine (H2.out _ _ _ _ _ _ HW2.out HR2.out HL.out HT.out).mono ?_; rintro e w3 ⟨v3, hm_, rfl, hr_⟩; have HM3 := Aside0.mk (HM2.out.trans hm_); have HR3 := Aside0.mk hr_; have HW3 := Aside0.mk (HW.out.mv HM3.out); clear hm_ hr_) | (go_at_call 39; (with_reducible refine (put_calls 14 HR3.out HLp.out).mono ?_); rintro e w4 ⟨v4, hm_, rfl, hr_⟩; have HM4 := Aside0.mk (HM3.out.trans hm_); have HR4 := Aside0.mk hr_; have HW4 := Aside0.mk (HW.out.mv HM4.out); clear hm_ hr_))
          go_end0
          exact ⟨_, HM4.out, rfl, HR4.out⟩
theorem PF_fine (k lev : Nat) (hl : lev ≤ 5) : Fine (PF k) lev := by
  intro st s h
  obtain ⟨k', r', h', hw⟩ := Pure.PF_total _ st.1.length lev st rfl hl rfl trivial
  have e1 := Pure.PF_mono (Nat.le_max_left k k') h
  have e2 := Pure.PF_mono (Nat.le_max_right k k') h'
  rw [e1] at e2
  obtain rfl := Option.some.inj e2
  exact (hw s rfl).2
theorem PF_calls : ∀ (k lev : Nat), lev ≤ 5 → Can (PF k) lev
  | 0, _, _ => fun b g v w st res _ _ _ h => by cases h
  | k + 1, lev, hl => fun b g v w st res hW h hb hr => by
    have ih := fun lev2 (hl2 : lev2 ≤ 5) => PF_calls k lev2 hl2
    have fi := fun lev2 (hl2 : lev2 ≤ 5) => PF_fine k lev2 hl2
    have hr : stepF (PF k) k lev st = some res := hr
    rcases (by omega : lev = 0 ∨ lev = 1 ∨ lev = 2 ∨ lev = 3 ∨ lev = 4 ∨ lev = 5) with rfl | rfl | rfl | rfl | rfl | rfl
    · exact top_guard (ih 1 (by omega)) (fi 1 (by omega)) k res hW h hb hr
    · exact top_some (ih 2 (by omega)) (fi 2 (by omega)) k res hW h hb hr
    · exact one_calls (ih 2 (by omega)) (ih 0 (by omega)) (ih 3 (by omega)) (fi 2 (by omega)) (fi 0 (by omega)) (fi 3 (by omega)) k res hW h hb hr
    · exact top_sum (ih 4 (by omega)) (fi 4 (by omega)) k res hW h hb hr
    · exact top_product (ih 5 (by omega)) (fi 5 (by omega)) k res hW h hb hr
    · exact factor_calls (ih 5 (by omega)) (ih 3 (by omega)) (fi 5 (by omega)) (fi 3 (by omega)) k res hW h hb hr
end Go.Proofs.YtojfdekiponccaaGreatDoor.H
