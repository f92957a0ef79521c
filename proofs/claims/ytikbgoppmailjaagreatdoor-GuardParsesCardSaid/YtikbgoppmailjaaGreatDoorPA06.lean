/- Parts of the proof of LawGuardParses: words, contracts of the functions, plain laws. -/
import Derived.Test.YtikbgoppmailjaaGreatDoorPA03
/- The document's reader of guards: what its methods do to the place in the signs and to those that are laid behind. -/
namespace Go.Proofs.YtikbgoppmailjaaGreatDoor.H
open Go.RowKit Go.HK Go.Proofs.YtikbgoppmailjaaGreatDoorW.PrintWords Go.Proofs.YtikbgoppmailjaaGreatDoorW.PrintLast Go.Proofs.YtikbgoppmailjaaGreatDoorW.PrintMore
set_option linter.unusedVariables false
set_option linter.unusedSimpArgs false
def RQ (b g : Nat) (l : List S39) (v : Value) (w : World) (at' : Nat) (bad : Bool) (o : List S39) : Prop :=
  ∃ A c, w.heap[g]? = some (.cells #[.slice A l.length c, v, .int .i64 at', .bool bad] 47 (0, 0)) ∧ l.length ≤ c ∧ (∀ W', KeepBut w W' g v.ownBlock → Kd.C k39 W' A l.length l) ∧ Kd.R k39 39 w b (fun _ => True) v o ∧ b ≤ g
def PostQ (b g : Nat) (l : List S39) (v : Value) (w : World) (a0 : Nat) (n0 : Nat) (res : Option ST) (e : Ending) (w' : World) : Prop :=
  e = .returned (.tuple #[]) ∧ ∃ v' a1 bad o1, Mv b g v w v' w' ∧ RQ b g l v' w' a1 bad o1 ∧ a0 ≤ a1 ∧ a1 ≤ l.length ∧ o1.length + a0 ≤ n0 + a1 ∧ (match res with | none => bad = true | some st => bad = false ∧ st.1 = l.drop a1 ∧ st.2 = o1)
section
variable {b g : Nat} {l : List S39} {v v1 : Value} {w w1 : World} {a0 : Nat} {bad : Bool} {o : List S39}
theorem RQ.lt (h : RQ b g l v w a0 bad o) : g < w.heap.size := by obtain ⟨A, c, h1, _⟩ := h; exact blk_lt h1
theorem RQ.base (h : RQ b g l v w a0 bad o) : b ≤ w.heap.size := by have := h.lt; obtain ⟨A, c, _, _, _, _, h5⟩ := h; omega
theorem RQ.below (h : RQ b g l v w a0 bad o) (hb : Below w.heap.size w w1) : RQ b g l v w1 a0 bad o := by
  obtain ⟨A, c, h1, h2, h3, h4, h5⟩ := h
  exact ⟨A, c, (hb.block g (blk_lt h1)).trans h1, h2, fun W' hk => h3 W' ((KeepBut.of_below hb g _).trans hk (.inl rfl)), Kd.R_below h4 hb, h5⟩
theorem RQ.ne (h : RQ b g l v w a0 bad o) : some g ≠ v.ownBlock := by
  obtain ⟨A, c, h1, h2, h3, h4, h5⟩ := h
  exact Kd.R_ne h4 h1 (by decide)
theorem RQ.setAt (h : RQ b g l v w a0 bad o) (x : Int) (a1 : Nat) (hx : x = (a1 : Int)) : Mv b g v w v (w.setCell ⟨g, 2, none⟩ (.int .i64 x)) ∧ RQ b g l v (w.setCell ⟨g, 2, none⟩ (.int .i64 x)) a1 bad o := by
  subst hx
  obtain ⟨A, c, h1, h2, h3, h4, h5⟩ := h
  have hk : KeepBut w (w.setCell ⟨g, 2, none⟩ (.int .i64 a1)) g v.ownBlock := (KeepBut.refl w g _).set_ 2 _
  exact ⟨⟨(Below.refl b w).setCell h5 _, hk, .inl rfl⟩, A, c, blk_set h1 2 _, h2, fun W' q => h3 W' (hk.trans q (.inl rfl)), Kd.R_set h4 h1 (by decide) 2 _, h5⟩
theorem RQ.setBad (h : RQ b g l v w a0 bad o) (x : Bool) : Mv b g v w v (w.setCell ⟨g, 3, none⟩ (.bool x)) ∧ RQ b g l v (w.setCell ⟨g, 3, none⟩ (.bool x)) a0 x o := by
  obtain ⟨A, c, h1, h2, h3, h4, h5⟩ := h
  have hk : KeepBut w (w.setCell ⟨g, 3, none⟩ (.bool x)) g v.ownBlock := (KeepBut.refl w g _).set_ 3 _
  exact ⟨⟨(Below.refl b w).setCell h5 _, hk, .inl rfl⟩, A, c, blk_set h1 3 _, h2, fun W' q => h3 W' (hk.trans q (.inl rfl)), Kd.R_set h4 h1 (by decide) 3 _, h5⟩
theorem RQ.stored {out1 : List S39} (h : RQ b g l v w a0 bad o) (HO1 : Kd.R k39 39 w1 b (fun _ => True) v1 out1) (HB1 : Below b w w1) (HG1 : w.grownBy w1 v.ownBlock)
    (HA1 : v1.ownBlock = v.ownBlock ∨ ∃ q, v1.ownBlock = some q ∧ w.heap.size ≤ q) : Mv b g v w v1 (w1.setCell ⟨g, 1, none⟩ v1) ∧ RQ b g l v1 (w1.setCell ⟨g, 1, none⟩ v1) a0 bad out1 := by
  have hne := h.ne
  obtain ⟨A, c, h1, h2, h3, h4, h5⟩ := h
  have hb1 := blk_grown h1 HG1 hne
  have hk : KeepBut w (w1.setCell ⟨g, 1, none⟩ v1) g v.ownBlock := (KeepBut.of_grown HG1 g).set_ 1 v1
  exact ⟨⟨HB1.setCell h5 v1, hk, HA1⟩, A, c, blk_set hb1 1 v1, h2, fun W' q => h3 W' (hk.trans q HA1), Kd.R_set HO1 hb1 (by decide) 1 v1, h5⟩
end
set_option maxRecDepth 100000 in
theorem is_calls {b g : Nat} {l : List S39} {v : Value} {w : World} {a0 : Nat} {bad : Bool} {o : List S39} (kind : Int) (r : Bool) (h : RQ b g l v w a0 bad o) (hl : l.length ≤ 100000) (hr : seesF kind (l.drop a0, o) = r) :
    Calls Tryz.prog 38 #[.pointer (some ⟨g, 0, none⟩), .int .i64 kind] w fun e w' => e = .returned (.bool r) ∧ Below w.heap.size w w' := by
  obtain ⟨A, c, h1, h2, h3, h4, h5⟩ := h
  have hc0 := blk_cell h1 0
  have hc2 : w.cell? ⟨g, 2, none⟩ = some (.int .i64 a0) := blk_cell h1 2
  have hC := h3 w (KeepBut.refl _ _ _)
  by_cases hlt : a0 < l.length
  · rw [List.drop_eq_getElem_cons hlt] at hr
    obtain ⟨ad, rfl, e0, e1⟩ := at_T39 hC (a0 : Int) (by omega) (by omega)
    have erd : rd_T39 l (a0 : Int) = l[a0] := by
      unfold rd_T39
      rw [Int.toNat_natCast, List.getD_eq_getElem?_getD, List.getElem?_eq_getElem hlt]
      rfl
    rw [erd, Int.toNat_natCast] at e0
    generalize l[a0] = s at *
    have hc0 : w.cell? ⟨g, 0, none⟩ = some (.slice (some ad) l.length c) := hc0
    have hr : (s.f0 == kind) = r := hr
    have HR := Lib.hid hr
    have hin : (a0 : Int) < (l.length : Int) := by omega
    clear h1 h2 h3 h4 h5 hC e1 hr erd
    have hin2 : decide ((a0 : Int) < (l.length : Int)) = true := decide_eq_true hin
    go_enter Tryz.func38, Tryz.ntmps38
    go_wp2
    refine start_ (n := 26) (S := fun w' => w'.cell? ⟨g, 2, none⟩ = some (.int .i64 a0) ∧ w'.cell? ⟨g, 0, none⟩ = some (.slice (some ad) l.length c) ∧ w'.cell? (ad.add (a0 * 2)) = some (.int .i64 s.f0)) (ds := []) #[false, false, false, false, false, false, false, false, false, false, false, false, false, false, false, false, false, false, false, false, false, false, false, false, false, false] (by kernel_rfl) rfl rfl ⟨hc2, hc0, e0⟩ (fun hHeld => ?_)
    refine pure_ (i := 0) (N := some 5) (v := ?_) (a' := ?_) #[true, false, false, false, false, false, false, false, false, false, false, false, false, false, false, false, false, false, false, false, false, false, false, false, false, false] rfl rfl (by kernel_rfl) (fun _ _ _ h => h) (Or.inl ⟨by rfl, ?_⟩) ?_ ?_
    rotate_left
    · intro w'
      go_simp
      with_reducible rfl
    rotate_left
    · simp only [Act.put, List.setIfInBounds_toArray, List.set_cons_zero, List.set_cons_succ, i64_w, i32_w]
      rfl
    refine pure_ (i := 1) (N := some 6) (v := ?_) (a' := ?_) #[true, true, false, false, false, false, false, false, false, false, false, false, false, false, false, false, false, false, false, false, false, false, false, false, false, false] rfl rfl (by kernel_rfl) (fun _ _ _ h => h) (Or.inl ⟨by rfl, ?_⟩) ?_ ?_
    rotate_left
    · intro w'
      go_simp
      with_reducible rfl
    rotate_left
    · simp only [Act.put, List.setIfInBounds_toArray, List.set_cons_zero, List.set_cons_succ, i64_w, i32_w]
      rfl
    refine pure_ (i := 2) (N := some 7) (v := ?_) (a' := ?_) #[true, true, true, false, false, false, false, false, false, false, false, false, false, false, false, false, false, false, false, false, false, false, false, false, false, false] rfl rfl (by kernel_rfl) (fun _ _ _ h => h) (Or.inl ⟨by rfl, ?_⟩) ?_ ?_
    rotate_left
    · intro w'
      go_simp
      with_reducible rfl
    rotate_left
    · simp only [Act.put, List.setIfInBounds_toArray, List.set_cons_zero, List.set_cons_succ, i64_w, i32_w]
      rfl
    refine pure_ (i := 4) (N := some 9) (v := ?_) (a' := ?_) #[true, true, true, false, true, false, false, false, false, false, false, false, false, false, false, false, false, false, false, false, false, false, false, false, false, false] rfl rfl (by kernel_rfl) (fun _ _ _ h => h) (Or.inl ⟨by rfl, ?_⟩) ?_ ?_
    rotate_left
    · intro w'
      go_simp
      with_reducible rfl
    rotate_left
    · simp only [Act.put, List.setIfInBounds_toArray, List.set_cons_zero, List.set_cons_succ, i64_w, i32_w]
      rfl
    refine pure_ (i := 5) (N := some 10) (v := ?_) (a' := ?_) #[true, true, true, false, true, true, false, false, false, false, false, false, false, false, false, false, false, false, false, false, false, false, false, false, false, false] rfl rfl (by kernel_rfl) (fun _ _ _ h => h) (Or.inl ⟨by rfl, ?_⟩) ?_ ?_
    rotate_left
    · intro w'
      go_simp
      with_reducible rfl
    rotate_left
    · simp only [Act.put, List.setIfInBounds_toArray, List.set_cons_zero, List.set_cons_succ, i64_w, i32_w]
      rfl
    refine pure_ (i := 6) (N := some 11) (v := ?_) (a' := ?_) #[true, true, true, false, true, true, true, false, false, false, false, false, false, false, false, false, false, false, false, false, false, false, false, false, false, false] rfl rfl (by kernel_rfl) (fun _ _ _ h => h) (Or.inl ⟨by rfl, ?_⟩) ?_ ?_
    rotate_left
    · intro w'
      go_simp
      with_reducible rfl
    rotate_left
    · simp only [Act.put, List.setIfInBounds_toArray, List.set_cons_zero, List.set_cons_succ, i64_w, i32_w]
      rfl
    refine take_ (i := 3) (N := some 8) (v := ?_) (a' := ?_) #[true, true, true, true, true, true, true, false, false, false, false, false, false, false, false, false, false, false, false, false, false, false, false, false, false, false] rfl rfl (by kernel_rfl) (fun _ _ _ h => h) (Or.inl ⟨by rfl, ?_⟩) hHeld ?_ ?_
    rotate_left
    · rintro w' ⟨s0, s1, s2⟩
      go_simp
      with_reducible rfl
    rotate_left
    · simp only [Act.put, List.setIfInBounds_toArray, List.set_cons_zero, List.set_cons_succ, i64_w, i32_w]
      rfl
    refine take_ (i := 7) (N := some 12) (v := ?_) (a' := ?_) #[true, true, true, true, true, true, true, true, false, false, false, false, false, false, false, false, false, false, false, false, false, false, false, false, false, false] rfl rfl (by kernel_rfl) (fun _ _ _ h => h) (Or.inl ⟨by rfl, ?_⟩) hHeld ?_ ?_
    rotate_left
    · rintro w' ⟨s0, s1, s2⟩
      go_simp
      with_reducible rfl
    rotate_left
    · simp only [Act.put, List.setIfInBounds_toArray, List.set_cons_zero, List.set_cons_succ, i64_w, i32_w]
      rfl
    refine pure_ (i := 8) (N := some 13) (v := ?_) (a' := ?_) #[true, true, true, true, true, true, true, true, true, false, false, false, false, false, false, false, false, false, false, false, false, false, false, false, false, false] rfl rfl (by kernel_rfl) (fun _ _ _ h => h) (Or.inl ⟨by rfl, ?_⟩) ?_ ?_
    rotate_left
    · intro w'
      go_simp
      with_reducible rfl
    rotate_left
    · simp only [Act.put, List.setIfInBounds_toArray, List.set_cons_zero, List.set_cons_succ, i64_w, i32_w]
      rfl
    refine pure_ (i := 9) (N := some 14) (v := ?_) (a' := ?_) #[true, true, true, true, true, true, true, true, true, true, false, false, false, false, false, false, false, false, false, false, false, false, false, false, false, false] rfl rfl (by kernel_rfl) (fun _ _ _ h => h) (Or.inl ⟨by rfl, ?_⟩) ?_ ?_
    rotate_left
    · intro w'
      go_simp
      with_reducible rfl
    rotate_left
    · simp only [Act.put, List.setIfInBounds_toArray, List.set_cons_zero, List.set_cons_succ, i64_w, i32_w]
      rfl
    refine pure_ (i := 10) (N := some 15) (v := ?_) (a' := ?_) #[true, true, true, true, true, true, true, true, true, true, true, false, false, false, false, false, false, false, false, false, false, false, false, false, false, false] rfl rfl (by kernel_rfl) (fun _ _ _ h => h) (Or.inl ⟨by rfl, ?_⟩) ?_ ?_
    rotate_left
    · intro w'
      go_simp
      with_reducible rfl
    rotate_left
    · simp only [Act.put, List.setIfInBounds_toArray, List.set_cons_zero, List.set_cons_succ, i64_w, i32_w]
      rfl
    refine pure_ (i := 11) (N := some 16) (v := ?_) (a' := ?_) #[true, true, true, true, true, true, true, true, true, true, true, true, false, false, false, false, false, false, false, false, false, false, false, false, false, false] rfl rfl (by kernel_rfl) (fun _ _ _ h => h) (Or.inl ⟨by rfl, ?_⟩) ?_ ?_
    rotate_left
    · intro w'
      go_simp
      with_reducible rfl
    rotate_left
    · simp only [Act.put, List.setIfInBounds_toArray, List.set_cons_zero, List.set_cons_succ, i64_w, i32_w]
      rfl
    refine pure_ (i := 12) (N := some 17) (v := ?_) (a' := ?_) #[true, true, true, true, true, true, true, true, true, true, true, true, true, false, false, false, false, false, false, false, false, false, false, false, false, false] rfl rfl (by kernel_rfl) (fun _ _ _ h => h) (Or.inl ⟨by rfl, ?_⟩) ?_ ?_
    rotate_left
    · intro w'
      go_simp
      with_reducible rfl
    rotate_left
    · simp only [Act.put, List.setIfInBounds_toArray, List.set_cons_zero, List.set_cons_succ, i64_w, i32_w]
      rfl
    refine pure_ (i := 13) (N := some 18) (v := ?_) (a' := ?_) #[true, true, true, true, true, true, true, true, true, true, true, true, true, true, false, false, false, false, false, false, false, false, false, false, false, false] rfl rfl (by kernel_rfl) (fun _ _ _ h => h) (Or.inl ⟨by rfl, ?_⟩) ?_ ?_
    rotate_left
    · intro w'
      go_simp
      with_reducible rfl
    rotate_left
    · simp only [Act.put, List.setIfInBounds_toArray, List.set_cons_zero, List.set_cons_succ, i64_w, i32_w]
      rfl
    refine pure_ (i := 15) (N := some 20) (v := ?_) (a' := ?_) #[true, true, true, true, true, true, true, true, true, true, true, true, true, true, false, true, false, false, false, false, false, false, false, false, false, false] rfl rfl (by kernel_rfl) (fun _ _ _ h => h) (Or.inl ⟨by rfl, ?_⟩) ?_ ?_
    rotate_left
    · intro w'
      go_simp
      with_reducible rfl
    rotate_left
    · simp only [Act.put, List.setIfInBounds_toArray, List.set_cons_zero, List.set_cons_succ, i64_w, i32_w]
      rfl
    refine pure_ (i := 16) (N := some 21) (v := ?_) (a' := ?_) #[true, true, true, true, true, true, true, true, true, true, true, true, true, true, false, true, true, false, false, false, false, false, false, false, false, false] rfl rfl (by kernel_rfl) (fun _ _ _ h => h) (Or.inl ⟨by rfl, ?_⟩) ?_ ?_
    rotate_left
    · intro w'
      go_simp
      with_reducible rfl
    rotate_left
    · simp only [Act.put, List.setIfInBounds_toArray, List.set_cons_zero, List.set_cons_succ, i64_w, i32_w]
      rfl
    refine pure_ (i := 17) (N := some 22) (v := ?_) (a' := ?_) #[true, true, true, true, true, true, true, true, true, true, true, true, true, true, false, true, true, true, false, false, false, false, false, false, false, false] rfl rfl (by kernel_rfl) (fun _ _ _ h => h) (Or.inl ⟨by rfl, ?_⟩) ?_ ?_
    rotate_left
    · intro w'
      go_simp
      with_reducible rfl
    rotate_left
    · simp only [Act.put, List.setIfInBounds_toArray, List.set_cons_zero, List.set_cons_succ, i64_w, i32_w]
      rfl
    refine pure_ (i := 22) (N := some 27) (v := ?_) (a' := ?_) #[true, true, true, true, true, true, true, true, true, true, true, true, true, true, false, true, true, true, false, false, false, false, true, false, false, false] rfl rfl (by kernel_rfl) (fun _ _ _ h => h) (Or.inl ⟨by rfl, ?_⟩) ?_ ?_
    rotate_left
    · intro w'
      go_simp
      with_reducible rfl
    rotate_left
    · simp only [Act.put, List.setIfInBounds_toArray, List.set_cons_zero, List.set_cons_succ, i64_w, i32_w]
      rfl
    refine take_ (i := 14) (N := some 19) (v := ?_) (a' := ?_) #[true, true, true, true, true, true, true, true, true, true, true, true, true, true, true, true, true, true, false, false, false, false, true, false, false, false] rfl rfl (by kernel_rfl) (fun _ _ _ h => h) (Or.inl ⟨by rfl, ?_⟩) hHeld ?_ ?_
    rotate_left
    · rintro w' ⟨s0, s1, s2⟩
      go_simp
      with_reducible rfl
    rotate_left
    · simp only [Act.put, List.setIfInBounds_toArray, List.set_cons_zero, List.set_cons_succ, i64_w, i32_w]
      rfl
    refine take_ (i := 18) (N := some 23) (v := ?_) (a' := ?_) #[true, true, true, true, true, true, true, true, true, true, true, true, true, true, true, true, true, true, true, false, false, false, true, false, false, false] rfl rfl (by kernel_rfl) (fun _ _ _ h => h) (Or.inl ⟨by rfl, ?_⟩) hHeld ?_ ?_
    rotate_left
    · rintro w' ⟨s0, s1, s2⟩
      go_simp
      with_reducible rfl
    rotate_left
    · simp only [Act.put, List.setIfInBounds_toArray, List.set_cons_zero, List.set_cons_succ, i64_w, i32_w]
      rfl
    refine pure_ (i := 19) (N := some 24) (v := ?_) (a' := ?_) #[true, true, true, true, true, true, true, true, true, true, true, true, true, true, true, true, true, true, true, true, false, false, true, false, false, false] rfl rfl (by kernel_rfl) (fun _ _ _ h => h) (Or.inl ⟨by rfl, ?_⟩) ?_ ?_
    rotate_left
    · intro w'
      go_simp
      with_reducible rfl
    rotate_left
    · simp only [Act.put, List.setIfInBounds_toArray, List.set_cons_zero, List.set_cons_succ, i64_w, i32_w]
      rfl
    refine pure_ (i := 20) (N := some 25) (v := ?_) (a' := ?_) #[true, true, true, true, true, true, true, true, true, true, true, true, true, true, true, true, true, true, true, true, true, false, true, false, false, false] rfl rfl (by kernel_rfl) (fun _ _ _ h => h) (Or.inl ⟨by rfl, ?_⟩) ?_ ?_
    rotate_left
    · intro w'
      go_simp
      with_reducible rfl
    rotate_left
    · simp only [Act.put, List.setIfInBounds_toArray, List.set_cons_zero, List.set_cons_succ, i64_w, i32_w]
      rfl
    refine take_ (i := 21) (N := some 26) (v := ?_) (a' := ?_) #[true, true, true, true, true, true, true, true, true, true, true, true, true, true, true, true, true, true, true, true, true, true, true, false, false, false] rfl rfl (by kernel_rfl) (fun _ _ _ h => h) (Or.inl ⟨by rfl, ?_⟩) hHeld ?_ ?_
    rotate_left
    · rintro w' ⟨s0, s1, s2⟩
      go_simp
      with_reducible rfl
    rotate_left
    · simp only [Act.put, List.setIfInBounds_toArray, List.set_cons_zero, List.set_cons_succ, i64_w, i32_w]
      rfl
    refine pure_ (i := 23) (N := some 28) (v := ?_) (a' := ?_) #[true, true, true, true, true, true, true, true, true, true, true, true, true, true, true, true, true, true, true, true, true, true, true, true, false, false] rfl rfl (by kernel_rfl) (fun _ _ _ h => h) (Or.inl ⟨by rfl, ?_⟩) ?_ ?_
    rotate_left
    · intro w'
      go_simp
      with_reducible rfl
    rotate_left
    · simp only [Act.put, List.setIfInBounds_toArray, List.set_cons_zero, List.set_cons_succ, i64_w, i32_w]
      rfl
    refine pure_ (i := 24) (N := some 29) (v := ?_) (a' := ?_) #[true, true, true, true, true, true, true, true, true, true, true, true, true, true, true, true, true, true, true, true, true, true, true, true, true, false] rfl rfl (by kernel_rfl) (fun _ _ _ h => h) (Or.inl ⟨by rfl, ?_⟩) ?_ ?_
    rotate_left
    · intro w'
      go_simp
      with_reducible rfl
    rotate_left
    · simp only [Act.put, List.setIfInBounds_toArray, List.set_cons_zero, List.set_cons_succ, i64_w, i32_w]
      rfl
    refine pure_ (i := 25) (N := some 4) (v := ?_) (a' := ?_) #[true, true, true, true, true, true, true, true, true, true, true, true, true, true, true, true, true, true, true, true, true, true, true, true, true, true] rfl rfl (by kernel_rfl) (fun _ _ _ h => h) (Or.inl ⟨by rfl, ?_⟩) ?_ ?_
    rotate_left
    · intro w'
      go_simp
      with_reducible rfl
    rotate_left
    · simp only [Act.put, List.setIfInBounds_toArray, List.set_cons_zero, List.set_cons_succ, i64_w, i32_w]
      rfl
    refine done_ (by kernel_rfl) ?_
    clear hHeld
    go_wp2
    all_goals go_ret
    all_goals exact ⟨by first | rfl | (rw [← HR.out]; rfl), (Below.refl _ _).drew⟩
  · have hd : l.drop a0 = [] := List.drop_eq_nil_of_le (by omega)
    rw [hd] at hr
    have hr : false = r := hr
    subst hr
    have hc0 : w.cell? ⟨g, 0, none⟩ = some (.slice A l.length c) := hc0
    have hin : decide ((a0 : Int) < (l.length : Int)) = false := decide_eq_false (by omega)
    clear h1 h2 h3 h4 h5 hC hd
    go_enter Tryz.func38, Tryz.ntmps38
    go_wp2
    refine start_ (n := 26) (S := fun w' => w'.cell? ⟨g, 2, none⟩ = some (.int .i64 a0) ∧ w'.cell? ⟨g, 0, none⟩ = some (.slice A l.length c)) (ds := []) #[false, false, false, false, false, false, false, false, false, false, false, false, false, false, false, false, false, false, false, false, false, false, false, false, false, false] (by kernel_rfl) rfl rfl ⟨hc2, hc0⟩ (fun hHeld => ?_)
    refine pure_ (i := 0) (N := some 5) (v := ?_) (a' := ?_) #[true, false, false, false, false, false, false, false, false, false, false, false, false, false, false, false, false, false, false, false, false, false, false, false, false, false] rfl rfl (by kernel_rfl) (fun _ _ _ h => h) (Or.inl ⟨by rfl, ?_⟩) ?_ ?_
    rotate_left
    · intro w'
      go_simp
      with_reducible rfl
    rotate_left
    · simp only [Act.put, List.setIfInBounds_toArray, List.set_cons_zero, List.set_cons_succ, i64_w, i32_w]
      rfl
    refine pure_ (i := 1) (N := some 6) (v := ?_) (a' := ?_) #[true, true, false, false, false, false, false, false, false, false, false, false, false, false, false, false, false, false, false, false, false, false, false, false, false, false] rfl rfl (by kernel_rfl) (fun _ _ _ h => h) (Or.inl ⟨by rfl, ?_⟩) ?_ ?_
    rotate_left
    · intro w'
      go_simp
      with_reducible rfl
    rotate_left
    · simp only [Act.put, List.setIfInBounds_toArray, List.set_cons_zero, List.set_cons_succ, i64_w, i32_w]
      rfl
    refine pure_ (i := 2) (N := some 7) (v := ?_) (a' := ?_) #[true, true, true, false, false, false, false, false, false, false, false, false, false, false, false, false, false, false, false, false, false, false, false, false, false, false] rfl rfl (by kernel_rfl) (fun _ _ _ h => h) (Or.inl ⟨by rfl, ?_⟩) ?_ ?_
    rotate_left
    · intro w'
      go_simp
      with_reducible rfl
    rotate_left
    · simp only [Act.put, List.setIfInBounds_toArray, List.set_cons_zero, List.set_cons_succ, i64_w, i32_w]
      rfl
    refine pure_ (i := 4) (N := some 9) (v := ?_) (a' := ?_) #[true, true, true, false, true, false, false, false, false, false, false, false, false, false, false, false, false, false, false, false, false, false, false, false, false, false] rfl rfl (by kernel_rfl) (fun _ _ _ h => h) (Or.inl ⟨by rfl, ?_⟩) ?_ ?_
    rotate_left
    · intro w'
      go_simp
      with_reducible rfl
    rotate_left
    · simp only [Act.put, List.setIfInBounds_toArray, List.set_cons_zero, List.set_cons_succ, i64_w, i32_w]
      rfl
    refine pure_ (i := 5) (N := some 10) (v := ?_) (a' := ?_) #[true, true, true, false, true, true, false, false, false, false, false, false, false, false, false, false, false, false, false, false, false, false, false, false, false, false] rfl rfl (by kernel_rfl) (fun _ _ _ h => h) (Or.inl ⟨by rfl, ?_⟩) ?_ ?_
    rotate_left
    · intro w'
      go_simp
      with_reducible rfl
    rotate_left
    · simp only [Act.put, List.setIfInBounds_toArray, List.set_cons_zero, List.set_cons_succ, i64_w, i32_w]
      rfl
    refine pure_ (i := 6) (N := some 11) (v := ?_) (a' := ?_) #[true, true, true, false, true, true, true, false, false, false, false, false, false, false, false, false, false, false, false, false, false, false, false, false, false, false] rfl rfl (by kernel_rfl) (fun _ _ _ h => h) (Or.inl ⟨by rfl, ?_⟩) ?_ ?_
    rotate_left
    · intro w'
      go_simp
      with_reducible rfl
    rotate_left
    · simp only [Act.put, List.setIfInBounds_toArray, List.set_cons_zero, List.set_cons_succ, i64_w, i32_w]
      rfl
    refine take_ (i := 3) (N := some 8) (v := ?_) (a' := ?_) #[true, true, true, true, true, true, true, false, false, false, false, false, false, false, false, false, false, false, false, false, false, false, false, false, false, false] rfl rfl (by kernel_rfl) (fun _ _ _ h => h) (Or.inl ⟨by rfl, ?_⟩) hHeld ?_ ?_
    rotate_left
    · rintro w' ⟨s0, s1⟩
      go_simp
      with_reducible rfl
    rotate_left
    · simp only [Act.put, List.setIfInBounds_toArray, List.set_cons_zero, List.set_cons_succ, i64_w, i32_w]
      rfl
    refine take_ (i := 7) (N := some 12) (v := ?_) (a' := ?_) #[true, true, true, true, true, true, true, true, false, false, false, false, false, false, false, false, false, false, false, false, false, false, false, false, false, false] rfl rfl (by kernel_rfl) (fun _ _ _ h => h) (Or.inl ⟨by rfl, ?_⟩) hHeld ?_ ?_
    rotate_left
    · rintro w' ⟨s0, s1⟩
      go_simp
      with_reducible rfl
    rotate_left
    · simp only [Act.put, List.setIfInBounds_toArray, List.set_cons_zero, List.set_cons_succ, i64_w, i32_w]
      rfl
    refine pure_ (i := 8) (N := some 13) (v := ?_) (a' := ?_) #[true, true, true, true, true, true, true, true, true, false, false, false, false, false, false, false, false, false, false, false, false, false, false, false, false, false] rfl rfl (by kernel_rfl) (fun _ _ _ h => h) (Or.inl ⟨by rfl, ?_⟩) ?_ ?_
    rotate_left
    · intro w'
      go_simp
      with_reducible rfl
    rotate_left
    · simp only [Act.put, List.setIfInBounds_toArray, List.set_cons_zero, List.set_cons_succ, i64_w, i32_w]
      rfl
    refine pure_ (i := 9) (N := some 14) (v := ?_) (a' := ?_) #[true, true, true, true, true, true, true, true, true, true, false, false, false, false, false, false, false, false, false, false, false, false, false, false, false, false] rfl rfl (by kernel_rfl) (fun _ _ _ h => h) (Or.inl ⟨by rfl, ?_⟩) ?_ ?_
    rotate_left
    · intro w'
      go_simp
      with_reducible rfl
    rotate_left
    · simp only [Act.put, List.setIfInBounds_toArray, List.set_cons_zero, List.set_cons_succ, i64_w, i32_w]
      rfl
    refine pure_ (i := 10) (N := some 15) (v := ?_) (a' := ?_) #[true, true, true, true, true, true, true, true, true, true, true, false, false, false, false, false, false, false, false, false, false, false, false, false, false, false] rfl rfl (by kernel_rfl) (fun _ _ _ h => h) (Or.inl ⟨by rfl, ?_⟩) ?_ ?_
    rotate_left
    · intro w'
      go_simp
      with_reducible rfl
    rotate_left
    · simp only [Act.put, List.setIfInBounds_toArray, List.set_cons_zero, List.set_cons_succ, i64_w, i32_w]
      rfl
    refine pure_ (i := 11) (N := some 16) (v := undef) (a' := ?_) #[true, true, true, true, true, true, true, true, true, true, true, true, false, false, false, false, false, false, false, false, false, false, false, false, false, false] rfl rfl (by kernel_rfl) (fun _ _ _ h => h) (Or.inr ⟨by rfl, rfl⟩) ?_ ?_
    rotate_left
    · simp only [Act.put, List.setIfInBounds_toArray, List.set_cons_zero, List.set_cons_succ, i64_w, i32_w]
      rfl
    refine pure_ (i := 12) (N := some 17) (v := undef) (a' := ?_) #[true, true, true, true, true, true, true, true, true, true, true, true, true, false, false, false, false, false, false, false, false, false, false, false, false, false] rfl rfl (by kernel_rfl) (fun _ _ _ h => h) (Or.inr ⟨by rfl, rfl⟩) ?_ ?_
    rotate_left
    · simp only [Act.put, List.setIfInBounds_toArray, List.set_cons_zero, List.set_cons_succ, i64_w, i32_w]
      rfl
    refine pure_ (i := 13) (N := some 18) (v := undef) (a' := ?_) #[true, true, true, true, true, true, true, true, true, true, true, true, true, true, false, false, false, false, false, false, false, false, false, false, false, false] rfl rfl (by kernel_rfl) (fun _ _ _ h => h) (Or.inr ⟨by rfl, rfl⟩) ?_ ?_
    rotate_left
    · simp only [Act.put, List.setIfInBounds_toArray, List.set_cons_zero, List.set_cons_succ, i64_w, i32_w]
      rfl
    refine pure_ (i := 14) (N := some 19) (v := undef) (a' := ?_) #[true, true, true, true, true, true, true, true, true, true, true, true, true, true, true, false, false, false, false, false, false, false, false, false, false, false] rfl rfl (by kernel_rfl) (fun _ _ _ h => h) (Or.inr ⟨by rfl, rfl⟩) ?_ ?_
    rotate_left
    · simp only [Act.put, List.setIfInBounds_toArray, List.set_cons_zero, List.set_cons_succ, i64_w, i32_w]
      rfl
    refine pure_ (i := 15) (N := some 20) (v := undef) (a' := ?_) #[true, true, true, true, true, true, true, true, true, true, true, true, true, true, true, true, false, false, false, false, false, false, false, false, false, false] rfl rfl (by kernel_rfl) (fun _ _ _ h => h) (Or.inr ⟨by rfl, rfl⟩) ?_ ?_
    rotate_left
    · simp only [Act.put, List.setIfInBounds_toArray, List.set_cons_zero, List.set_cons_succ, i64_w, i32_w]
      rfl
    refine pure_ (i := 16) (N := some 21) (v := undef) (a' := ?_) #[true, true, true, true, true, true, true, true, true, true, true, true, true, true, true, true, true, false, false, false, false, false, false, false, false, false] rfl rfl (by kernel_rfl) (fun _ _ _ h => h) (Or.inr ⟨by rfl, rfl⟩) ?_ ?_
    rotate_left
    · simp only [Act.put, List.setIfInBounds_toArray, List.set_cons_zero, List.set_cons_succ, i64_w, i32_w]
      rfl
    refine pure_ (i := 17) (N := some 22) (v := undef) (a' := ?_) #[true, true, true, true, true, true, true, true, true, true, true, true, true, true, true, true, true, true, false, false, false, false, false, false, false, false] rfl rfl (by kernel_rfl) (fun _ _ _ h => h) (Or.inr ⟨by rfl, rfl⟩) ?_ ?_
    rotate_left
    · simp only [Act.put, List.setIfInBounds_toArray, List.set_cons_zero, List.set_cons_succ, i64_w, i32_w]
      rfl
    refine pure_ (i := 18) (N := some 23) (v := undef) (a' := ?_) #[true, true, true, true, true, true, true, true, true, true, true, true, true, true, true, true, true, true, true, false, false, false, false, false, false, false] rfl rfl (by kernel_rfl) (fun _ _ _ h => h) (Or.inr ⟨by rfl, rfl⟩) ?_ ?_
    rotate_left
    · simp only [Act.put, List.setIfInBounds_toArray, List.set_cons_zero, List.set_cons_succ, i64_w, i32_w]
      rfl
    refine pure_ (i := 19) (N := some 24) (v := undef) (a' := ?_) #[true, true, true, true, true, true, true, true, true, true, true, true, true, true, true, true, true, true, true, true, false, false, false, false, false, false] rfl rfl (by kernel_rfl) (fun _ _ _ h => h) (Or.inr ⟨by rfl, rfl⟩) ?_ ?_
    rotate_left
    · simp only [Act.put, List.setIfInBounds_toArray, List.set_cons_zero, List.set_cons_succ, i64_w, i32_w]
      rfl
    refine pure_ (i := 20) (N := some 25) (v := undef) (a' := ?_) #[true, true, true, true, true, true, true, true, true, true, true, true, true, true, true, true, true, true, true, true, true, false, false, false, false, false] rfl rfl (by kernel_rfl) (fun _ _ _ h => h) (Or.inr ⟨by rfl, rfl⟩) ?_ ?_
    rotate_left
    · simp only [Act.put, List.setIfInBounds_toArray, List.set_cons_zero, List.set_cons_succ, i64_w, i32_w]
      rfl
    refine pure_ (i := 21) (N := some 26) (v := undef) (a' := ?_) #[true, true, true, true, true, true, true, true, true, true, true, true, true, true, true, true, true, true, true, true, true, true, false, false, false, false] rfl rfl (by kernel_rfl) (fun _ _ _ h => h) (Or.inr ⟨by rfl, rfl⟩) ?_ ?_
    rotate_left
    · simp only [Act.put, List.setIfInBounds_toArray, List.set_cons_zero, List.set_cons_succ, i64_w, i32_w]
      rfl
    refine pure_ (i := 22) (N := some 27) (v := undef) (a' := ?_) #[true, true, true, true, true, true, true, true, true, true, true, true, true, true, true, true, true, true, true, true, true, true, true, false, false, false] rfl rfl (by kernel_rfl) (fun _ _ _ h => h) (Or.inr ⟨by rfl, rfl⟩) ?_ ?_
    rotate_left
    · simp only [Act.put, List.setIfInBounds_toArray, List.set_cons_zero, List.set_cons_succ, i64_w, i32_w]
      rfl
    refine pure_ (i := 23) (N := some 28) (v := undef) (a' := ?_) #[true, true, true, true, true, true, true, true, true, true, true, true, true, true, true, true, true, true, true, true, true, true, true, true, false, false] rfl rfl (by kernel_rfl) (fun _ _ _ h => h) (Or.inr ⟨by rfl, rfl⟩) ?_ ?_
    rotate_left
    · simp only [Act.put, List.setIfInBounds_toArray, List.set_cons_zero, List.set_cons_succ, i64_w, i32_w]
      rfl
    refine pure_ (i := 24) (N := some 29) (v := ?_) (a' := ?_) #[true, true, true, true, true, true, true, true, true, true, true, true, true, true, true, true, true, true, true, true, true, true, true, true, true, false] rfl rfl (by kernel_rfl) (fun _ _ _ h => h) (Or.inl ⟨by rfl, ?_⟩) ?_ ?_
    rotate_left
    · intro w'
      go_simp
      with_reducible rfl
    rotate_left
    · simp only [Act.put, List.setIfInBounds_toArray, List.set_cons_zero, List.set_cons_succ, i64_w, i32_w]
      rfl
    refine pure_ (i := 25) (N := some 4) (v := ?_) (a' := ?_) #[true, true, true, true, true, true, true, true, true, true, true, true, true, true, true, true, true, true, true, true, true, true, true, true, true, true] rfl rfl (by kernel_rfl) (fun _ _ _ h => h) (Or.inl ⟨by rfl, ?_⟩) ?_ ?_
    rotate_left
    · intro w'
      go_simp
      with_reducible rfl
    rotate_left
    · simp only [Act.put, List.setIfInBounds_toArray, List.set_cons_zero, List.set_cons_succ, i64_w, i32_w]
      rfl
    refine done_ (by kernel_rfl) ?_
    clear hHeld
    go_wp2
    all_goals go_ret
    all_goals exact ⟨rfl, (Below.refl _ _).drew⟩
set_option maxRecDepth 100000 in
theorem putQ_calls {b g : Nat} {l : List S39} {v : Value} {w : World} {a0 : Nat} {bad : Bool} {o : List S39} (kind : Int) (h : RQ b g l v w a0 bad o) (hl : o.length < 8796093022208) :
    Calls Tryz.prog 39 #[.pointer (some ⟨g, 0, none⟩), .int .i64 kind] w fun e w' => e = .returned (.tuple #[]) ∧ ∃ v', Mv b g v w v' w' ∧ RQ b g l v' w' a0 bad (o ++ [(⟨kind, 0⟩ : S39)]) := by
  have HH := Aside0.mk h
  have hbs := h.base
  have hne := h.ne
  obtain ⟨A, c, h1, h2, h3, h4, h5⟩ := h
  have hc1 : w.cell? ⟨g, 1, none⟩ = some v := blk_cell h1 1
  have HO := Aside0.mk h4
  have HB := Aside0.mk (Below.refl b w)
  have HS := Aside0.mk hbs
  have H1 := Aside0.mk h1
  have HN := Aside0.mk hne
  clear h4 h1 h3 hne
  go_enter Tryz.func39, Tryz.ntmps39
  go_wp2_with (first | (at_builtin; refine Kd.R_append k39 (w0 := w) b rfl (.tmp 8) (.tmp 11) 23 39 (.agg #[(.int .i64 0), (.int .i64 0)]) 16 rfl Tryz.underlying23 info39 rfl (by decide) (by omega) v o (⟨kind, 0⟩ : S39) [.int .i64 kind, .int .i64 0] (fun _ => True) (fun _ => False) rfl rfl ?aP (fun _ hk => hk.elim) ?aF ?aO ?aB ?aS ?aL ?_; (case aP => exact k39_mkM _ _ _ (⟨kind, 0⟩ : S39)); (case aB => exact (by repeat (first | (with_reducible first | exact HB.out | apply below_alloc | apply pw_below_drewN | apply below_drew1) | exact HB.out))); (case aF => exact (fun _ _ => trivial)); (case aO => exact (by (with_reducible repeat (first | apply Kd.R_alloc | apply Kd.R_drewN | apply Kd.R_drew)); exact HO.out)); (case aS => exact HS.out); (case aL => omega); intro v1 w1 ho hb hg hat; obtain ⟨A1, c1, e1, _, _⟩ := Kd.R_reads ho; subst e1; have hb1 := blk_grown H1.out hg HN.out; have hcell : w1.cell? ⟨g, 1, none⟩ = some v := blk_cell hb1 1; have hfr : w1.frozen? ⟨g, 1, none⟩ = false := blk_frozen hb1 1; have H1b := Aside0.mk hb1; have HO1 := Aside0.mk ho; have HB1 := Aside0.mk hb; have HG1 := Aside0.mk hg; have HA1 := Aside0.mk hat; clear ho hb hg hat hb1))
  go_end0
  obtain ⟨q1, q2⟩ := RQ.stored HH.out HO1.out HB1.out HG1.out HA1.out
  have e : o.length + 1 = (o ++ [(⟨kind, 0⟩ : S39)]).length := by simp
  rw [e]
  exact ⟨rfl, _, q1, q2⟩
set_option maxRecDepth 100000 in
theorem needQ_calls {b g : Nat} {l : List S39} {v : Value} {w : World} {a0 : Nat} {bad : Bool} {o : List S39} (kind : Int) (h : RQ b g l v w a0 bad o) (hl : l.length ≤ 100000) (ha : a0 ≤ l.length) :
    Calls Tryz.prog 94 #[.pointer (some ⟨g, 0, none⟩), .int .i64 kind] w fun e w' => e = .returned (.tuple #[]) ∧ ((seesF kind (l.drop a0, o) = true ∧ Mv b g v w v w' ∧ RQ b g l v w' (a0 + 1) bad o) ∨ (seesF kind (l.drop a0, o) = false ∧ Mv b g v w v w' ∧ RQ b g l v w' a0 true o)) := by
  have HH := Aside0.mk h
  have hw1 : wrap64 ((a0 : Int) + 1) = ((a0 + 1 : Nat) : Int) := by unfold wrap64; omega
  have HW1 := Aside0.mk hw1
  clear h hw1
  cases hs : seesF kind (l.drop a0, o)
  · have HS := Lib.hid hs
    clear hs
    go_enter Tryz.func94, Tryz.ntmps94
    go_wp2_with (first | (go_at_call 38; refine (is_calls _ _ HH.out hl HS.out).mono ?_; rintro e w1 ⟨rfl, hb⟩; have HM := Aside0.mk (Mv.of_below (v := v) (g := g) hb HH.out.base); have hr1 := RQ.below HH.out hb; have HR1 := Aside0.mk hr1; obtain ⟨A, c, h1, h2, h3, h4, h5⟩ := hr1; have hc2 : w1.cell? ⟨g, 2, none⟩ = some (.int .i64 a0) := blk_cell h1 2; have hf2 := blk_frozen h1 2; have hc3 : w1.cell? ⟨g, 3, none⟩ = some (.bool bad) := blk_cell h1 3; have hf3 := blk_frozen h1 3; clear h1 h2 h3 h4 h5 hb))
    all_goals refine bodyPost_ret (results_none rfl _ _ _) rfl ?_
    all_goals (obtain ⟨q1, q2⟩ := RQ.setBad HR1.out true; exact ⟨rfl, Or.inr ⟨by trivial, HM.out.trans q1, q2⟩⟩)
  · have HS := Lib.hid hs
    clear hs
    go_enter Tryz.func94, Tryz.ntmps94
    go_wp2_with (first | (go_at_call 38; refine (is_calls _ _ HH.out hl HS.out).mono ?_; rintro e w1 ⟨rfl, hb⟩; have HM := Aside0.mk (Mv.of_below (v := v) (g := g) hb HH.out.base); have hr1 := RQ.below HH.out hb; have HR1 := Aside0.mk hr1; obtain ⟨A, c, h1, h2, h3, h4, h5⟩ := hr1; have hc2 : w1.cell? ⟨g, 2, none⟩ = some (.int .i64 a0) := blk_cell h1 2; have hf2 := blk_frozen h1 2; have hc3 : w1.cell? ⟨g, 3, none⟩ = some (.bool bad) := blk_cell h1 3; have hf3 := blk_frozen h1 3; clear h1 h2 h3 h4 h5 hb))
    all_goals go_end0
    all_goals (obtain ⟨q1, q2⟩ := RQ.setAt HR1.out ((a0 : Int) + 1) (a0 + 1) (by omega); exact ⟨rfl, Or.inl ⟨by trivial, HM.out.trans q1, q2⟩⟩)
def fnQ : Nat → Nat
  | 0 => 20
  | 1 => 37
  | 2 => 64
  | 3 => 95
  | 4 => 111
  | _ => 123
def CanQ (R : Nat → ST → Rz) (lev : Nat) : Prop := ∀ (b g : Nat) (l : List S39) (v : Value) (w : World) (a0 : Nat) (o : List S39) (res : Option ST), RQ b g l v w a0 false o → l.length ≤ 100000 → a0 ≤ l.length → o.length ≤ 100000 + a0 → R lev (l.drop a0, o) = some res → Calls Tryz.prog (fnQ lev) #[.pointer (some ⟨g, 0, none⟩)] w (PostQ b g l v w a0 o.length res)
/-- The head of a row's round. -/
def QI (th : ST → Rz) (ks : List Int) (res : Option ST) (b g : Nat) (l : List S39) (v : Value) (w : World) (a0 n0 : Nat) (kq : Nat) (wr : World) : Prop :=
  ∃ v' a1 bad o1, kq = l.length - a1 ∧ Mv b g v w v' wr ∧ RQ b g l v' wr a1 bad o1 ∧ a0 ≤ a1 ∧ a1 ≤ l.length ∧ o1.length + a0 ≤ n0 + a1 ∧ ((bad = true ∧ res = none) ∨ (bad = false ∧ ∃ j, rowL th ks j (l.drop a1, o1) = some res))
theorem sees_drop {kind : Int} {l o : List S39} {a0 : Nat} (h : seesF kind (l.drop a0, o) = true) : a0 < l.length ∧ ∃ a, l.drop a0 = a :: l.drop (a0 + 1) ∧ a.f0 = kind := by
  by_cases hlt : a0 < l.length
  · rw [List.drop_eq_getElem_cons hlt] at h
    exact ⟨hlt, l[a0], List.drop_eq_getElem_cons hlt, beq_iff_eq.1 h⟩
  · rw [List.drop_eq_nil_of_le (by omega)] at h
    cases h
theorem rowL_first {th : ST → Rz} {kind : Int} {j : Nat} {l o : List S39} {a0 : Nat} {res : Option ST} (h : rowL th [kind] j (l.drop a0, o) = some res) (hs : seesF kind (l.drop a0, o) = false) : res = some (l.drop a0, o) := by
  cases j with
  | zero => cases h
  | succ j =>
    cases hd : l.drop a0 with
    | nil => rw [hd] at h; exact (Option.some.inj h).symm
    | cons a r =>
      rw [hd] at h hs
      have hc : [kind].contains a.f0 = false := by
        have hs : (a.f0 == kind) = false := hs
        have q := beq_eq_false_iff_ne.1 hs
        simpa using q
      rw [rowL_stop' hc] at h
      exact (Option.some.inj h).symm
theorem rowL_next {th : ST → Rz} {ks : List Int} {j : Nat} {l o : List S39} {a : S39} {res : Option ST} (h : rowL th ks j (a :: l, o) = some res) (hc : ks.contains a.f0 = true) : ∃ r2, th (l, o) = some r2 ∧ (match r2 with | none => res = none | some s => ∃ j, rowL th ks j (s.1, s.2 ++ [(⟨a.f0, 0⟩ : S39)]) = some res) := by
  cases j with
  | zero => cases h
  | succ j =>
    simp only [rowL] at h
    rw [if_pos hc] at h
    cases ht : th (l, o) with
    | none => rw [ht] at h; cases h
    | some r2 =>
      refine ⟨r2, rfl, ?_⟩
      rw [ht] at h
      cases r2 with
      | none => exact (Option.some.inj h).symm
      | some s => exact ⟨j, h⟩
theorem rowF_first {th : ST → Rz} {ks : List Int} {k : Nat} {st : ST} {res : Option ST} (h : rowF th ks k st = some res) : ∃ r1, th st = some r1 ∧ (match r1 with | none => res = none | some s => ∃ j, rowL th ks j s = some res) := by
  unfold rowF at h
  cases ht : th st with
  | none => rw [ht] at h; cases h
  | some r1 =>
    refine ⟨r1, rfl, ?_⟩
    rw [ht] at h
    cases r1 with
    | none => exact (Option.some.inj h).symm
    | some s => exact ⟨k, h⟩
set_option maxRecDepth 100000 in
set_option maxHeartbeats 1600000 in
theorem rowQ_product {R : Nat → ST → Rz} (hC : CanQ R 5) {b g : Nat} {l : List S39} {v : Value} {w : World} {a0 : Nat} {o : List S39} (k : Nat) (res : Option ST) (h : RQ b g l v w a0 false o) (hl : l.length ≤ 100000) (ha : a0 ≤ l.length) (ho : o.length ≤ 100000 + a0)
    (hr : rowF (R 5) [5] k (l.drop a0, o) = some res) : Calls Tryz.prog 111 #[.pointer (some ⟨g, 0, none⟩)] w (PostQ b g l v w a0 o.length res) := by
  obtain ⟨r1, ht, hrow⟩ := rowF_first hr
  have HR := Aside0.mk h
  have HT := Aside0.mk ht
  have HROW := Aside0.mk hrow
  clear h hr ht hrow
  go_enter Tryz.func111, Tryz.ntmps111
  go_wp2_with (first | (go_at_call 123; refine (hC _ _ _ _ _ _ _ _ HR.out hl ha ho HT.out).mono ?_; rintro e w2 ⟨rfl, v2, a2, bad2, o2, hm2, hq2, b1, b2, b3, hmt⟩; have HM2 := Aside0.mk hm2; have HQ2 := Aside0.mk hq2; have HE2 := Aside0.mk hmt; clear hm2 hq2 hmt))
  go_loopg [] (l.length - a2) (fun kq wr => QI (R 5) [5] res b g l v w a0 o.length kq wr)
  case atStart =>
    refine ⟨v2, a2, bad2, o2, rfl, HM2.out, HQ2.out, b1, b2, b3, ?_⟩
    have hrow := HROW.out
    have hmt := HE2.out
    cases r1 with
    | none => exact Or.inl ⟨hmt, hrow⟩
    | some s =>
      obtain ⟨j, hj⟩ := hrow
      obtain ⟨e1, e2, e3⟩ := hmt
      refine Or.inr ⟨e1, j, ?_⟩
      rw [← e2, ← e3]
      exact hj
  case round =>
    obtain ⟨v1, a1, bad1, o1, hk, hm, hq, c1, c2, c3, hcase⟩ := hrel
    have HK := Aside0.mk hk
    have HM := Aside0.mk hm
    have HQ := Aside0.mk hq
    obtain ⟨A, c, h1, h2, h3, h4, h5⟩ := hq
    have hc3 : wr.cell? ⟨g, 3, none⟩ = some (.bool bad1) := blk_cell h1 3
    clear h1 h2 h3 h4 h5 hk hm HM2 HQ2 HE2 HROW HT HR
    rcases hcase with ⟨rfl, hres⟩ | ⟨rfl, j, hj⟩
    · go_wp2
      go_end0
      subst hres
      exact ⟨rfl, v1, a1, true, o1, HM.out, HQ.out, c1, c2, c3, rfl⟩
    · cases hs : seesF 5 (l.drop a1, o1)
      · have hres := rowL_first hj hs
        have HS := Lib.hid hs
        clear hs hj
        go_wp2_with (first | (go_at_call 38; refine (is_calls _ _ HQ.out hl HS.out).mono ?_; rintro e w3 ⟨rfl, hb⟩; have HM3 := Aside0.mk (HM.out.trans (Mv.of_below (v := v1) (g := g) hb HQ.out.base)); have hr1 := RQ.below HQ.out hb; have HR3 := Aside0.mk hr1; obtain ⟨A, c, h1, h2, h3, h4, h5⟩ := hr1; have hc2 : w3.cell? ⟨g, 2, none⟩ = some (.int .i64 a1) := blk_cell h1 2; have hf2 := blk_frozen h1 2; have hc3 : w3.cell? ⟨g, 3, none⟩ = some (.bool false) := blk_cell h1 3; clear h1 h2 h3 h4 h5 hb))
        go_end0
        subst hres
        exact ⟨rfl, v1, a1, false, o1, HM3.out, HR3.out, c1, c2, c3, rfl, rfl, rfl⟩
      · obtain ⟨hlt, a, hd, hak⟩ := sees_drop hs
        have HS := Lib.hid hs
        rw [hd] at hj
        obtain ⟨r2, ht2, hrow2⟩ := rowL_next hj (by rw [hak]; decide)
        rw [hak] at hrow2
        have HT2 := Aside0.mk ht2
        have HROW2 := Aside0.mk hrow2
        have HLT := Aside0.mk (show a1 + 1 ≤ l.length by omega)
        have HLN := Aside0.mk (show o1.length ≤ 100000 + a1 by omega)
        have hw1 : wrap64 ((a1 : Int) + 1) = ((a1 + 1 : Nat) : Int) := by unfold wrap64; omega
        have HW1 := Aside0.mk hw1
        clear hs hj ht2 hrow2 hd hak hw1
        go_wp2_with (first | (go_at_call 38; refine (is_calls _ _ HQ.out hl HS.out).mono ?_; rintro e w3 ⟨rfl, hb⟩; have HM3 := Aside0.mk (HM.out.trans (Mv.of_below (v := v1) (g := g) hb HQ.out.base)); have hr1 := RQ.below HQ.out hb; have HR3 := Aside0.mk hr1; obtain ⟨A, c, h1, h2, h3, h4, h5⟩ := hr1; have hc2 : w3.cell? ⟨g, 2, none⟩ = some (.int .i64 a1) := blk_cell h1 2; have hf2 := blk_frozen h1 2; have hc3 : w3.cell? ⟨g, 3, none⟩ = some (.bool false) := blk_cell h1 3; clear h1 h2 h3 h4 h5 hb) | (go_at_call 123; obtain ⟨q1, q2⟩ := RQ.setAt HR3.out ((a1 : Int) + 1) (a1 + 1) (by omega); have HM4 := Aside0.mk (HM3.out.trans q1); have HR4 := Aside0.mk q2; clear q1 q2; refine (hC _ _ _ _ _ _ _ _ HR4.out hl HLT.out (by have := HLN.out; omega) HT2.out).mono ?_; rintro e w5 ⟨rfl, v5, a5, bad5, o5, hm5, hq5, b51, b52, b53, hmt5⟩; have HM5 := Aside0.mk (HM4.out.trans hm5); have HQ5 := Aside0.mk hq5; have HE5 := Aside0.mk hmt5; have HB5 := Aside0.mk (And.intro b51 (And.intro b52 b53)); clear hm5 hq5 hmt5 b51 b52 b53) | (go_at_call 39; refine (putQ_calls 5 HQ5.out (by have := HB5.out; have := HLN.out; omega)).mono ?_; rintro e w6 ⟨rfl, v6, hm6, hq6⟩; have HM6 := Aside0.mk (HM5.out.trans hm6); have HQ6 := Aside0.mk hq6; clear hm6 hq6))
        go_roundg (l.length - a5)
        case measure => have := HK.out; have := HB5.out; omega
        case rel =>
          obtain ⟨b51, b52, b53⟩ := HB5.out
          refine ⟨v6, a5, bad5, _, rfl, HM6.out, HQ6.out, by omega, b52, by rw [List.length_append]; simp only [List.length_cons, List.length_nil]; omega, ?_⟩
          have hrow2 := HROW2.out
          have hmt := HE5.out
          cases r2 with
          | none => exact Or.inl ⟨hmt, hrow2⟩
          | some s =>
            obtain ⟨j, hj⟩ := hrow2
            obtain ⟨e1, e2, e3⟩ := hmt
            refine Or.inr ⟨e1, j, ?_⟩
            rw [← e2, ← e3]
            exact hj
set_option maxRecDepth 100000 in
set_option maxHeartbeats 1600000 in
theorem rowQ_both {R : Nat → ST → Rz} (hC : CanQ R 2) {b g : Nat} {l : List S39} {v : Value} {w : World} {a0 : Nat} {o : List S39} (k : Nat) (res : Option ST) (h : RQ b g l v w a0 false o) (hl : l.length ≤ 100000) (ha : a0 ≤ l.length) (ho : o.length ≤ 100000 + a0)
    (hr : rowF (R 2) [12] k (l.drop a0, o) = some res) : Calls Tryz.prog 37 #[.pointer (some ⟨g, 0, none⟩)] w (PostQ b g l v w a0 o.length res) := by
  obtain ⟨r1, ht, hrow⟩ := rowF_first hr
  have HR := Aside0.mk h
  have HT := Aside0.mk ht
  have HROW := Aside0.mk hrow
  clear h hr ht hrow
  go_enter Tryz.func37, Tryz.ntmps37
  go_wp2_with (first | (go_at_call 64; refine (hC _ _ _ _ _ _ _ _ HR.out hl ha ho HT.out).mono ?_; rintro e w2 ⟨rfl, v2, a2, bad2, o2, hm2, hq2, b1, b2, b3, hmt⟩; have HM2 := Aside0.mk hm2; have HQ2 := Aside0.mk hq2; have HE2 := Aside0.mk hmt; clear hm2 hq2 hmt))
  go_loopg [] (l.length - a2) (fun kq wr => QI (R 2) [12] res b g l v w a0 o.length kq wr)
  case atStart =>
    refine ⟨v2, a2, bad2, o2, rfl, HM2.out, HQ2.out, b1, b2, b3, ?_⟩
    have hrow := HROW.out
    have hmt := HE2.out
    cases r1 with
    | none => exact Or.inl ⟨hmt, hrow⟩
    | some s =>
      obtain ⟨j, hj⟩ := hrow
      obtain ⟨e1, e2, e3⟩ := hmt
      refine Or.inr ⟨e1, j, ?_⟩
      rw [← e2, ← e3]
      exact hj
  case round =>
    obtain ⟨v1, a1, bad1, o1, hk, hm, hq, c1, c2, c3, hcase⟩ := hrel
    have HK := Aside0.mk hk
    have HM := Aside0.mk hm
    have HQ := Aside0.mk hq
    obtain ⟨A, c, h1, h2, h3, h4, h5⟩ := hq
    have hc3 : wr.cell? ⟨g, 3, none⟩ = some (.bool bad1) := blk_cell h1 3
    clear h1 h2 h3 h4 h5 hk hm HM2 HQ2 HE2 HROW HT HR
    rcases hcase with ⟨rfl, hres⟩ | ⟨rfl, j, hj⟩
    · go_wp2
      go_end0
      subst hres
      exact ⟨rfl, v1, a1, true, o1, HM.out, HQ.out, c1, c2, c3, rfl⟩
    · cases hs : seesF 12 (l.drop a1, o1)
      · have hres := rowL_first hj hs
        have HS := Lib.hid hs
        clear hs hj
        go_wp2_with (first | (go_at_call 38; refine (is_calls _ _ HQ.out hl HS.out).mono ?_; rintro e w3 ⟨rfl, hb⟩; have HM3 := Aside0.mk (HM.out.trans (Mv.of_below (v := v1) (g := g) hb HQ.out.base)); have hr1 := RQ.below HQ.out hb; have HR3 := Aside0.mk hr1; obtain ⟨A, c, h1, h2, h3, h4, h5⟩ := hr1; have hc2 : w3.cell? ⟨g, 2, none⟩ = some (.int .i64 a1) := blk_cell h1 2; have hf2 := blk_frozen h1 2; have hc3 : w3.cell? ⟨g, 3, none⟩ = some (.bool false) := blk_cell h1 3; clear h1 h2 h3 h4 h5 hb))
        go_end0
        subst hres
        exact ⟨rfl, v1, a1, false, o1, HM3.out, HR3.out, c1, c2, c3, rfl, rfl, rfl⟩
      · obtain ⟨hlt, a, hd, hak⟩ := sees_drop hs
        have HS := Lib.hid hs
        rw [hd] at hj
        obtain ⟨r2, ht2, hrow2⟩ := rowL_next hj (by rw [hak]; decide)
        rw [hak] at hrow2
        have HT2 := Aside0.mk ht2
        have HROW2 := Aside0.mk hrow2
        have HLT := Aside0.mk (show a1 + 1 ≤ l.length by omega)
        have HLN := Aside0.mk (show o1.length ≤ 100000 + a1 by omega)
        have hw1 : wrap64 ((a1 : Int) + 1) = ((a1 + 1 : Nat) : Int) := by unfold wrap64; omega
        have HW1 := Aside0.mk hw1
        clear hs hj ht2 hrow2 hd hak hw1
        go_wp2_with (first | (go_at_call 38; refine (is_calls _ _ HQ.out hl HS.out).mono ?_; rintro e w3 ⟨rfl, hb⟩; have HM3 := Aside0.mk (HM.out.trans (Mv.of_below (v := v1) (g := g) hb HQ.out.base)); have hr1 := RQ.below HQ.out hb; have HR3 := Aside0.mk hr1; obtain ⟨A, c, h1, h2, h3, h4, h5⟩ := hr1; have hc2 : w3.cell? ⟨g, 2, none⟩ = some (.int .i64 a1) := blk_cell h1 2; have hf2 := blk_frozen h1 2; have hc3 : w3.cell? ⟨g, 3, none⟩ = some (.bool false) := blk_cell h1 3; clear h1 h2 h3 h4 h5 hb) | (go_at_call 64; obtain ⟨q1, q2⟩ := RQ.setAt HR3.out ((a1 : Int) + 1) (a1 + 1) (by omega); have HM4 := Aside0.mk (HM3.out.trans q1); have HR4 := Aside0.mk q2; clear q1 q2; refine (hC _ _ _ _ _ _ _ _ HR4.out hl HLT.out (by have := HLN.out; omega) HT2.out).mono ?_; rintro e w5 ⟨rfl, v5, a5, bad5, o5, hm5, hq5, b51, b52, b53, hmt5⟩; have HM5 := Aside0.mk (HM4.out.trans hm5); have HQ5 := Aside0.mk hq5; have HE5 := Aside0.mk hmt5; have HB5 := Aside0.mk (And.intro b51 (And.intro b52 b53)); clear hm5 hq5 hmt5 b51 b52 b53) | (go_at_call 39; refine (putQ_calls 12 HQ5.out (by have := HB5.out; have := HLN.out; omega)).mono ?_; rintro e w6 ⟨rfl, v6, hm6, hq6⟩; have HM6 := Aside0.mk (HM5.out.trans hm6); have HQ6 := Aside0.mk hq6; clear hm6 hq6))
        go_roundg (l.length - a5)
        case measure => have := HK.out; have := HB5.out; omega
        case rel =>
          obtain ⟨b51, b52, b53⟩ := HB5.out
          refine ⟨v6, a5, bad5, _, rfl, HM6.out, HQ6.out, by omega, b52, by rw [List.length_append]; simp only [List.length_cons, List.length_nil]; omega, ?_⟩
          have hrow2 := HROW2.out
          have hmt := HE5.out
          cases r2 with
          | none => exact Or.inl ⟨hmt, hrow2⟩
          | some s =>
            obtain ⟨j, hj⟩ := hrow2
            obtain ⟨e1, e2, e3⟩ := hmt
            refine Or.inr ⟨e1, j, ?_⟩
            rw [← e2, ← e3]
            exact hj
set_option maxRecDepth 100000 in
set_option maxHeartbeats 1600000 in
theorem rowQ_any {R : Nat → ST → Rz} (hC : CanQ R 1) {b g : Nat} {l : List S39} {v : Value} {w : World} {a0 : Nat} {o : List S39} (k : Nat) (res : Option ST) (h : RQ b g l v w a0 false o) (hl : l.length ≤ 100000) (ha : a0 ≤ l.length) (ho : o.length ≤ 100000 + a0)
    (hr : rowF (R 1) [13] k (l.drop a0, o) = some res) : Calls Tryz.prog 20 #[.pointer (some ⟨g, 0, none⟩)] w (PostQ b g l v w a0 o.length res) := by
  obtain ⟨r1, ht, hrow⟩ := rowF_first hr
  have HR := Aside0.mk h
  have HT := Aside0.mk ht
  have HROW := Aside0.mk hrow
  clear h hr ht hrow
  go_enter Tryz.func20, Tryz.ntmps20
  go_wp2_with (first | (go_at_call 37; refine (hC _ _ _ _ _ _ _ _ HR.out hl ha ho HT.out).mono ?_; rintro e w2 ⟨rfl, v2, a2, bad2, o2, hm2, hq2, b1, b2, b3, hmt⟩; have HM2 := Aside0.mk hm2; have HQ2 := Aside0.mk hq2; have HE2 := Aside0.mk hmt; clear hm2 hq2 hmt))
  go_loopg [] (l.length - a2) (fun kq wr => QI (R 1) [13] res b g l v w a0 o.length kq wr)
  case atStart =>
    refine ⟨v2, a2, bad2, o2, rfl, HM2.out, HQ2.out, b1, b2, b3, ?_⟩
    have hrow := HROW.out
    have hmt := HE2.out
    cases r1 with
    | none => exact Or.inl ⟨hmt, hrow⟩
    | some s =>
      obtain ⟨j, hj⟩ := hrow
      obtain ⟨e1, e2, e3⟩ := hmt
      refine Or.inr ⟨e1, j, ?_⟩
      rw [← e2, ← e3]
      exact hj
  case round =>
    obtain ⟨v1, a1, bad1, o1, hk, hm, hq, c1, c2, c3, hcase⟩ := hrel
    have HK := Aside0.mk hk
    have HM := Aside0.mk hm
    have HQ := Aside0.mk hq
    obtain ⟨A, c, h1, h2, h3, h4, h5⟩ := hq
    have hc3 : wr.cell? ⟨g, 3, none⟩ = some (.bool bad1) := blk_cell h1 3
    clear h1 h2 h3 h4 h5 hk hm HM2 HQ2 HE2 HROW HT HR
    rcases hcase with ⟨rfl, hres⟩ | ⟨rfl, j, hj⟩
    · go_wp2
      go_end0
      subst hres
      exact ⟨rfl, v1, a1, true, o1, HM.out, HQ.out, c1, c2, c3, rfl⟩
    · cases hs : seesF 13 (l.drop a1, o1)
      · have hres := rowL_first hj hs
        have HS := Lib.hid hs
        clear hs hj
        go_wp2_with (first | (go_at_call 38; refine (is_calls _ _ HQ.out hl HS.out).mono ?_; rintro e w3 ⟨rfl, hb⟩; have HM3 := Aside0.mk (HM.out.trans (Mv.of_below (v := v1) (g := g) hb HQ.out.base)); have hr1 := RQ.below HQ.out hb; have HR3 := Aside0.mk hr1; obtain ⟨A, c, h1, h2, h3, h4, h5⟩ := hr1; have hc2 : w3.cell? ⟨g, 2, none⟩ = some (.int .i64 a1) := blk_cell h1 2; have hf2 := blk_frozen h1 2; have hc3 : w3.cell? ⟨g, 3, none⟩ = some (.bool false) := blk_cell h1 3; clear h1 h2 h3 h4 h5 hb))
        go_end0
        subst hres
        exact ⟨rfl, v1, a1, false, o1, HM3.out, HR3.out, c1, c2, c3, rfl, rfl, rfl⟩
      · obtain ⟨hlt, a, hd, hak⟩ := sees_drop hs
        have HS := Lib.hid hs
        rw [hd] at hj
        obtain ⟨r2, ht2, hrow2⟩ := rowL_next hj (by rw [hak]; decide)
        rw [hak] at hrow2
        have HT2 := Aside0.mk ht2
        have HROW2 := Aside0.mk hrow2
        have HLT := Aside0.mk (show a1 + 1 ≤ l.length by omega)
        have HLN := Aside0.mk (show o1.length ≤ 100000 + a1 by omega)
        have hw1 : wrap64 ((a1 : Int) + 1) = ((a1 + 1 : Nat) : Int) := by unfold wrap64; omega
        have HW1 := Aside0.mk hw1
        clear hs hj ht2 hrow2 hd hak hw1
        go_wp2_with (first | (go_at_call 38; refine (is_calls _ _ HQ.out hl HS.out).mono ?_; rintro e w3 ⟨rfl, hb⟩; have HM3 := Aside0.mk (HM.out.trans (Mv.of_below (v := v1) (g := g) hb HQ.out.base)); have hr1 := RQ.below HQ.out hb; have HR3 := Aside0.mk hr1; obtain ⟨A, c, h1, h2, h3, h4, h5⟩ := hr1; have hc2 : w3.cell? ⟨g, 2, none⟩ = some (.int .i64 a1) := blk_cell h1 2; have hf2 := blk_frozen h1 2; have hc3 : w3.cell? ⟨g, 3, none⟩ = some (.bool false) := blk_cell h1 3; clear h1 h2 h3 h4 h5 hb) | (go_at_call 37; obtain ⟨q1, q2⟩ := RQ.setAt HR3.out ((a1 : Int) + 1) (a1 + 1) (by omega); have HM4 := Aside0.mk (HM3.out.trans q1); have HR4 := Aside0.mk q2; clear q1 q2; refine (hC _ _ _ _ _ _ _ _ HR4.out hl HLT.out (by have := HLN.out; omega) HT2.out).mono ?_; rintro e w5 ⟨rfl, v5, a5, bad5, o5, hm5, hq5, b51, b52, b53, hmt5⟩; have HM5 := Aside0.mk (HM4.out.trans hm5); have HQ5 := Aside0.mk hq5; have HE5 := Aside0.mk hmt5; have HB5 := Aside0.mk (And.intro b51 (And.intro b52 b53)); clear hm5 hq5 hmt5 b51 b52 b53) | (go_at_call 39; refine (putQ_calls 13 HQ5.out (by have := HB5.out; have := HLN.out; omega)).mono ?_; rintro e w6 ⟨rfl, v6, hm6, hq6⟩; have HM6 := Aside0.mk (HM5.out.trans hm6); have HQ6 := Aside0.mk hq6; clear hm6 hq6))
        go_roundg (l.length - a5)
        case measure => have := HK.out; have := HB5.out; omega
        case rel =>
          obtain ⟨b51, b52, b53⟩ := HB5.out
          refine ⟨v6, a5, bad5, _, rfl, HM6.out, HQ6.out, by omega, b52, by rw [List.length_append]; simp only [List.length_cons, List.length_nil]; omega, ?_⟩
          have hrow2 := HROW2.out
          have hmt := HE5.out
          cases r2 with
          | none => exact Or.inl ⟨hmt, hrow2⟩
          | some s =>
            obtain ⟨j, hj⟩ := hrow2
            obtain ⟨e1, e2, e3⟩ := hmt
            refine Or.inr ⟨e1, j, ?_⟩
            rw [← e2, ← e3]
            exact hj
end Go.Proofs.YtikbgoppmailjaaGreatDoor.H
/- The document's reader of guards: sums, factors, units; all its levels. -/
namespace Go.Proofs.YtikbgoppmailjaaGreatDoor.H
open Go.RowKit Go.HK Go.Proofs.YtikbgoppmailjaaGreatDoorW.PrintWords Go.Proofs.YtikbgoppmailjaaGreatDoorW.PrintLast Go.Proofs.YtikbgoppmailjaaGreatDoorW.PrintMore
set_option linter.unusedVariables false
set_option linter.unusedSimpArgs false
theorem sees_at {kind : Int} {l o : List S39} {a0 : Nat} (hlt : a0 < l.length) : seesF kind (l.drop a0, o) = (l[a0].f0 == kind) := by
  rw [List.drop_eq_getElem_cons hlt]
  rfl
theorem sees_lt {kind : Int} {l o : List S39} {a0 : Nat} (h : seesF kind (l.drop a0, o) = true) : a0 < l.length := (sees_drop h).1
theorem rowL_first2 {th : ST → Rz} {k1 k2 : Int} {j : Nat} {l o : List S39} {a0 : Nat} {res : Option ST} (h : rowL th [k1, k2] j (l.drop a0, o) = some res) (hs : seesF k1 (l.drop a0, o) = false) (hs2 : seesF k2 (l.drop a0, o) = false) : res = some (l.drop a0, o) := by
  cases j with
  | zero => cases h
  | succ j =>
    cases hd : l.drop a0 with
    | nil => rw [hd] at h; exact (Option.some.inj h).symm
    | cons a r =>
      rw [hd] at h hs hs2
      have hc : [k1, k2].contains a.f0 = false := by
        have q := beq_eq_false_iff_ne.1 (show (a.f0 == k1) = false from hs)
        have q2 := beq_eq_false_iff_ne.1 (show (a.f0 == k2) = false from hs2)
        simp only [List.contains_cons, List.contains_nil, Bool.or_false]
        rw [beq_eq_false_iff_ne.2 q, beq_eq_false_iff_ne.2 q2]
        rfl
      rw [rowL_stop' hc] at h
      exact (Option.some.inj h).symm
set_option maxRecDepth 100000 in
set_option maxHeartbeats 3200000 in
theorem rowQ_sum {R : Nat → ST → Rz} (hC : CanQ R 4) {b g : Nat} {l : List S39} {v : Value} {w : World} {a0 : Nat} {o : List S39} (k : Nat) (res : Option ST) (h : RQ b g l v w a0 false o) (hl : l.length ≤ 100000) (ha : a0 ≤ l.length) (ho : o.length ≤ 100000 + a0)
    (hr : rowF (R 4) [3, 4] k (l.drop a0, o) = some res) : Calls Tryz.prog 95 #[.pointer (some ⟨g, 0, none⟩)] w (PostQ b g l v w a0 o.length res) := by
  obtain ⟨r1, ht, hrow⟩ := rowF_first hr
  have HR := Aside0.mk h
  have HT := Aside0.mk ht
  have HROW := Aside0.mk hrow
  clear h hr ht hrow
  go_enter Tryz.func95, Tryz.ntmps95
  go_wp2_with (first | (go_at_call 111; refine (hC _ _ _ _ _ _ _ _ HR.out hl ha ho HT.out).mono ?_; rintro e w2 ⟨rfl, v2, a2, bad2, o2, hm2, hq2, b1, b2, b3, hmt⟩; have HM2 := Aside0.mk hm2; have HQ2 := Aside0.mk hq2; have HE2 := Aside0.mk hmt; clear hm2 hq2 hmt))
  go_loopg [] (l.length - a2) (fun kq wr => QI (R 4) [3, 4] res b g l v w a0 o.length kq wr)
  case atStart =>
    refine ⟨v2, a2, bad2, o2, rfl, HM2.out, HQ2.out, b1, b2, b3, ?_⟩
    have hrow := HROW.out
    have hmt := HE2.out
    cases r1 with
    | none => exact Or.inl ⟨hmt, hrow⟩
    | some st =>
      obtain ⟨j, hj⟩ := hrow
      obtain ⟨e1, e2, e3⟩ := hmt
      refine Or.inr ⟨e1, j, ?_⟩
      rw [← e2, ← e3]
      exact hj
  case round =>
    obtain ⟨v1, a1, bad1, o1, hk, hm, hq, c1, c2, c3, hcase⟩ := hrel
    have HK := Aside0.mk hk
    have HM := Aside0.mk hm
    have HQ := Aside0.mk hq
    obtain ⟨A, c, h1, h2, h3, h4, h5⟩ := hq
    have hc3 : wr.cell? ⟨g, 3, none⟩ = some (.bool bad1) := blk_cell h1 3
    clear h1 h2 h3 h4 h5 hk hm HM2 HQ2 HE2 HROW HT HR A c
    rcases hcase with ⟨rfl, hres⟩ | ⟨rfl, j, hj⟩
    · go_wp2
      go_end0
      subst hres
      exact ⟨rfl, v1, a1, true, o1, HM.out, HQ.out, c1, c2, c3, rfl⟩
    · cases hs3 : seesF 3 (l.drop a1, o1)
      · cases hs4 : seesF 4 (l.drop a1, o1)
        · skip
          have hres := rowL_first2 hj hs3 hs4
          have HS3 := Lib.hid hs3
          have HS4 := Lib.hid hs4
          clear hs3 hs4 hj
          go_wp2_with (first | (go_at_call 38; (with_reducible refine (is_calls _ _ HQ.out hl HS3.out).mono ?_); rintro e w3 ⟨rfl, hb⟩; have HM3 := Aside0.mk (HM.out.trans (Mv.of_below (v := v1) (g := g) hb HQ.out.base)); have HR3 := Aside0.mk (RQ.below HQ.out hb); clear hb) | (go_at_call 38; (with_reducible refine (is_calls _ _ HR3.out hl HS4.out).mono ?_); rintro e w4 ⟨rfl, hb⟩; have HM4 := Aside0.mk (HM3.out.trans (Mv.of_below (v := v1) (g := g) hb HR3.out.base)); have HR4 := Aside0.mk (RQ.below HR3.out hb); clear hb))
          go_end0
          subst hres
          exact ⟨rfl, v1, a1, false, o1, HM4.out, HR4.out, c1, c2, c3, rfl, rfl, rfl⟩
        · skip
          have hlt := sees_lt hs4
          have hd := List.drop_eq_getElem_cons hlt
          have hsk := (sees_at (o := o1) hlt).symm.trans hs4
          obtain ⟨s, hse⟩ : ∃ s, l[a1] = s := ⟨_, rfl⟩
          rw [hse] at hd hsk
          have HSE := Aside0.mk hse
          have hak := beq_iff_eq.1 hsk
          rw [hd] at hj
          obtain ⟨r2, ht2, hrow2⟩ := rowL_next hj (by rw [hak]; decide)
          have HT2 := Aside0.mk ht2
          have HROW2 := Aside0.mk hrow2
          have HLT := Aside0.mk (show a1 + 1 ≤ l.length by omega)
          have HLN := Aside0.mk (show o1.length ≤ 100000 + a1 by omega)
          have HS3 := Lib.hid hs3
          have HS4 := Lib.hid hs4
          clear hs3 hs4 hj ht2 hrow2 hd hsk hak
          go_wp2_with (first | (go_at_call 38; (with_reducible refine (is_calls _ _ HQ.out hl HS3.out).mono ?_); rintro e w3 ⟨rfl, hb⟩; have HM3 := Aside0.mk (HM.out.trans (Mv.of_below (v := v1) (g := g) hb HQ.out.base)); have HR3 := Aside0.mk (RQ.below HQ.out hb); clear hb) | (go_at_call 38; (with_reducible refine (is_calls _ _ HR3.out hl HS4.out).mono ?_); rintro e w4 ⟨rfl, hb⟩; have HM4 := Aside0.mk (HM3.out.trans (Mv.of_below (v := v1) (g := g) hb HR3.out.base)); have HR4 := Aside0.mk (RQ.below HR3.out hb); clear hb))
          clear hc3
          obtain ⟨A, c, h1, h2, h3, h4, h5⟩ := HR4.out
          have hc0 : w4.cell? ⟨g, 0, none⟩ = some (.slice A l.length c) := blk_cell h1 0
          have hc2 : w4.cell? ⟨g, 2, none⟩ = some (.int .i64 a1) := blk_cell h1 2
          have hf2 := blk_frozen h1 2
          have hc3 : w4.cell? ⟨g, 3, none⟩ = some (.bool false) := blk_cell h1 3
          have hf3 := blk_frozen h1 3
          have hC := h3 w4 (KeepBut.refl _ _ _)
          have hin : (a1 : Int) < (l.length : Int) := by omega
          have hin2 : decide ((a1 : Int) < (l.length : Int)) = true := decide_eq_true hin
          have hin3 : decide ((l.length : Int) ≤ (a1 : Int)) = false := decide_eq_false (by omega)
          obtain ⟨ad, eA, e0, e1⟩ := at_T39 hC (a1 : Int) (by omega) hin
          have erd : rd_T39 l (a1 : Int) = s := by
            rw [← HSE.out]
            unfold rd_T39
            rw [Int.toNat_natCast, List.getD_eq_getElem?_getD, List.getElem?_eq_getElem (by omega)]
            rfl
          rw [erd, Int.toNat_natCast] at e0 e1
          subst eA
          refine start_ (n := 12) (S := fun w' => w'.cell? ⟨g, 0, none⟩ = some (.slice (some ad) l.length c) ∧ w'.cell? ⟨g, 2, none⟩ = some (.int .i64 a1) ∧ w'.cell? (ad.add (a1 * 2)) = some (.int .i64 s.f0)) (ds := []) #[false, false, false, false, false, false, false, false, false, false, false, false] (by kernel_rfl) rfl rfl ⟨hc0, hc2, e0⟩ (fun hHeld => ?_)
          refine pure_ (i := 0) (N := some 18) (v := ?_) (a' := ?_) #[true, false, false, false, false, false, false, false, false, false, false, false] rfl rfl (by kernel_rfl) (fun _ _ _ h => h) (Or.inl ⟨by rfl, ?_⟩) ?_ ?_
          rotate_left
          · intro w'
            go_simp
            with_reducible rfl
          rotate_left
          · simp only [Act.put, List.setIfInBounds_toArray, List.set_cons_zero, List.set_cons_succ, i64_w, i32_w]
            rfl
          refine pure_ (i := 1) (N := some 19) (v := ?_) (a' := ?_) #[true, true, false, false, false, false, false, false, false, false, false, false] rfl rfl (by kernel_rfl) (fun _ _ _ h => h) (Or.inl ⟨by rfl, ?_⟩) ?_ ?_
          rotate_left
          · intro w'
            go_simp
            with_reducible rfl
          rotate_left
          · simp only [Act.put, List.setIfInBounds_toArray, List.set_cons_zero, List.set_cons_succ, i64_w, i32_w]
            rfl
          refine pure_ (i := 2) (N := some 20) (v := ?_) (a' := ?_) #[true, true, true, false, false, false, false, false, false, false, false, false] rfl rfl (by kernel_rfl) (fun _ _ _ h => h) (Or.inl ⟨by rfl, ?_⟩) ?_ ?_
          rotate_left
          · intro w'
            go_simp
            with_reducible rfl
          rotate_left
          · simp only [Act.put, List.setIfInBounds_toArray, List.set_cons_zero, List.set_cons_succ, i64_w, i32_w]
            rfl
          refine pure_ (i := 4) (N := some 22) (v := ?_) (a' := ?_) #[true, true, true, false, true, false, false, false, false, false, false, false] rfl rfl (by kernel_rfl) (fun _ _ _ h => h) (Or.inl ⟨by rfl, ?_⟩) ?_ ?_
          rotate_left
          · intro w'
            go_simp
            with_reducible rfl
          rotate_left
          · simp only [Act.put, List.setIfInBounds_toArray, List.set_cons_zero, List.set_cons_succ, i64_w, i32_w]
            rfl
          refine pure_ (i := 5) (N := some 23) (v := ?_) (a' := ?_) #[true, true, true, false, true, true, false, false, false, false, false, false] rfl rfl (by kernel_rfl) (fun _ _ _ h => h) (Or.inl ⟨by rfl, ?_⟩) ?_ ?_
          rotate_left
          · intro w'
            go_simp
            with_reducible rfl
          rotate_left
          · simp only [Act.put, List.setIfInBounds_toArray, List.set_cons_zero, List.set_cons_succ, i64_w, i32_w]
            rfl
          refine pure_ (i := 6) (N := some 24) (v := ?_) (a' := ?_) #[true, true, true, false, true, true, true, false, false, false, false, false] rfl rfl (by kernel_rfl) (fun _ _ _ h => h) (Or.inl ⟨by rfl, ?_⟩) ?_ ?_
          rotate_left
          · intro w'
            go_simp
            with_reducible rfl
          rotate_left
          · simp only [Act.put, List.setIfInBounds_toArray, List.set_cons_zero, List.set_cons_succ, i64_w, i32_w]
            rfl
          refine take_ (i := 3) (N := some 21) (v := ?_) (a' := ?_) #[true, true, true, true, true, true, true, false, false, false, false, false] rfl rfl (by kernel_rfl) (fun _ _ _ h => h) (Or.inl ⟨by rfl, ?_⟩) hHeld ?_ ?_
          rotate_left
          · rintro w' ⟨s0, s1, s2⟩
            go_simp
            with_reducible rfl
          rotate_left
          · simp only [Act.put, List.setIfInBounds_toArray, List.set_cons_zero, List.set_cons_succ, i64_w, i32_w]
            rfl
          refine take_ (i := 7) (N := some 25) (v := ?_) (a' := ?_) #[true, true, true, true, true, true, true, true, false, false, false, false] rfl rfl (by kernel_rfl) (fun _ _ _ h => h) (Or.inl ⟨by rfl, ?_⟩) hHeld ?_ ?_
          rotate_left
          · rintro w' ⟨s0, s1, s2⟩
            go_simp
            with_reducible rfl
          rotate_left
          · simp only [Act.put, List.setIfInBounds_toArray, List.set_cons_zero, List.set_cons_succ, i64_w, i32_w]
            rfl
          refine pure_ (i := 8) (N := some 26) (v := ?_) (a' := ?_) #[true, true, true, true, true, true, true, true, true, false, false, false] rfl rfl (by kernel_rfl) (fun _ _ _ h => h) (Or.inl ⟨by rfl, ?_⟩) ?_ ?_
          rotate_left
          · intro w'
            go_simp
            with_reducible rfl
          rotate_left
          · simp only [Act.put, List.setIfInBounds_toArray, List.set_cons_zero, List.set_cons_succ, i64_w, i32_w]
            rfl
          refine pure_ (i := 9) (N := some 27) (v := ?_) (a' := ?_) #[true, true, true, true, true, true, true, true, true, true, false, false] rfl rfl (by kernel_rfl) (fun _ _ _ h => h) (Or.inl ⟨by rfl, ?_⟩) ?_ ?_
          rotate_left
          · intro w'
            go_simp
            with_reducible rfl
          rotate_left
          · simp only [Act.put, List.setIfInBounds_toArray, List.set_cons_zero, List.set_cons_succ, i64_w, i32_w]
            rfl
          refine take_ (i := 10) (N := some 28) (v := ?_) (a' := ?_) #[true, true, true, true, true, true, true, true, true, true, true, false] rfl rfl (by kernel_rfl) (fun _ _ _ h => h) (Or.inl ⟨by rfl, ?_⟩) hHeld ?_ ?_
          rotate_left
          · rintro w' ⟨s0, s1, s2⟩
            go_simp
            with_reducible rfl
          rotate_left
          · simp only [Act.put, List.setIfInBounds_toArray, List.set_cons_zero, List.set_cons_succ, i64_w, i32_w]
            rfl
          refine pure_ (i := 11) (N := some 2) (v := ?_) (a' := ?_) #[true, true, true, true, true, true, true, true, true, true, true, true] rfl rfl (by kernel_rfl) (fun _ _ _ h => h) (Or.inl ⟨by rfl, ?_⟩) ?_ ?_
          rotate_left
          · intro w'
            go_simp
            with_reducible rfl
          rotate_left
          · simp only [Act.put, List.setIfInBounds_toArray, List.set_cons_zero, List.set_cons_succ, i64_w, i32_w]
            rfl
          refine done_ (by kernel_rfl) ?_
          clear hHeld e0 e1 hC erd
          have hbd : Below w4.heap.size w4 (World.drew w4) := (Below.refl _ _).drew
          have HMd := Aside0.mk (HM4.out.trans (Mv.of_below (v := v1) (g := g) hbd HR4.out.base))
          have HRd := Aside0.mk (RQ.below HR4.out hbd)
          have hd2 : (World.drew w4).cell? ⟨g, 2, none⟩ = some (.int .i64 a1) := hc2
          have hdf2 : (World.drew w4).frozen? ⟨g, 2, none⟩ = false := hf2
          have hd3 : (World.drew w4).cell? ⟨g, 3, none⟩ = some (.bool false) := hc3
          have hdf3 : (World.drew w4).frozen? ⟨g, 3, none⟩ = false := hf3
          clear h1 h2 h3 h4 h5 hc0 hc2 hf2 hc3 hf3 hbd
          go_wp2_with (first | (go_at_call 111; obtain ⟨q1, q2⟩ := RQ.setAt HRd.out ((a1 : Int) + 1) (a1 + 1) (by omega); have HMs := Aside0.mk (HMd.out.trans q1); have HRs := Aside0.mk q2; clear q1 q2; refine (hC _ _ _ _ _ _ _ _ HRs.out hl (HLT.out) (by have := HLN.out; omega) HT2.out).mono ?_; rintro e w5 ⟨rfl, v5, a5, bad5, o5, hm, hq, b51, b52, b53, hmt⟩; have HM5 := Aside0.mk (HMs.out.trans hm); have HR5 := Aside0.mk hq; have HE5 := Aside0.mk hmt; have HB5 := Aside0.mk (And.intro b51 (And.intro b52 b53)); clear hm hq hmt b51 b52 b53 HMs HRs) | (go_at_call 39; refine (putQ_calls s.f0 HR5.out (by have := HB5.out; have := HLN.out; omega)).mono ?_; rintro e w6 ⟨rfl, v6, hm, hq⟩; have HM6 := Aside0.mk (HM5.out.trans hm); have HR6 := Aside0.mk hq; clear hm hq))
          go_roundg (l.length - a5)
          case measure => have := HK.out; have := HB5.out; omega
          case rel =>
            obtain ⟨b51, b52, b53⟩ := HB5.out
            refine ⟨v6, a5, bad5, _, rfl, HM6.out, HR6.out, by omega, b52, by rw [List.length_append]; simp only [List.length_cons, List.length_nil]; omega, ?_⟩
            have hrow2 := HROW2.out
            have hmt := HE5.out
            cases r2 with
            | none => exact Or.inl ⟨hmt, hrow2⟩
            | some st =>
              obtain ⟨j, hj⟩ := hrow2
              obtain ⟨e1, e2, e3⟩ := hmt
              refine Or.inr ⟨e1, j, ?_⟩
              rw [← e2, ← e3]
              exact hj
      · skip
        have hlt := sees_lt hs3
        have hd := List.drop_eq_getElem_cons hlt
        have hsk := (sees_at (o := o1) hlt).symm.trans hs3
        obtain ⟨s, hse⟩ : ∃ s, l[a1] = s := ⟨_, rfl⟩
        rw [hse] at hd hsk
        have HSE := Aside0.mk hse
        have hak := beq_iff_eq.1 hsk
        rw [hd] at hj
        obtain ⟨r2, ht2, hrow2⟩ := rowL_next hj (by rw [hak]; decide)
        have HT2 := Aside0.mk ht2
        have HROW2 := Aside0.mk hrow2
        have HLT := Aside0.mk (show a1 + 1 ≤ l.length by omega)
        have HLN := Aside0.mk (show o1.length ≤ 100000 + a1 by omega)
        have HS3 := Lib.hid hs3
        clear hs3 hj ht2 hrow2 hd hsk hak
        go_wp2_with (first | (go_at_call 38; (with_reducible refine (is_calls _ _ HQ.out hl HS3.out).mono ?_); rintro e w3 ⟨rfl, hb⟩; have HM3 := Aside0.mk (HM.out.trans (Mv.of_below (v := v1) (g := g) hb HQ.out.base)); have HR3 := Aside0.mk (RQ.below HQ.out hb); clear hb))
        clear hc3
        obtain ⟨A, c, h1, h2, h3, h4, h5⟩ := HR3.out
        have hc0 : w3.cell? ⟨g, 0, none⟩ = some (.slice A l.length c) := blk_cell h1 0
        have hc2 : w3.cell? ⟨g, 2, none⟩ = some (.int .i64 a1) := blk_cell h1 2
        have hf2 := blk_frozen h1 2
        have hc3 : w3.cell? ⟨g, 3, none⟩ = some (.bool false) := blk_cell h1 3
        have hf3 := blk_frozen h1 3
        have hC := h3 w3 (KeepBut.refl _ _ _)
        have hin : (a1 : Int) < (l.length : Int) := by omega
        have hin2 : decide ((a1 : Int) < (l.length : Int)) = true := decide_eq_true hin
        have hin3 : decide ((l.length : Int) ≤ (a1 : Int)) = false := decide_eq_false (by omega)
        obtain ⟨ad, eA, e0, e1⟩ := at_T39 hC (a1 : Int) (by omega) hin
        have erd : rd_T39 l (a1 : Int) = s := by
          rw [← HSE.out]
          unfold rd_T39
          rw [Int.toNat_natCast, List.getD_eq_getElem?_getD, List.getElem?_eq_getElem (by omega)]
          rfl
        rw [erd, Int.toNat_natCast] at e0 e1
        subst eA
        refine start_ (n := 12) (S := fun w' => w'.cell? ⟨g, 0, none⟩ = some (.slice (some ad) l.length c) ∧ w'.cell? ⟨g, 2, none⟩ = some (.int .i64 a1) ∧ w'.cell? (ad.add (a1 * 2)) = some (.int .i64 s.f0)) (ds := []) #[false, false, false, false, false, false, false, false, false, false, false, false] (by kernel_rfl) rfl rfl ⟨hc0, hc2, e0⟩ (fun hHeld => ?_)
        refine pure_ (i := 0) (N := some 18) (v := ?_) (a' := ?_) #[true, false, false, false, false, false, false, false, false, false, false, false] rfl rfl (by kernel_rfl) (fun _ _ _ h => h) (Or.inl ⟨by rfl, ?_⟩) ?_ ?_
        rotate_left
        · intro w'
          go_simp
          with_reducible rfl
        rotate_left
        · simp only [Act.put, List.setIfInBounds_toArray, List.set_cons_zero, List.set_cons_succ, i64_w, i32_w]
          rfl
        refine pure_ (i := 1) (N := some 19) (v := ?_) (a' := ?_) #[true, true, false, false, false, false, false, false, false, false, false, false] rfl rfl (by kernel_rfl) (fun _ _ _ h => h) (Or.inl ⟨by rfl, ?_⟩) ?_ ?_
        rotate_left
        · intro w'
          go_simp
          with_reducible rfl
        rotate_left
        · simp only [Act.put, List.setIfInBounds_toArray, List.set_cons_zero, List.set_cons_succ, i64_w, i32_w]
          rfl
        refine pure_ (i := 2) (N := some 20) (v := ?_) (a' := ?_) #[true, true, true, false, false, false, false, false, false, false, false, false] rfl rfl (by kernel_rfl) (fun _ _ _ h => h) (Or.inl ⟨by rfl, ?_⟩) ?_ ?_
        rotate_left
        · intro w'
          go_simp
          with_reducible rfl
        rotate_left
        · simp only [Act.put, List.setIfInBounds_toArray, List.set_cons_zero, List.set_cons_succ, i64_w, i32_w]
          rfl
        refine pure_ (i := 4) (N := some 22) (v := ?_) (a' := ?_) #[true, true, true, false, true, false, false, false, false, false, false, false] rfl rfl (by kernel_rfl) (fun _ _ _ h => h) (Or.inl ⟨by rfl, ?_⟩) ?_ ?_
        rotate_left
        · intro w'
          go_simp
          with_reducible rfl
        rotate_left
        · simp only [Act.put, List.setIfInBounds_toArray, List.set_cons_zero, List.set_cons_succ, i64_w, i32_w]
          rfl
        refine pure_ (i := 5) (N := some 23) (v := ?_) (a' := ?_) #[true, true, true, false, true, true, false, false, false, false, false, false] rfl rfl (by kernel_rfl) (fun _ _ _ h => h) (Or.inl ⟨by rfl, ?_⟩) ?_ ?_
        rotate_left
        · intro w'
          go_simp
          with_reducible rfl
        rotate_left
        · simp only [Act.put, List.setIfInBounds_toArray, List.set_cons_zero, List.set_cons_succ, i64_w, i32_w]
          rfl
        refine pure_ (i := 6) (N := some 24) (v := ?_) (a' := ?_) #[true, true, true, false, true, true, true, false, false, false, false, false] rfl rfl (by kernel_rfl) (fun _ _ _ h => h) (Or.inl ⟨by rfl, ?_⟩) ?_ ?_
        rotate_left
        · intro w'
          go_simp
          with_reducible rfl
        rotate_left
        · simp only [Act.put, List.setIfInBounds_toArray, List.set_cons_zero, List.set_cons_succ, i64_w, i32_w]
          rfl
        refine take_ (i := 3) (N := some 21) (v := ?_) (a' := ?_) #[true, true, true, true, true, true, true, false, false, false, false, false] rfl rfl (by kernel_rfl) (fun _ _ _ h => h) (Or.inl ⟨by rfl, ?_⟩) hHeld ?_ ?_
        rotate_left
        · rintro w' ⟨s0, s1, s2⟩
          go_simp
          with_reducible rfl
        rotate_left
        · simp only [Act.put, List.setIfInBounds_toArray, List.set_cons_zero, List.set_cons_succ, i64_w, i32_w]
          rfl
        refine take_ (i := 7) (N := some 25) (v := ?_) (a' := ?_) #[true, true, true, true, true, true, true, true, false, false, false, false] rfl rfl (by kernel_rfl) (fun _ _ _ h => h) (Or.inl ⟨by rfl, ?_⟩) hHeld ?_ ?_
        rotate_left
        · rintro w' ⟨s0, s1, s2⟩
          go_simp
          with_reducible rfl
        rotate_left
        · simp only [Act.put, List.setIfInBounds_toArray, List.set_cons_zero, List.set_cons_succ, i64_w, i32_w]
          rfl
        refine pure_ (i := 8) (N := some 26) (v := ?_) (a' := ?_) #[true, true, true, true, true, true, true, true, true, false, false, false] rfl rfl (by kernel_rfl) (fun _ _ _ h => h) (Or.inl ⟨by rfl, ?_⟩) ?_ ?_
        rotate_left
        · intro w'
          go_simp
          with_reducible rfl
        rotate_left
        · simp only [Act.put, List.setIfInBounds_toArray, List.set_cons_zero, List.set_cons_succ, i64_w, i32_w]
          rfl
        refine pure_ (i := 9) (N := some 27) (v := ?_) (a' := ?_) #[true, true, true, true, true, true, true, true, true, true, false, false] rfl rfl (by kernel_rfl) (fun _ _ _ h => h) (Or.inl ⟨by rfl, ?_⟩) ?_ ?_
        rotate_left
        · intro w'
          go_simp
          with_reducible rfl
        rotate_left
        · simp only [Act.put, List.setIfInBounds_toArray, List.set_cons_zero, List.set_cons_succ, i64_w, i32_w]
          rfl
        refine take_ (i := 10) (N := some 28) (v := ?_) (a' := ?_) #[true, true, true, true, true, true, true, true, true, true, true, false] rfl rfl (by kernel_rfl) (fun _ _ _ h => h) (Or.inl ⟨by rfl, ?_⟩) hHeld ?_ ?_
        rotate_left
        · rintro w' ⟨s0, s1, s2⟩
          go_simp
          with_reducible rfl
        rotate_left
        · simp only [Act.put, List.setIfInBounds_toArray, List.set_cons_zero, List.set_cons_succ, i64_w, i32_w]
          rfl
        refine pure_ (i := 11) (N := some 2) (v := ?_) (a' := ?_) #[true, true, true, true, true, true, true, true, true, true, true, true] rfl rfl (by kernel_rfl) (fun _ _ _ h => h) (Or.inl ⟨by rfl, ?_⟩) ?_ ?_
        rotate_left
        · intro w'
          go_simp
          with_reducible rfl
        rotate_left
        · simp only [Act.put, List.setIfInBounds_toArray, List.set_cons_zero, List.set_cons_succ, i64_w, i32_w]
          rfl
        refine done_ (by kernel_rfl) ?_
        clear hHeld e0 e1 hC erd
        have hbd : Below w3.heap.size w3 (World.drew w3) := (Below.refl _ _).drew
        have HMd := Aside0.mk (HM3.out.trans (Mv.of_below (v := v1) (g := g) hbd HR3.out.base))
        have HRd := Aside0.mk (RQ.below HR3.out hbd)
        have hd2 : (World.drew w3).cell? ⟨g, 2, none⟩ = some (.int .i64 a1) := hc2
        have hdf2 : (World.drew w3).frozen? ⟨g, 2, none⟩ = false := hf2
        have hd3 : (World.drew w3).cell? ⟨g, 3, none⟩ = some (.bool false) := hc3
        have hdf3 : (World.drew w3).frozen? ⟨g, 3, none⟩ = false := hf3
        clear h1 h2 h3 h4 h5 hc0 hc2 hf2 hc3 hf3 hbd
        go_wp2_with (first | (go_at_call 111; obtain ⟨q1, q2⟩ := RQ.setAt HRd.out ((a1 : Int) + 1) (a1 + 1) (by omega); have HMs := Aside0.mk (HMd.out.trans q1); have HRs := Aside0.mk q2; clear q1 q2; refine (hC _ _ _ _ _ _ _ _ HRs.out hl (HLT.out) (by have := HLN.out; omega) HT2.out).mono ?_; rintro e w5 ⟨rfl, v5, a5, bad5, o5, hm, hq, b51, b52, b53, hmt⟩; have HM5 := Aside0.mk (HMs.out.trans hm); have HR5 := Aside0.mk hq; have HE5 := Aside0.mk hmt; have HB5 := Aside0.mk (And.intro b51 (And.intro b52 b53)); clear hm hq hmt b51 b52 b53 HMs HRs) | (go_at_call 39; refine (putQ_calls s.f0 HR5.out (by have := HB5.out; have := HLN.out; omega)).mono ?_; rintro e w6 ⟨rfl, v6, hm, hq⟩; have HM6 := Aside0.mk (HM5.out.trans hm); have HR6 := Aside0.mk hq; clear hm hq))
        go_roundg (l.length - a5)
        case measure => have := HK.out; have := HB5.out; omega
        case rel =>
          obtain ⟨b51, b52, b53⟩ := HB5.out
          refine ⟨v6, a5, bad5, _, rfl, HM6.out, HR6.out, by omega, b52, by rw [List.length_append]; simp only [List.length_cons, List.length_nil]; omega, ?_⟩
          have hrow2 := HROW2.out
          have hmt := HE5.out
          cases r2 with
          | none => exact Or.inl ⟨hmt, hrow2⟩
          | some st =>
            obtain ⟨j, hj⟩ := hrow2
            obtain ⟨e1, e2, e3⟩ := hmt
            refine Or.inr ⟨e1, j, ?_⟩
            rw [← e2, ← e3]
            exact hj
theorem bnd_put {x : Rz} {kind : Int} {res : Option ST} (h : bnd x (putF kind) = some res) : ∃ r1, x = some r1 ∧ (match r1 with | none => res = none | some s => res = some (s.1, s.2 ++ [(⟨kind, 0⟩ : S39)])) := by
  cases x with
  | none => cases h
  | some r1 =>
    refine ⟨r1, rfl, ?_⟩
    cases r1 with
    | none => exact (Option.some.inj h).symm
    | some s => exact (Option.some.inj h).symm
theorem bnd_take {x : Rz} {kind : Int} {res : Option ST} (h : bnd x (takeF kind) = some res) : ∃ r1, x = some r1 ∧ (match r1 with | none => res = none | some s => takeF kind s = some res) := by
  cases x with
  | none => cases h
  | some r1 =>
    refine ⟨r1, rfl, ?_⟩
    cases r1 with
    | none => exact (Option.some.inj h).symm
    | some s => exact h
theorem put_end {b g : Nat} {l : List S39} {v v6 : Value} {w w6 : World} {a0 a5 n0 : Nat} {bad5 : Bool} {o5 : List S39} {kind : Int} {r1 res : Option ST} (hm : Mv b g v w v6 w6) (hq : RQ b g l v6 w6 a5 bad5 (o5 ++ [(⟨kind, 0⟩ : S39)])) (hb : a0 + 1 ≤ a5 ∧ a5 ≤ l.length ∧ o5.length + (a0 + 1) ≤ n0 + a5)
    (he : match (generalizing := false) r1 with | none => bad5 = true | some st => bad5 = false ∧ st.1 = l.drop a5 ∧ st.2 = o5) (hr : match (generalizing := false) r1 with | none => res = none | some s => res = some (s.1, s.2 ++ [(⟨kind, 0⟩ : S39)])) :
    PostQ b g l v w a0 n0 res (.returned (.tuple #[])) w6 := by
  refine ⟨rfl, v6, a5, bad5, _, hm, hq, by omega, hb.2.1, by rw [List.length_append]; simp only [List.length_cons, List.length_nil]; omega, ?_⟩
  cases r1 with
  | none => subst hr; exact he
  | some st =>
    obtain ⟨e1, e2, e3⟩ := he
    subst hr
    exact ⟨e1, e2, by rw [e3]⟩
theorem need_end {b g : Nat} {l : List S39} {v v5 : Value} {w w5 w6 : World} {a0 a5 n0 : Nat} {bad5 : Bool} {o5 : List S39} {kind : Int} {r1 res : Option ST} (hm : Mv b g v w v5 w5) (hb : a0 + 1 ≤ a5 ∧ a5 ≤ l.length ∧ o5.length + (a0 + 1) ≤ n0 + a5)
    (he : match (generalizing := false) r1 with | none => bad5 = true | some st => bad5 = false ∧ st.1 = l.drop a5 ∧ st.2 = o5) (hr : match (generalizing := false) r1 with | none => res = none | some s => takeF kind s = some res)
    (hc : (seesF kind (l.drop a5, o5) = true ∧ Mv b g v5 w5 v5 w6 ∧ RQ b g l v5 w6 (a5 + 1) bad5 o5) ∨ (seesF kind (l.drop a5, o5) = false ∧ Mv b g v5 w5 v5 w6 ∧ RQ b g l v5 w6 a5 true o5)) :
    PostQ b g l v w a0 n0 res (.returned (.tuple #[])) w6 := by
  rcases hc with ⟨hs, hm6, hq6⟩ | ⟨hs, hm6, hq6⟩
  · have hlt := sees_lt hs
    refine ⟨rfl, v5, a5 + 1, bad5, o5, hm.trans hm6, hq6, by omega, by omega, by omega, ?_⟩
    cases r1 with
    | none => subst hr; exact he
    | some st =>
      obtain ⟨s1, s2⟩ := st
      obtain ⟨e1, e2, e3⟩ := he
      have e2 : s1 = l.drop a5 := e2
      have e3 : s2 = o5 := e3
      subst e2; subst e3
      have hr : takeF kind (l.drop a5, s2) = some res := hr
      unfold takeF at hr
      rw [if_pos hs] at hr
      obtain rfl := Option.some.inj hr
      exact ⟨e1, by simp [List.tail_drop], rfl⟩
  · refine ⟨rfl, v5, a5, true, o5, hm.trans hm6, hq6, by omega, by omega, by omega, ?_⟩
    cases r1 with
    | none => subst hr; rfl
    | some st =>
      obtain ⟨s1, s2⟩ := st
      obtain ⟨e1, e2, e3⟩ := he
      have e2 : s1 = l.drop a5 := e2
      have e3 : s2 = o5 := e3
      subst e2; subst e3
      have hr : takeF kind (l.drop a5, s2) = some res := hr
      have hs : seesF kind (l.drop a5, s2) = false := hs
      unfold takeF at hr
      rw [if_neg (by rw [hs]; decide)] at hr
      obtain rfl := Option.some.inj hr
      rfl
set_option maxRecDepth 100000 in
set_option maxHeartbeats 3200000 in
theorem factorQ_calls {R : Nat → ST → Rz} (hC5 : CanQ R 5) (hC3 : CanQ R 3) {b g : Nat} {l : List S39} {v : Value} {w : World} {a0 : Nat} {o : List S39} (k : Nat) (res : Option ST) (h : RQ b g l v w a0 false o) (hl : l.length ≤ 100000) (ha : a0 ≤ l.length) (ho : o.length ≤ 100000 + a0)
    (hr : stepF R k 5 (l.drop a0, o) = some res) : Calls Tryz.prog 123 #[.pointer (some ⟨g, 0, none⟩)] w (PostQ b g l v w a0 o.length res) := by
  have H := Aside0.mk h
  have HM0 := Aside0.mk (Mv.refl (b := b) (g := g) (v := v) (w := w))
  have hc3 : w.cell? ⟨g, 3, none⟩ = some (.bool false) := by
    obtain ⟨A, c, h1, _⟩ := h
    exact blk_cell h1 3
  clear h
  have hr : (match l.drop a0 with | [] => some none | a :: r => if a.f0 = 1 ∨ a.f0 = 2 then some (some (r, o ++ [a])) else if a.f0 = 4 then bnd (R 5 (r, o)) (putF 19) else if a.f0 = 17 then bnd (R 3 (r, o)) (takeF 18) else some none) = some res := hr
  cases hs1 : seesF 1 (l.drop a0, o)
  · cases hs2 : seesF 2 (l.drop a0, o)
    · cases hs4 : seesF 4 (l.drop a0, o)
      · cases hs17 : seesF 17 (l.drop a0, o)
        · skip
          have hres : res = none := by
            by_cases hlt : a0 < l.length
            · have q1 := beq_eq_false_iff_ne.1 ((sees_at (o := o) hlt).symm.trans hs1)
              have q2 := beq_eq_false_iff_ne.1 ((sees_at (o := o) hlt).symm.trans hs2)
              have q4 := beq_eq_false_iff_ne.1 ((sees_at (o := o) hlt).symm.trans hs4)
              have q17 := beq_eq_false_iff_ne.1 ((sees_at (o := o) hlt).symm.trans hs17)
              rw [List.drop_eq_getElem_cons hlt] at hr
              dsimp only at hr
              rw [if_neg (by rintro (q | q); exact q1 q; exact q2 q), if_neg q4, if_neg q17] at hr
              exact (Option.some.inj hr).symm
            · rw [List.drop_eq_nil_of_le (by omega)] at hr
              exact (Option.some.inj hr).symm
          subst hres
          have HS1 := Lib.hid hs1
          have HS2 := Lib.hid hs2
          have HS4 := Lib.hid hs4
          have HS17 := Lib.hid hs17
          clear hs1 hs2 hs4 hs17
          go_enter Tryz.func123, Tryz.ntmps123
          go_wp2_with (first | (go_at_call 38; (with_reducible refine (is_calls _ _ H.out hl HS1.out).mono ?_); rintro e w1 ⟨rfl, hb⟩; have HM1 := Aside0.mk (HM0.out.trans (Mv.of_below (v := v) (g := g) hb H.out.base)); have HR1 := Aside0.mk (RQ.below H.out hb); obtain ⟨A9, c9, k9, _⟩ := HR1.out; have hc2 : w1.cell? ⟨g, 2, none⟩ = some (.int .i64 a0) := blk_cell k9 2; have hf2 := blk_frozen k9 2; have hc3 : w1.cell? ⟨g, 3, none⟩ = some (.bool false) := blk_cell k9 3; have hf3 := blk_frozen k9 3; clear k9; clear hb) | (go_at_call 38; (with_reducible refine (is_calls _ _ HR1.out hl HS2.out).mono ?_); rintro e w2 ⟨rfl, hb⟩; have HM2 := Aside0.mk (HM1.out.trans (Mv.of_below (v := v) (g := g) hb HR1.out.base)); have HR2 := Aside0.mk (RQ.below HR1.out hb); obtain ⟨A9, c9, k9, _⟩ := HR2.out; have hc2 : w2.cell? ⟨g, 2, none⟩ = some (.int .i64 a0) := blk_cell k9 2; have hf2 := blk_frozen k9 2; have hc3 : w2.cell? ⟨g, 3, none⟩ = some (.bool false) := blk_cell k9 3; have hf3 := blk_frozen k9 3; clear k9; clear hb) | (go_at_call 38; (with_reducible refine (is_calls _ _ HR2.out hl HS4.out).mono ?_); rintro e w3 ⟨rfl, hb⟩; have HM3 := Aside0.mk (HM2.out.trans (Mv.of_below (v := v) (g := g) hb HR2.out.base)); have HR3 := Aside0.mk (RQ.below HR2.out hb); obtain ⟨A9, c9, k9, _⟩ := HR3.out; have hc2 : w3.cell? ⟨g, 2, none⟩ = some (.int .i64 a0) := blk_cell k9 2; have hf2 := blk_frozen k9 2; have hc3 : w3.cell? ⟨g, 3, none⟩ = some (.bool false) := blk_cell k9 3; have hf3 := blk_frozen k9 3; clear k9; clear hb) | (go_at_call 38; (with_reducible refine (is_calls _ _ HR3.out hl HS17.out).mono ?_); rintro e w4 ⟨rfl, hb⟩; have HM4 := Aside0.mk (HM3.out.trans (Mv.of_below (v := v) (g := g) hb HR3.out.base)); have HR4 := Aside0.mk (RQ.below HR3.out hb); obtain ⟨A9, c9, k9, _⟩ := HR4.out; have hc2 : w4.cell? ⟨g, 2, none⟩ = some (.int .i64 a0) := blk_cell k9 2; have hf2 := blk_frozen k9 2; have hc3 : w4.cell? ⟨g, 3, none⟩ = some (.bool false) := blk_cell k9 3; have hf3 := blk_frozen k9 3; clear k9; clear hb))
          go_end0
          obtain ⟨q1, q2⟩ := RQ.setBad HR4.out true
          exact ⟨rfl, v, a0, true, o, HM4.out.trans q1, q2, by omega, by omega, by omega, rfl⟩
        · skip
          have hlt := sees_lt hs17
          have hsk := (sees_at (o := o) hlt).symm.trans hs17
          rw [List.drop_eq_getElem_cons hlt] at hr
          obtain ⟨s, hse⟩ : ∃ s, l[a0] = s := ⟨_, rfl⟩
          rw [hse] at hsk hr
          have HSE := Aside0.mk hse
          have hak := beq_iff_eq.1 hsk
          dsimp only at hr
          rw [if_neg (by rw [hak]; decide), if_neg (by rw [hak]; decide), if_pos hak] at hr
          obtain ⟨r1, ht2, hrw⟩ := bnd_take hr
          have HLT := Aside0.mk (show a0 + 1 ≤ l.length by omega)
          have HLN := Aside0.mk (show o.length ≤ 100000 + a0 by omega)
          have HT2 := Aside0.mk ht2
          have HRW := Aside0.mk hrw
          clear hr hsk hak ht2 hrw
          have HS1 := Lib.hid hs1
          have HS2 := Lib.hid hs2
          have HS4 := Lib.hid hs4
          have HS17 := Lib.hid hs17
          clear hs1 hs2 hs4 hs17
          go_enter Tryz.func123, Tryz.ntmps123
          go_wp2_with (first | (go_at_call 38; (with_reducible refine (is_calls _ _ H.out hl HS1.out).mono ?_); rintro e w1 ⟨rfl, hb⟩; have HM1 := Aside0.mk (HM0.out.trans (Mv.of_below (v := v) (g := g) hb H.out.base)); have HR1 := Aside0.mk (RQ.below H.out hb); obtain ⟨A9, c9, k9, _⟩ := HR1.out; have hc2 : w1.cell? ⟨g, 2, none⟩ = some (.int .i64 a0) := blk_cell k9 2; have hf2 := blk_frozen k9 2; have hc3 : w1.cell? ⟨g, 3, none⟩ = some (.bool false) := blk_cell k9 3; have hf3 := blk_frozen k9 3; clear k9; clear hb) | (go_at_call 38; (with_reducible refine (is_calls _ _ HR1.out hl HS2.out).mono ?_); rintro e w2 ⟨rfl, hb⟩; have HM2 := Aside0.mk (HM1.out.trans (Mv.of_below (v := v) (g := g) hb HR1.out.base)); have HR2 := Aside0.mk (RQ.below HR1.out hb); obtain ⟨A9, c9, k9, _⟩ := HR2.out; have hc2 : w2.cell? ⟨g, 2, none⟩ = some (.int .i64 a0) := blk_cell k9 2; have hf2 := blk_frozen k9 2; have hc3 : w2.cell? ⟨g, 3, none⟩ = some (.bool false) := blk_cell k9 3; have hf3 := blk_frozen k9 3; clear k9; clear hb) | (go_at_call 38; (with_reducible refine (is_calls _ _ HR2.out hl HS4.out).mono ?_); rintro e w3 ⟨rfl, hb⟩; have HM3 := Aside0.mk (HM2.out.trans (Mv.of_below (v := v) (g := g) hb HR2.out.base)); have HR3 := Aside0.mk (RQ.below HR2.out hb); obtain ⟨A9, c9, k9, _⟩ := HR3.out; have hc2 : w3.cell? ⟨g, 2, none⟩ = some (.int .i64 a0) := blk_cell k9 2; have hf2 := blk_frozen k9 2; have hc3 : w3.cell? ⟨g, 3, none⟩ = some (.bool false) := blk_cell k9 3; have hf3 := blk_frozen k9 3; clear k9; clear hb) | (go_at_call 38; (with_reducible refine (is_calls _ _ HR3.out hl HS17.out).mono ?_); rintro e w4 ⟨rfl, hb⟩; have HM4 := Aside0.mk (HM3.out.trans (Mv.of_below (v := v) (g := g) hb HR3.out.base)); have HR4 := Aside0.mk (RQ.below HR3.out hb); obtain ⟨A9, c9, k9, _⟩ := HR4.out; have hc2 : w4.cell? ⟨g, 2, none⟩ = some (.int .i64 a0) := blk_cell k9 2; have hf2 := blk_frozen k9 2; have hc3 : w4.cell? ⟨g, 3, none⟩ = some (.bool false) := blk_cell k9 3; have hf3 := blk_frozen k9 3; clear k9; clear hb) | (go_at_call 95; obtain ⟨q1, q2⟩ := RQ.setAt HR4.out ((a0 : Int) + 1) (a0 + 1) (by omega); have HMs := Aside0.mk (HM4.out.trans q1); have HRs := Aside0.mk q2; clear q1 q2; refine (hC3 _ _ _ _ _ _ _ _ HRs.out hl (HLT.out) (by have := HLN.out; omega) HT2.out).mono ?_; rintro e w5 ⟨rfl, v5, a5, bad5, o5, hm, hq, b51, b52, b53, hmt⟩; have HM5 := Aside0.mk (HMs.out.trans hm); have HR5 := Aside0.mk hq; have HE5 := Aside0.mk hmt; have HB5 := Aside0.mk (And.intro b51 (And.intro b52 b53)); clear hm hq hmt b51 b52 b53 HMs HRs) | (go_at_call 94; refine (needQ_calls 18 HR5.out hl HB5.out.2.1).mono ?_; rintro e w6 ⟨rfl, hcase⟩; have HC6 := Aside0.mk hcase; clear hcase))
          go_end0
          exact need_end HM5.out HB5.out HE5.out HRW.out HC6.out
      · skip
        have hlt := sees_lt hs4
        have hsk := (sees_at (o := o) hlt).symm.trans hs4
        rw [List.drop_eq_getElem_cons hlt] at hr
        obtain ⟨s, hse⟩ : ∃ s, l[a0] = s := ⟨_, rfl⟩
        rw [hse] at hsk hr
        have HSE := Aside0.mk hse
        have hak := beq_iff_eq.1 hsk
        dsimp only at hr
        rw [if_neg (by rw [hak]; decide), if_pos hak] at hr
        obtain ⟨r1, ht2, hrw⟩ := bnd_put hr
        have HLT := Aside0.mk (show a0 + 1 ≤ l.length by omega)
        have HLN := Aside0.mk (show o.length ≤ 100000 + a0 by omega)
        have HT2 := Aside0.mk ht2
        have HRW := Aside0.mk hrw
        clear hr hsk hak ht2 hrw
        have HS1 := Lib.hid hs1
        have HS2 := Lib.hid hs2
        have HS4 := Lib.hid hs4
        clear hs1 hs2 hs4
        go_enter Tryz.func123, Tryz.ntmps123
        go_wp2_with (first | (go_at_call 38; (with_reducible refine (is_calls _ _ H.out hl HS1.out).mono ?_); rintro e w1 ⟨rfl, hb⟩; have HM1 := Aside0.mk (HM0.out.trans (Mv.of_below (v := v) (g := g) hb H.out.base)); have HR1 := Aside0.mk (RQ.below H.out hb); obtain ⟨A9, c9, k9, _⟩ := HR1.out; have hc2 : w1.cell? ⟨g, 2, none⟩ = some (.int .i64 a0) := blk_cell k9 2; have hf2 := blk_frozen k9 2; have hc3 : w1.cell? ⟨g, 3, none⟩ = some (.bool false) := blk_cell k9 3; have hf3 := blk_frozen k9 3; clear k9; clear hb) | (go_at_call 38; (with_reducible refine (is_calls _ _ HR1.out hl HS2.out).mono ?_); rintro e w2 ⟨rfl, hb⟩; have HM2 := Aside0.mk (HM1.out.trans (Mv.of_below (v := v) (g := g) hb HR1.out.base)); have HR2 := Aside0.mk (RQ.below HR1.out hb); obtain ⟨A9, c9, k9, _⟩ := HR2.out; have hc2 : w2.cell? ⟨g, 2, none⟩ = some (.int .i64 a0) := blk_cell k9 2; have hf2 := blk_frozen k9 2; have hc3 : w2.cell? ⟨g, 3, none⟩ = some (.bool false) := blk_cell k9 3; have hf3 := blk_frozen k9 3; clear k9; clear hb) | (go_at_call 38; (with_reducible refine (is_calls _ _ HR2.out hl HS4.out).mono ?_); rintro e w3 ⟨rfl, hb⟩; have HM3 := Aside0.mk (HM2.out.trans (Mv.of_below (v := v) (g := g) hb HR2.out.base)); have HR3 := Aside0.mk (RQ.below HR2.out hb); obtain ⟨A9, c9, k9, _⟩ := HR3.out; have hc2 : w3.cell? ⟨g, 2, none⟩ = some (.int .i64 a0) := blk_cell k9 2; have hf2 := blk_frozen k9 2; have hc3 : w3.cell? ⟨g, 3, none⟩ = some (.bool false) := blk_cell k9 3; have hf3 := blk_frozen k9 3; clear k9; clear hb) | (go_at_call 123; obtain ⟨q1, q2⟩ := RQ.setAt HR3.out ((a0 : Int) + 1) (a0 + 1) (by omega); have HMs := Aside0.mk (HM3.out.trans q1); have HRs := Aside0.mk q2; clear q1 q2; refine (hC5 _ _ _ _ _ _ _ _ HRs.out hl (HLT.out) (by have := HLN.out; omega) HT2.out).mono ?_; rintro e w5 ⟨rfl, v5, a5, bad5, o5, hm, hq, b51, b52, b53, hmt⟩; have HM5 := Aside0.mk (HMs.out.trans hm); have HR5 := Aside0.mk hq; have HE5 := Aside0.mk hmt; have HB5 := Aside0.mk (And.intro b51 (And.intro b52 b53)); clear hm hq hmt b51 b52 b53 HMs HRs) | (go_at_call 39; refine (putQ_calls 19 HR5.out (by have := HB5.out; have := HLN.out; omega)).mono ?_; rintro e w6 ⟨rfl, v6, hm, hq⟩; have HM6 := Aside0.mk (HM5.out.trans hm); have HR6 := Aside0.mk hq; clear hm hq))
        go_end0
        exact put_end HM6.out HR6.out HB5.out HE5.out HRW.out
    · skip
      have hlt := sees_lt hs2
      have hsk := (sees_at (o := o) hlt).symm.trans hs2
      rw [List.drop_eq_getElem_cons hlt] at hr
      obtain ⟨s, hse⟩ : ∃ s, l[a0] = s := ⟨_, rfl⟩
      rw [hse] at hsk hr
      have HSE := Aside0.mk hse
      have hak := beq_iff_eq.1 hsk
      dsimp only at hr
      rw [if_pos (Or.inr hak)] at hr
      obtain rfl := Option.some.inj hr
      clear hr hsk hak
      have HS1 := Lib.hid hs1
      have HS2 := Lib.hid hs2
      clear hs1 hs2
      go_enter Tryz.func123, Tryz.ntmps123
      go_wp2_with (first | (go_at_call 38; (with_reducible refine (is_calls _ _ H.out hl HS1.out).mono ?_); rintro e w1 ⟨rfl, hb⟩; have HM1 := Aside0.mk (HM0.out.trans (Mv.of_below (v := v) (g := g) hb H.out.base)); have HR1 := Aside0.mk (RQ.below H.out hb); obtain ⟨A9, c9, k9, _⟩ := HR1.out; have hc2 : w1.cell? ⟨g, 2, none⟩ = some (.int .i64 a0) := blk_cell k9 2; have hf2 := blk_frozen k9 2; have hc3 : w1.cell? ⟨g, 3, none⟩ = some (.bool false) := blk_cell k9 3; have hf3 := blk_frozen k9 3; clear k9; clear hb) | (go_at_call 38; (with_reducible refine (is_calls _ _ HR1.out hl HS2.out).mono ?_); rintro e w2 ⟨rfl, hb⟩; have HM2 := Aside0.mk (HM1.out.trans (Mv.of_below (v := v) (g := g) hb HR1.out.base)); have HR2 := Aside0.mk (RQ.below HR1.out hb); obtain ⟨A9, c9, k9, _⟩ := HR2.out; have hc2 : w2.cell? ⟨g, 2, none⟩ = some (.int .i64 a0) := blk_cell k9 2; have hf2 := blk_frozen k9 2; have hc3 : w2.cell? ⟨g, 3, none⟩ = some (.bool false) := blk_cell k9 3; have hf3 := blk_frozen k9 3; clear k9; clear hb))
      clear hc2 hf2 hc3 hf3
      obtain ⟨A, c, h1, h2, h3, h4, h5⟩ := HR2.out
      have hc0 : w2.cell? ⟨g, 0, none⟩ = some (.slice A l.length c) := blk_cell h1 0
      have hc2 : w2.cell? ⟨g, 2, none⟩ = some (.int .i64 a0) := blk_cell h1 2
      have hf2 := blk_frozen h1 2
      have hc3 : w2.cell? ⟨g, 3, none⟩ = some (.bool false) := blk_cell h1 3
      have hf3 := blk_frozen h1 3
      have hC := h3 w2 (KeepBut.refl _ _ _)
      have hin : (a0 : Int) < (l.length : Int) := by omega
      have hin2 : decide ((a0 : Int) < (l.length : Int)) = true := decide_eq_true hin
      have hin3 : decide ((l.length : Int) ≤ (a0 : Int)) = false := decide_eq_false (by omega)
      obtain ⟨ad, eA, e0, e1⟩ := at_T39 hC (a0 : Int) (by omega) hin
      have erd : rd_T39 l (a0 : Int) = s := by
        rw [← HSE.out]
        unfold rd_T39
        rw [Int.toNat_natCast, List.getD_eq_getElem?_getD, List.getElem?_eq_getElem (by omega)]
        rfl
      rw [erd, Int.toNat_natCast] at e0 e1
      subst eA
      have hc1 : w2.cell? ⟨g, 1, none⟩ = some v := blk_cell h1 1
      have HO := Aside0.mk h4
      have HS := Aside0.mk (RQ.base HR2.out)
      have H1 := Aside0.mk h1
      have HN := Aside0.mk (RQ.ne HR2.out)
      clear h1 h2 h3 h4 h5 hC erd hc3 hf3 hf2
      refine start_ (n := 20) (S := fun w' => w'.cell? ⟨g, 0, none⟩ = some (.slice (some ad) l.length c) ∧ w'.cell? ⟨g, 1, none⟩ = some v ∧ w'.cell? ⟨g, 2, none⟩ = some (.int .i64 a0) ∧ w'.cell? (ad.add (a0 * 2)) = some (.int .i64 s.f0) ∧ w'.cell? ⟨(ad.add (a0 * 2)).block, (ad.add (a0 * 2)).off + 1, none⟩ = some (.int .i64 s.f1)) (ds := [16, 19]) #[false, false, false, false, false, false, false, false, false, false, false, false, false, false, false, false, false, false, false, false] (by kernel_rfl) rfl rfl ⟨hc0, hc1, hc2, e0, e1⟩ (fun hHeld => ?_)
      refine pure_ (i := 0) (N := some 17) (v := ?_) (a' := ?_) #[true, false, false, false, false, false, false, false, false, false, false, false, false, false, false, false, false, false, false, false] rfl rfl (by kernel_rfl) (fun _ _ _ h => h) (Or.inl ⟨by rfl, ?_⟩) ?_ ?_
      rotate_left
      · intro w'
        go_simp
        with_reducible rfl
      rotate_left
      · simp only [Act.put, List.setIfInBounds_toArray, List.set_cons_zero, List.set_cons_succ, i64_w, i32_w]
        rfl
      refine pure_ (i := 1) (N := some 18) (v := ?_) (a' := ?_) #[true, true, false, false, false, false, false, false, false, false, false, false, false, false, false, false, false, false, false, false] rfl rfl (by kernel_rfl) (fun _ _ _ h => h) (Or.inl ⟨by rfl, ?_⟩) ?_ ?_
      rotate_left
      · intro w'
        go_simp
        with_reducible rfl
      rotate_left
      · simp only [Act.put, List.setIfInBounds_toArray, List.set_cons_zero, List.set_cons_succ, i64_w, i32_w]
        rfl
      refine pure_ (i := 2) (N := some 19) (v := ?_) (a' := ?_) #[true, true, true, false, false, false, false, false, false, false, false, false, false, false, false, false, false, false, false, false] rfl rfl (by kernel_rfl) (fun _ _ _ h => h) (Or.inl ⟨by rfl, ?_⟩) ?_ ?_
      rotate_left
      · intro w'
        go_simp
        with_reducible rfl
      rotate_left
      · simp only [Act.put, List.setIfInBounds_toArray, List.set_cons_zero, List.set_cons_succ, i64_w, i32_w]
        rfl
      refine pure_ (i := 3) (N := some 20) (v := ?_) (a' := ?_) #[true, true, true, true, false, false, false, false, false, false, false, false, false, false, false, false, false, false, false, false] rfl rfl (by kernel_rfl) (fun _ _ _ h => h) (Or.inl ⟨by rfl, ?_⟩) ?_ ?_
      rotate_left
      · intro w'
        go_simp
        with_reducible rfl
      rotate_left
      · simp only [Act.put, List.setIfInBounds_toArray, List.set_cons_zero, List.set_cons_succ, i64_w, i32_w]
        rfl
      refine pure_ (i := 5) (N := some 22) (v := ?_) (a' := ?_) #[true, true, true, true, false, true, false, false, false, false, false, false, false, false, false, false, false, false, false, false] rfl rfl (by kernel_rfl) (fun _ _ _ h => h) (Or.inl ⟨by rfl, ?_⟩) ?_ ?_
      rotate_left
      · intro w'
        go_simp
        with_reducible rfl
      rotate_left
      · simp only [Act.put, List.setIfInBounds_toArray, List.set_cons_zero, List.set_cons_succ, i64_w, i32_w]
        rfl
      refine pure_ (i := 6) (N := some 23) (v := ?_) (a' := ?_) #[true, true, true, true, false, true, true, false, false, false, false, false, false, false, false, false, false, false, false, false] rfl rfl (by kernel_rfl) (fun _ _ _ h => h) (Or.inl ⟨by rfl, ?_⟩) ?_ ?_
      rotate_left
      · intro w'
        go_simp
        with_reducible rfl
      rotate_left
      · simp only [Act.put, List.setIfInBounds_toArray, List.set_cons_zero, List.set_cons_succ, i64_w, i32_w]
        rfl
      refine pure_ (i := 7) (N := some 24) (v := ?_) (a' := ?_) #[true, true, true, true, false, true, true, true, false, false, false, false, false, false, false, false, false, false, false, false] rfl rfl (by kernel_rfl) (fun _ _ _ h => h) (Or.inl ⟨by rfl, ?_⟩) ?_ ?_
      rotate_left
      · intro w'
        go_simp
        with_reducible rfl
      rotate_left
      · simp only [Act.put, List.setIfInBounds_toArray, List.set_cons_zero, List.set_cons_succ, i64_w, i32_w]
        rfl
      refine pure_ (i := 9) (N := some 26) (v := ?_) (a' := ?_) #[true, true, true, true, false, true, true, true, false, true, false, false, false, false, false, false, false, false, false, false] rfl rfl (by kernel_rfl) (fun _ _ _ h => h) (Or.inl ⟨by rfl, ?_⟩) ?_ ?_
      rotate_left
      · intro w'
        go_simp
        with_reducible rfl
      rotate_left
      · simp only [Act.put, List.setIfInBounds_toArray, List.set_cons_zero, List.set_cons_succ, i64_w, i32_w]
        rfl
      refine pure_ (i := 10) (N := some 27) (v := ?_) (a' := ?_) #[true, true, true, true, false, true, true, true, false, true, true, false, false, false, false, false, false, false, false, false] rfl rfl (by kernel_rfl) (fun _ _ _ h => h) (Or.inl ⟨by rfl, ?_⟩) ?_ ?_
      rotate_left
      · intro w'
        go_simp
        with_reducible rfl
      rotate_left
      · simp only [Act.put, List.setIfInBounds_toArray, List.set_cons_zero, List.set_cons_succ, i64_w, i32_w]
        rfl
      refine pure_ (i := 11) (N := some 28) (v := ?_) (a' := ?_) #[true, true, true, true, false, true, true, true, false, true, true, true, false, false, false, false, false, false, false, false] rfl rfl (by kernel_rfl) (fun _ _ _ h => h) (Or.inl ⟨by rfl, ?_⟩) ?_ ?_
      rotate_left
      · intro w'
        go_simp
        with_reducible rfl
      rotate_left
      · simp only [Act.put, List.setIfInBounds_toArray, List.set_cons_zero, List.set_cons_succ, i64_w, i32_w]
        rfl
      refine take_ (i := 4) (N := some 21) (v := ?_) (a' := ?_) #[true, true, true, true, true, true, true, true, false, true, true, true, false, false, false, false, false, false, false, false] rfl rfl (by kernel_rfl) (fun _ _ _ h => h) (Or.inl ⟨by rfl, ?_⟩) hHeld ?_ ?_
      rotate_left
      · rintro w' ⟨s0, s1, s2, s3, s4⟩
        go_simp
        with_reducible rfl
      rotate_left
      · simp only [Act.put, List.setIfInBounds_toArray, List.set_cons_zero, List.set_cons_succ, i64_w, i32_w]
        rfl
      refine take_ (i := 8) (N := some 25) (v := ?_) (a' := ?_) #[true, true, true, true, true, true, true, true, true, true, true, true, false, false, false, false, false, false, false, false] rfl rfl (by kernel_rfl) (fun _ _ _ h => h) (Or.inl ⟨by rfl, ?_⟩) hHeld ?_ ?_
      rotate_left
      · rintro w' ⟨s0, s1, s2, s3, s4⟩
        go_simp
        with_reducible rfl
      rotate_left
      · simp only [Act.put, List.setIfInBounds_toArray, List.set_cons_zero, List.set_cons_succ, i64_w, i32_w]
        rfl
      refine take_ (i := 12) (N := some 29) (v := ?_) (a' := ?_) #[true, true, true, true, true, true, true, true, true, true, true, true, true, false, false, false, false, false, false, false] rfl rfl (by kernel_rfl) (fun _ _ _ h => h) (Or.inl ⟨by rfl, ?_⟩) hHeld ?_ ?_
      rotate_left
      · rintro w' ⟨s0, s1, s2, s3, s4⟩
        go_simp
        with_reducible rfl
      rotate_left
      · simp only [Act.put, List.setIfInBounds_toArray, List.set_cons_zero, List.set_cons_succ, i64_w, i32_w]
        rfl
      refine pure_ (i := 13) (N := some 30) (v := ?_) (a' := ?_) #[true, true, true, true, true, true, true, true, true, true, true, true, true, true, false, false, false, false, false, false] rfl rfl (by kernel_rfl) (fun _ _ _ h => h) (Or.inl ⟨by rfl, ?_⟩) ?_ ?_
      rotate_left
      · intro w'
        go_simp
        with_reducible rfl
      rotate_left
      · simp only [Act.put, List.setIfInBounds_toArray, List.set_cons_zero, List.set_cons_succ, i64_w, i32_w]
        rfl
      refine take_ (i := 14) (N := some 31) (v := ?_) (a' := ?_) #[true, true, true, true, true, true, true, true, true, true, true, true, true, true, true, false, false, false, false, false] rfl rfl (by kernel_rfl) (fun _ _ _ h => h) (Or.inl ⟨by rfl, ?_⟩) hHeld ?_ ?_
      rotate_left
      · rintro w' ⟨s0, s1, s2, s3, s4⟩
        go_simp
        with_reducible rfl
      rotate_left
      · simp only [Act.put, List.setIfInBounds_toArray, List.set_cons_zero, List.set_cons_succ, i64_w, i32_w]
        rfl
      refine one_ (i := 15) (N := some 32) #[true, true, true, true, true, true, true, true, true, true, true, true, true, true, true, true, false, false, false, false] rfl rfl (by kernel_rfl) (by decide) (fun K hK => ?_)
      refine value_ (w1 := ?_) (v := ?_) (by rfl) rfl ?_ ?_
      rotate_left 2
      · go_simp
        constructor
        · rfl
        · rfl
      refine hK.out _ _ ⟨(cell_alloc_keep _ hHeld.1), (cell_alloc_keep _ hHeld.2.1), (cell_alloc_keep _ hHeld.2.2.1), (cell_alloc_keep _ hHeld.2.2.2.1), (cell_alloc_keep _ hHeld.2.2.2.2)⟩ (fun hHeld => ?_)
      clear hK K
      refine norm_ (a' := ?_) ?_ ?_
      rotate_left
      · show Act.put _ (some 32) _ = _
        simp only [Act.put, List.setIfInBounds_toArray, List.set_cons_zero, List.set_cons_succ, i64_w, i32_w]
        rfl
      refine last_ (i := 16) (N := some 33) #[true, true, true, true, true, true, true, true, true, true, true, true, true, true, true, true, true, false, false, false] rfl rfl (by kernel_rfl) (by decide) (fun K hK => ?_)
      refine Kd.R_append_step k39 (w0 := World.drew w2) (W := World.drew w2) b (by rfl) (.tmp 21) (.tmp 32) 23 39 (.agg #[(.int .i64 0), (.int .i64 0)]) 16 rfl Tryz.underlying23 info39 rfl (by decide) (by omega) v o s [.int .i64 s.f0, .int .i64 s.f1] (fun _ => True) (fun _ => False) rfl rfl ?aP (fun _ hk => hk.elim) ?aF ?aO ?aB ?aS ?aL ?_
      case aP => exact k39_mkM _ _ _ s
      case aF => exact (fun _ _ => trivial)
      case aO => exact Kd.R_drew HO.out
      case aB => exact Below.refl _ _
      case aS => exact HS.out
      case aL => omega
      intro vz wz ho hb hg hat
      obtain ⟨A1, c1, e1, _, _⟩ := Kd.R_reads ho
      subst e1
      have hb1 := blk_grown (w := World.drew w2) H1.out hg HN.out
      have hcell : wz.cell? ⟨g, 1, none⟩ = some v := blk_cell hb1 1
      have hfr : wz.frozen? ⟨g, 1, none⟩ = false := blk_frozen hb1 1
      have hz2 : wz.cell? ⟨g, 2, none⟩ = some (.int .i64 a0) := blk_cell hb1 2
      have hzf2 : wz.frozen? ⟨g, 2, none⟩ = false := blk_frozen hb1 2
      have HO1 := Aside0.mk ho
      have HB1 := Aside0.mk hb
      have HG1 := Aside0.mk hg
      have HA1 := Aside0.mk hat
      clear ho hb hg hat hb1
      refine hK.out _ _ ?_
      clear hK K
      refine norm_ (a' := ?_) ?_ ?_
      rotate_left
      · show Act.put _ (some 33) _ = _
        simp only [Act.put, List.setIfInBounds_toArray, List.set_cons_zero, List.set_cons_succ, i64_w, i32_w]
        rfl
      refine pure_ (i := 17) (N := some 34) (v := ?_) (a' := ?_) #[true, true, true, true, true, true, true, true, true, true, true, true, true, true, true, true, true, true, false, false] rfl rfl (by kernel_rfl) (fun _ _ _ h => h) (Or.inl ⟨by rfl, ?_⟩) ?_ ?_
      rotate_left
      · intro w'
        go_simp
        with_reducible rfl
      rotate_left
      · simp only [Act.put, List.setIfInBounds_toArray, List.set_cons_zero, List.set_cons_succ, i64_w, i32_w]
        rfl
      refine pure_ (i := 18) (N := some 35) (v := ?_) (a' := ?_) #[true, true, true, true, true, true, true, true, true, true, true, true, true, true, true, true, true, true, true, false] rfl rfl (by kernel_rfl) (fun _ _ _ h => h) (Or.inl ⟨by rfl, ?_⟩) ?_ ?_
      rotate_left
      · intro w'
        go_simp
        with_reducible rfl
      rotate_left
      · simp only [Act.put, List.setIfInBounds_toArray, List.set_cons_zero, List.set_cons_succ, i64_w, i32_w]
        rfl
      refine last_ (i := 19) (N := none) #[true, true, true, true, true, true, true, true, true, true, true, true, true, true, true, true, true, true, true, true] rfl rfl (by kernel_rfl) (by decide) (fun K hK => ?_)
      refine skip_ (w1 := ?_) (by rfl) rfl ?_ ?_
      rotate_left
      · go_simp
        rfl
      refine hK.out _ _ ?_
      clear hK K
      refine done_ (by kernel_rfl) ?_
      clear hcell hfr hc0 hc1 hc2 e0 e1 hHeld
      have hbd : Below w2.heap.size w2 (World.drew w2) := (Below.refl _ _).drew
      obtain ⟨q1, q2⟩ := RQ.stored (RQ.below HR2.out hbd) HO1.out HB1.out HG1.out HA1.out
      have q3 := (HM2.out.trans (Mv.of_below (v := v) (g := g) hbd HS.out)).trans q1
      have e : o.length + 1 = (o ++ [s]).length := by simp
      rw [← e] at q1 q2 q3
      clear hz2 hzf2 e
      generalize wz.setCell ⟨g, 1, none⟩ (.slice A1 (o.length + 1) c1) = W8 at q1 q2 q3 ⊢
      obtain ⟨A8, c8, k8, _⟩ := id q2
      have hz2 : W8.cell? ⟨g, 2, none⟩ = some (.int .i64 a0) := blk_cell k8 2
      have hzf2 := blk_frozen k8 2
      clear k8
      obtain ⟨q4, q5⟩ := RQ.setAt q2 ((a0 : Int) + 1) (a0 + 1) (by omega)
      have HF := Aside0.mk (And.intro (q3.trans q4) q5)
      clear q1 q2 q3 q4 q5 hbd
      go_wp2
      trace_state
      go_end0
      exact ⟨rfl, _, a0 + 1, false, _, HF.out.1, HF.out.2, by omega, by omega, by rw [List.length_append]; simp only [List.length_cons, List.length_nil]; omega, rfl, rfl, rfl⟩
  · skip
    have hlt := sees_lt hs1
    have hsk := (sees_at (o := o) hlt).symm.trans hs1
    rw [List.drop_eq_getElem_cons hlt] at hr
    obtain ⟨s, hse⟩ : ∃ s, l[a0] = s := ⟨_, rfl⟩
    rw [hse] at hsk hr
    have HSE := Aside0.mk hse
    have hak := beq_iff_eq.1 hsk
    dsimp only at hr
    rw [if_pos (Or.inl hak)] at hr
    obtain rfl := Option.some.inj hr
    clear hr hsk hak
    have HS1 := Lib.hid hs1
    clear hs1
    go_enter Tryz.func123, Tryz.ntmps123
    go_wp2_with (first | (go_at_call 38; (with_reducible refine (is_calls _ _ H.out hl HS1.out).mono ?_); rintro e w1 ⟨rfl, hb⟩; have HM1 := Aside0.mk (HM0.out.trans (Mv.of_below (v := v) (g := g) hb H.out.base)); have HR1 := Aside0.mk (RQ.below H.out hb); obtain ⟨A9, c9, k9, _⟩ := HR1.out; have hc2 : w1.cell? ⟨g, 2, none⟩ = some (.int .i64 a0) := blk_cell k9 2; have hf2 := blk_frozen k9 2; have hc3 : w1.cell? ⟨g, 3, none⟩ = some (.bool false) := blk_cell k9 3; have hf3 := blk_frozen k9 3; clear k9; clear hb))
    clear hc2 hf2 hc3 hf3
    obtain ⟨A, c, h1, h2, h3, h4, h5⟩ := HR1.out
    have hc0 : w1.cell? ⟨g, 0, none⟩ = some (.slice A l.length c) := blk_cell h1 0
    have hc2 : w1.cell? ⟨g, 2, none⟩ = some (.int .i64 a0) := blk_cell h1 2
    have hf2 := blk_frozen h1 2
    have hc3 : w1.cell? ⟨g, 3, none⟩ = some (.bool false) := blk_cell h1 3
    have hf3 := blk_frozen h1 3
    have hC := h3 w1 (KeepBut.refl _ _ _)
    have hin : (a0 : Int) < (l.length : Int) := by omega
    have hin2 : decide ((a0 : Int) < (l.length : Int)) = true := decide_eq_true hin
    have hin3 : decide ((l.length : Int) ≤ (a0 : Int)) = false := decide_eq_false (by omega)
    obtain ⟨ad, eA, e0, e1⟩ := at_T39 hC (a0 : Int) (by omega) hin
    have erd : rd_T39 l (a0 : Int) = s := by
      rw [← HSE.out]
      unfold rd_T39
      rw [Int.toNat_natCast, List.getD_eq_getElem?_getD, List.getElem?_eq_getElem (by omega)]
      rfl
    rw [erd, Int.toNat_natCast] at e0 e1
    subst eA
    have hc1 : w1.cell? ⟨g, 1, none⟩ = some v := blk_cell h1 1
    have HO := Aside0.mk h4
    have HS := Aside0.mk (RQ.base HR1.out)
    have H1 := Aside0.mk h1
    have HN := Aside0.mk (RQ.ne HR1.out)
    clear h1 h2 h3 h4 h5 hC erd hc3 hf3 hf2
    refine start_ (n := 20) (S := fun w' => w'.cell? ⟨g, 0, none⟩ = some (.slice (some ad) l.length c) ∧ w'.cell? ⟨g, 1, none⟩ = some v ∧ w'.cell? ⟨g, 2, none⟩ = some (.int .i64 a0) ∧ w'.cell? (ad.add (a0 * 2)) = some (.int .i64 s.f0) ∧ w'.cell? ⟨(ad.add (a0 * 2)).block, (ad.add (a0 * 2)).off + 1, none⟩ = some (.int .i64 s.f1)) (ds := [16, 19]) #[false, false, false, false, false, false, false, false, false, false, false, false, false, false, false, false, false, false, false, false] (by kernel_rfl) rfl rfl ⟨hc0, hc1, hc2, e0, e1⟩ (fun hHeld => ?_)
    refine pure_ (i := 0) (N := some 17) (v := ?_) (a' := ?_) #[true, false, false, false, false, false, false, false, false, false, false, false, false, false, false, false, false, false, false, false] rfl rfl (by kernel_rfl) (fun _ _ _ h => h) (Or.inl ⟨by rfl, ?_⟩) ?_ ?_
    rotate_left
    · intro w'
      go_simp
      with_reducible rfl
    rotate_left
    · simp only [Act.put, List.setIfInBounds_toArray, List.set_cons_zero, List.set_cons_succ, i64_w, i32_w]
      rfl
    refine pure_ (i := 1) (N := some 18) (v := ?_) (a' := ?_) #[true, true, false, false, false, false, false, false, false, false, false, false, false, false, false, false, false, false, false, false] rfl rfl (by kernel_rfl) (fun _ _ _ h => h) (Or.inl ⟨by rfl, ?_⟩) ?_ ?_
    rotate_left
    · intro w'
      go_simp
      with_reducible rfl
    rotate_left
    · simp only [Act.put, List.setIfInBounds_toArray, List.set_cons_zero, List.set_cons_succ, i64_w, i32_w]
      rfl
    refine pure_ (i := 2) (N := some 19) (v := ?_) (a' := ?_) #[true, true, true, false, false, false, false, false, false, false, false, false, false, false, false, false, false, false, false, false] rfl rfl (by kernel_rfl) (fun _ _ _ h => h) (Or.inl ⟨by rfl, ?_⟩) ?_ ?_
    rotate_left
    · intro w'
      go_simp
      with_reducible rfl
    rotate_left
    · simp only [Act.put, List.setIfInBounds_toArray, List.set_cons_zero, List.set_cons_succ, i64_w, i32_w]
      rfl
    refine pure_ (i := 3) (N := some 20) (v := ?_) (a' := ?_) #[true, true, true, true, false, false, false, false, false, false, false, false, false, false, false, false, false, false, false, false] rfl rfl (by kernel_rfl) (fun _ _ _ h => h) (Or.inl ⟨by rfl, ?_⟩) ?_ ?_
    rotate_left
    · intro w'
      go_simp
      with_reducible rfl
    rotate_left
    · simp only [Act.put, List.setIfInBounds_toArray, List.set_cons_zero, List.set_cons_succ, i64_w, i32_w]
      rfl
    refine pure_ (i := 5) (N := some 22) (v := ?_) (a' := ?_) #[true, true, true, true, false, true, false, false, false, false, false, false, false, false, false, false, false, false, false, false] rfl rfl (by kernel_rfl) (fun _ _ _ h => h) (Or.inl ⟨by rfl, ?_⟩) ?_ ?_
    rotate_left
    · intro w'
      go_simp
      with_reducible rfl
    rotate_left
    · simp only [Act.put, List.setIfInBounds_toArray, List.set_cons_zero, List.set_cons_succ, i64_w, i32_w]
      rfl
    refine pure_ (i := 6) (N := some 23) (v := ?_) (a' := ?_) #[true, true, true, true, false, true, true, false, false, false, false, false, false, false, false, false, false, false, false, false] rfl rfl (by kernel_rfl) (fun _ _ _ h => h) (Or.inl ⟨by rfl, ?_⟩) ?_ ?_
    rotate_left
    · intro w'
      go_simp
      with_reducible rfl
    rotate_left
    · simp only [Act.put, List.setIfInBounds_toArray, List.set_cons_zero, List.set_cons_succ, i64_w, i32_w]
      rfl
    refine pure_ (i := 7) (N := some 24) (v := ?_) (a' := ?_) #[true, true, true, true, false, true, true, true, false, false, false, false, false, false, false, false, false, false, false, false] rfl rfl (by kernel_rfl) (fun _ _ _ h => h) (Or.inl ⟨by rfl, ?_⟩) ?_ ?_
    rotate_left
    · intro w'
      go_simp
      with_reducible rfl
    rotate_left
    · simp only [Act.put, List.setIfInBounds_toArray, List.set_cons_zero, List.set_cons_succ, i64_w, i32_w]
      rfl
    refine pure_ (i := 9) (N := some 26) (v := ?_) (a' := ?_) #[true, true, true, true, false, true, true, true, false, true, false, false, false, false, false, false, false, false, false, false] rfl rfl (by kernel_rfl) (fun _ _ _ h => h) (Or.inl ⟨by rfl, ?_⟩) ?_ ?_
    rotate_left
    · intro w'
      go_simp
      with_reducible rfl
    rotate_left
    · simp only [Act.put, List.setIfInBounds_toArray, List.set_cons_zero, List.set_cons_succ, i64_w, i32_w]
      rfl
    refine pure_ (i := 10) (N := some 27) (v := ?_) (a' := ?_) #[true, true, true, true, false, true, true, true, false, true, true, false, false, false, false, false, false, false, false, false] rfl rfl (by kernel_rfl) (fun _ _ _ h => h) (Or.inl ⟨by rfl, ?_⟩) ?_ ?_
    rotate_left
    · intro w'
      go_simp
      with_reducible rfl
    rotate_left
    · simp only [Act.put, List.setIfInBounds_toArray, List.set_cons_zero, List.set_cons_succ, i64_w, i32_w]
      rfl
    refine pure_ (i := 11) (N := some 28) (v := ?_) (a' := ?_) #[true, true, true, true, false, true, true, true, false, true, true, true, false, false, false, false, false, false, false, false] rfl rfl (by kernel_rfl) (fun _ _ _ h => h) (Or.inl ⟨by rfl, ?_⟩) ?_ ?_
    rotate_left
    · intro w'
      go_simp
      with_reducible rfl
    rotate_left
    · simp only [Act.put, List.setIfInBounds_toArray, List.set_cons_zero, List.set_cons_succ, i64_w, i32_w]
      rfl
    refine take_ (i := 4) (N := some 21) (v := ?_) (a' := ?_) #[true, true, true, true, true, true, true, true, false, true, true, true, false, false, false, false, false, false, false, false] rfl rfl (by kernel_rfl) (fun _ _ _ h => h) (Or.inl ⟨by rfl, ?_⟩) hHeld ?_ ?_
    rotate_left
    · rintro w' ⟨s0, s1, s2, s3, s4⟩
      go_simp
      with_reducible rfl
    rotate_left
    · simp only [Act.put, List.setIfInBounds_toArray, List.set_cons_zero, List.set_cons_succ, i64_w, i32_w]
      rfl
    refine take_ (i := 8) (N := some 25) (v := ?_) (a' := ?_) #[true, true, true, true, true, true, true, true, true, true, true, true, false, false, false, false, false, false, false, false] rfl rfl (by kernel_rfl) (fun _ _ _ h => h) (Or.inl ⟨by rfl, ?_⟩) hHeld ?_ ?_
    rotate_left
    · rintro w' ⟨s0, s1, s2, s3, s4⟩
      go_simp
      with_reducible rfl
    rotate_left
    · simp only [Act.put, List.setIfInBounds_toArray, List.set_cons_zero, List.set_cons_succ, i64_w, i32_w]
      rfl
    refine take_ (i := 12) (N := some 29) (v := ?_) (a' := ?_) #[true, true, true, true, true, true, true, true, true, true, true, true, true, false, false, false, false, false, false, false] rfl rfl (by kernel_rfl) (fun _ _ _ h => h) (Or.inl ⟨by rfl, ?_⟩) hHeld ?_ ?_
    rotate_left
    · rintro w' ⟨s0, s1, s2, s3, s4⟩
      go_simp
      with_reducible rfl
    rotate_left
    · simp only [Act.put, List.setIfInBounds_toArray, List.set_cons_zero, List.set_cons_succ, i64_w, i32_w]
      rfl
    refine pure_ (i := 13) (N := some 30) (v := ?_) (a' := ?_) #[true, true, true, true, true, true, true, true, true, true, true, true, true, true, false, false, false, false, false, false] rfl rfl (by kernel_rfl) (fun _ _ _ h => h) (Or.inl ⟨by rfl, ?_⟩) ?_ ?_
    rotate_left
    · intro w'
      go_simp
      with_reducible rfl
    rotate_left
    · simp only [Act.put, List.setIfInBounds_toArray, List.set_cons_zero, List.set_cons_succ, i64_w, i32_w]
      rfl
    refine take_ (i := 14) (N := some 31) (v := ?_) (a' := ?_) #[true, true, true, true, true, true, true, true, true, true, true, true, true, true, true, false, false, false, false, false] rfl rfl (by kernel_rfl) (fun _ _ _ h => h) (Or.inl ⟨by rfl, ?_⟩) hHeld ?_ ?_
    rotate_left
    · rintro w' ⟨s0, s1, s2, s3, s4⟩
      go_simp
      with_reducible rfl
    rotate_left
    · simp only [Act.put, List.setIfInBounds_toArray, List.set_cons_zero, List.set_cons_succ, i64_w, i32_w]
      rfl
    refine one_ (i := 15) (N := some 32) #[true, true, true, true, true, true, true, true, true, true, true, true, true, true, true, true, false, false, false, false] rfl rfl (by kernel_rfl) (by decide) (fun K hK => ?_)
    refine value_ (w1 := ?_) (v := ?_) (by rfl) rfl ?_ ?_
    rotate_left 2
    · go_simp
      constructor
      · rfl
      · rfl
    refine hK.out _ _ ⟨(cell_alloc_keep _ hHeld.1), (cell_alloc_keep _ hHeld.2.1), (cell_alloc_keep _ hHeld.2.2.1), (cell_alloc_keep _ hHeld.2.2.2.1), (cell_alloc_keep _ hHeld.2.2.2.2)⟩ (fun hHeld => ?_)
    clear hK K
    refine norm_ (a' := ?_) ?_ ?_
    rotate_left
    · show Act.put _ (some 32) _ = _
      simp only [Act.put, List.setIfInBounds_toArray, List.set_cons_zero, List.set_cons_succ, i64_w, i32_w]
      rfl
    refine last_ (i := 16) (N := some 33) #[true, true, true, true, true, true, true, true, true, true, true, true, true, true, true, true, true, false, false, false] rfl rfl (by kernel_rfl) (by decide) (fun K hK => ?_)
    refine Kd.R_append_step k39 (w0 := World.drew w1) (W := World.drew w1) b (by rfl) (.tmp 21) (.tmp 32) 23 39 (.agg #[(.int .i64 0), (.int .i64 0)]) 16 rfl Tryz.underlying23 info39 rfl (by decide) (by omega) v o s [.int .i64 s.f0, .int .i64 s.f1] (fun _ => True) (fun _ => False) rfl rfl ?aP (fun _ hk => hk.elim) ?aF ?aO ?aB ?aS ?aL ?_
    case aP => exact k39_mkM _ _ _ s
    case aF => exact (fun _ _ => trivial)
    case aO => exact Kd.R_drew HO.out
    case aB => exact Below.refl _ _
    case aS => exact HS.out
    case aL => omega
    intro vz wz ho hb hg hat
    obtain ⟨A1, c1, e1, _, _⟩ := Kd.R_reads ho
    subst e1
    have hb1 := blk_grown (w := World.drew w1) H1.out hg HN.out
    have hcell : wz.cell? ⟨g, 1, none⟩ = some v := blk_cell hb1 1
    have hfr : wz.frozen? ⟨g, 1, none⟩ = false := blk_frozen hb1 1
    have hz2 : wz.cell? ⟨g, 2, none⟩ = some (.int .i64 a0) := blk_cell hb1 2
    have hzf2 : wz.frozen? ⟨g, 2, none⟩ = false := blk_frozen hb1 2
    have HO1 := Aside0.mk ho
    have HB1 := Aside0.mk hb
    have HG1 := Aside0.mk hg
    have HA1 := Aside0.mk hat
    clear ho hb hg hat hb1
    refine hK.out _ _ ?_
    clear hK K
    refine norm_ (a' := ?_) ?_ ?_
    rotate_left
    · show Act.put _ (some 33) _ = _
      simp only [Act.put, List.setIfInBounds_toArray, List.set_cons_zero, List.set_cons_succ, i64_w, i32_w]
      rfl
    refine pure_ (i := 17) (N := some 34) (v := ?_) (a' := ?_) #[true, true, true, true, true, true, true, true, true, true, true, true, true, true, true, true, true, true, false, false] rfl rfl (by kernel_rfl) (fun _ _ _ h => h) (Or.inl ⟨by rfl, ?_⟩) ?_ ?_
    rotate_left
    · intro w'
      go_simp
      with_reducible rfl
    rotate_left
    · simp only [Act.put, List.setIfInBounds_toArray, List.set_cons_zero, List.set_cons_succ, i64_w, i32_w]
      rfl
    refine pure_ (i := 18) (N := some 35) (v := ?_) (a' := ?_) #[true, true, true, true, true, true, true, true, true, true, true, true, true, true, true, true, true, true, true, false] rfl rfl (by kernel_rfl) (fun _ _ _ h => h) (Or.inl ⟨by rfl, ?_⟩) ?_ ?_
    rotate_left
    · intro w'
      go_simp
      with_reducible rfl
    rotate_left
    · simp only [Act.put, List.setIfInBounds_toArray, List.set_cons_zero, List.set_cons_succ, i64_w, i32_w]
      rfl
    refine last_ (i := 19) (N := none) #[true, true, true, true, true, true, true, true, true, true, true, true, true, true, true, true, true, true, true, true] rfl rfl (by kernel_rfl) (by decide) (fun K hK => ?_)
    refine skip_ (w1 := ?_) (by rfl) rfl ?_ ?_
    rotate_left
    · go_simp
      rfl
    refine hK.out _ _ ?_
    clear hK K
    refine done_ (by kernel_rfl) ?_
    clear hcell hfr hc0 hc1 hc2 e0 e1 hHeld
    have hbd : Below w1.heap.size w1 (World.drew w1) := (Below.refl _ _).drew
    obtain ⟨q1, q2⟩ := RQ.stored (RQ.below HR1.out hbd) HO1.out HB1.out HG1.out HA1.out
    have q3 := (HM1.out.trans (Mv.of_below (v := v) (g := g) hbd HS.out)).trans q1
    have e : o.length + 1 = (o ++ [s]).length := by simp
    rw [← e] at q1 q2 q3
    clear hz2 hzf2 e
    generalize wz.setCell ⟨g, 1, none⟩ (.slice A1 (o.length + 1) c1) = W8 at q1 q2 q3 ⊢
    obtain ⟨A8, c8, k8, _⟩ := id q2
    have hz2 : W8.cell? ⟨g, 2, none⟩ = some (.int .i64 a0) := blk_cell k8 2
    have hzf2 := blk_frozen k8 2
    clear k8
    obtain ⟨q4, q5⟩ := RQ.setAt q2 ((a0 : Int) + 1) (a0 + 1) (by omega)
    have HF := Aside0.mk (And.intro (q3.trans q4) q5)
    clear q1 q2 q3 q4 q5 hbd
    go_wp2
    trace_state
    go_end0
    exact ⟨rfl, _, a0 + 1, false, _, HF.out.1, HF.out.2, by omega, by omega, by rw [List.length_append]; simp only [List.length_cons, List.length_nil]; omega, rfl, rfl, rfl⟩
end Go.Proofs.YtikbgoppmailjaaGreatDoor.H
