import Derived.Test.YtikbgoppmailjaaHLs29
/- SymMerge's plain law: what a merge makes. -/
namespace Go.Proofs.Ytikbgoppmailjaa.H
open Go.RowKit Go.HK Go.Maps Go.Sort Go.Lib
set_option linter.unusedVariables false
set_option linter.unusedSimpArgs false
/-- By the end, then by the number. -/
def T3 (x y : G3) : Prop := x.2.2 < y.2.2 ∨ (x.2.2 = y.2.2 ∧ x.1 < y.1)
def Srt (a b : Nat) (f : Nat → G3) : Prop := ∀ i j, a ≤ i → i < j → j < b → T3 (f i) (f j)
/-- Two sorted halves; of equal ends the number on the left is smaller. -/
structure Mrg (a m b : Nat) (f : Nat → G3) : Prop where
  left : Srt a m f
  right : Srt m b f
  eq : ∀ i j, a ≤ i → i < m → m ≤ j → j < b → (f i).2.2 = (f j).2.2 → (f i).1 < (f j).1
/-- What a merge makes of a row. -/
structure SymPost (L a m b : Nat) (f f' : Nat → G3) : Prop where
  out : ∀ i, i < a ∨ b ≤ i → f' i = f i
  perm : (lst L f').Perm (lst L f)
  block : ∀ i, a ≤ i → i < b → ∃ j, a ≤ j ∧ j < b ∧ f' i = f j
  srt : Mrg a m b f → Srt a b f'
theorem T3.trans {x y z : G3} (h : T3 x y) (k : T3 y z) : T3 x z := by
  unfold T3 at *
  omega
theorem T3.le {x y : G3} (h : T3 x y) : x.2.2 ≤ y.2.2 := by
  unfold T3 at h
  omega
theorem cmpI_neg {a b : Int} : cmpI a b < 0 ↔ a < b := by
  unfold cmpI
  repeat' split <;> omega
theorem Srt.mono {a b a' b' : Nat} {f : Nat → G3} (h : Srt a b f) (h1 : a ≤ a') (h2 : b' ≤ b) : Srt a' b' f := fun i j p q r => h i j (by omega) q (by omega)
theorem Srt.le {a b : Nat} {f : Nat → G3} (h : Srt a b f) {i j : Nat} (h1 : a ≤ i) (h2 : i ≤ j) (h3 : j < b) : (f i).2.2 ≤ (f j).2.2 := by
  by_cases e : i = j
  · subst e; exact Int.le_refl _
  · exact (h i j h1 (by omega) h3).le
theorem Srt.congr {a b : Nat} {f f' : Nat → G3} (h : Srt a b f) (e : ∀ i, a ≤ i → i < b → f' i = f i) : Srt a b f' := fun i j p q r => by
  rw [e i p (by omega), e j (by omega) r]
  exact h i j p q r
theorem Srt.join {a m b : Nat} {f : Nat → G3} (h1 : Srt a m f) (h2 : Srt m b f) (h3 : ∀ i j, a ≤ i → i < m → m ≤ j → j < b → T3 (f i) (f j)) : Srt a b f := fun i j p q r => by
  by_cases c : j < m
  · exact h1 i j p q c
  · by_cases c2 : i < m
    · exact h3 i j p c2 (by omega) r
    · exact h2 i j (by omega) q r
/-- One on the left. -/
theorem left_post {L a b i : Nat} {f : Nat → G3} (hab : a + 1 < b) (hb : b ≤ L) (s : Srch (a + 1) b (fun h => cmpI (f h).2.2 (f a).2.2 < 0) i i) : SymPost L a (a + 1) b f (fL f a (i - 1)) := by
  have hi := s.lo_le
  have hi2 := s.le_hi
  refine ⟨?_, ?_, ?_, ?_⟩
  · intro x h
    unfold fL
    rw [if_pos (by omega)]
  · have := fL_perm L a f (i - 1 - a) (by omega)
    rwa [show a + (i - 1 - a) = i - 1 by omega] at this
  · intro x h1 h2
    by_cases c : i - 1 < x
    · exact ⟨x, h1, h2, by unfold fL; rw [if_pos (by omega)]⟩
    · by_cases c2 : x = i - 1
      · exact ⟨a, by omega, by omega, by unfold fL; rw [if_neg (by omega), if_pos c2]⟩
      · exact ⟨x + 1, by omega, by omega, by unfold fL; rw [if_neg (by omega), if_neg c2]⟩
  · intro M
    have lo : ∀ h, a + 1 ≤ h → h < i → T3 (f h) (f a) := by
      intro h h1 h2
      rcases s.left with e | r
      · omega
      · have r' := cmpI_neg.mp r
        have := M.right.le h1 (show h ≤ i - 1 by omega) (by omega)
        left; omega
    have hi' : ∀ h, i ≤ h → h < b → T3 (f a) (f h) := by
      intro h h1 h2
      rcases s.right with e | r
      · omega
      · have r' : ¬ (f i).2.2 < (f a).2.2 := fun q => r (cmpI_neg.mpr q)
        have h3 := M.right.le (show a + 1 ≤ i by omega) h1 h2
        have h4 := M.eq a h (Nat.le_refl _) (by omega) (by omega) h2
        unfold T3
        omega
    have S1 : Srt a (i - 1) (fL f a (i - 1)) := by
      intro x y h1 h2 h3
      unfold fL
      rw [if_neg (by omega), if_neg (by omega), if_neg (by omega), if_neg (by omega)]
      exact M.right _ _ (by omega) (by omega) (by omega)
    have S2 : Srt i b (fL f a (i - 1)) := by
      intro x y h1 h2 h3
      unfold fL
      rw [if_pos (by omega), if_pos (by omega)]
      exact M.right _ _ (by omega) (by omega) (by omega)
    have S3 : Srt (i - 1) b (fL f a (i - 1)) := by
      refine Srt.join (m := i) (fun x y p q r => by omega) S2 (fun x y h1 h2 h3 h4 => ?_)
      unfold fL
      rw [if_neg (by omega), if_pos (show x = i - 1 by omega), if_pos (by omega)]
      exact hi' y h3 h4
    refine Srt.join S1 S3 (fun x y h1 h2 h3 h4 => ?_)
    unfold fL
    rw [if_neg (show ¬ (x < a ∨ i - 1 < x) by omega), if_neg (show ¬ x = i - 1 by omega)]
    by_cases c : y = i - 1
    · rw [if_neg (by omega), if_pos c]
      exact lo _ (by omega) (by omega)
    · rw [if_pos (by omega)]
      exact M.right _ _ (by omega) (by omega) (by omega)
/-- One on the right. -/
theorem right_post {L a m i : Nat} {f : Nat → G3} (ham : a < m) (hb : m + 1 ≤ L) (s : Srch a m (fun h => ¬ cmpI (f m).2.2 (f h).2.2 < 0) i i) : SymPost L a m (m + 1) f (fR f m i) := by
  have hi := s.lo_le
  have hi2 := s.le_hi
  refine ⟨?_, fR_perm L i f m (by omega) (m - i) i (by omega), ?_, ?_⟩
  · intro x h
    unfold fR
    rw [if_pos (by omega)]
  · intro x h1 h2
    by_cases c : x < i
    · exact ⟨x, h1, h2, by unfold fR; rw [if_pos (by omega)]⟩
    · by_cases c2 : x = i
      · exact ⟨m, by omega, by omega, by unfold fR; rw [if_neg (by omega), if_pos c2]⟩
      · exact ⟨x - 1, by omega, by omega, by unfold fR; rw [if_neg (by omega), if_neg c2]⟩
  · intro M
    have lo : ∀ h, a ≤ h → h < i → T3 (f h) (f m) := by
      intro h h1 h2
      rcases s.left with e | r
      · omega
      · have r' : ¬ (f m).2.2 < (f (i - 1)).2.2 := fun q => r (cmpI_neg.mpr q)
        have h3 := M.left.le h1 (show h ≤ i - 1 by omega) (by omega)
        have h4 := M.eq h m h1 (by omega) (Nat.le_refl _) (by omega)
        unfold T3
        omega
    have hi' : ∀ h, i ≤ h → h < m → T3 (f m) (f h) := by
      intro h h1 h2
      rcases s.right with e | r
      · omega
      · have r' := cmpI_neg.mp (Classical.not_not.mp r)
        have := M.left.le (show a ≤ i by omega) h1 h2
        left; omega
    have S1 : Srt a i (fR f m i) := by
      intro x y h1 h2 h3
      unfold fR
      rw [if_pos (by omega), if_pos (by omega)]
      exact M.left _ _ (by omega) (by omega) (by omega)
    have S2 : Srt (i + 1) (m + 1) (fR f m i) := by
      intro x y h1 h2 h3
      unfold fR
      rw [if_neg (by omega), if_neg (by omega), if_neg (by omega), if_neg (by omega)]
      exact M.left _ _ (by omega) (by omega) (by omega)
    have S3 : Srt i (m + 1) (fR f m i) := by
      refine Srt.join (m := i + 1) (fun x y p q r => by omega) S2 (fun x y h1 h2 h3 h4 => ?_)
      unfold fR
      rw [if_neg (by omega), if_pos (show x = i by omega), if_neg (by omega), if_neg (by omega)]
      exact hi' _ (by omega) (by omega)
    refine Srt.join S1 S3 (fun x y h1 h2 h3 h4 => ?_)
    unfold fR
    rw [if_pos (show x < i ∨ m < x by omega)]
    by_cases c : y = i
    · rw [if_neg (by omega), if_pos c]
      exact lo _ (by omega) (by omega)
    · rw [if_neg (by omega), if_neg c]
      exact M.left _ _ (by omega) (by omega) (by omega)
theorem turn_out {f : Nat → G3} {s m e x : Nat} (h : x < s ∨ e ≤ x) : turn f s m e x = f x := by unfold turn; rw [if_pos h]
theorem turn_lo {f : Nat → G3} {s m e x : Nat} (h1 : s ≤ x) (h2 : x < s + (e - m)) (h3 : s ≤ m) (h4 : m ≤ e) : turn f s m e x = f (x + (m - s)) := by unfold turn; rw [if_neg (by omega), if_pos h2]
theorem turn_hi {f : Nat → G3} {s m e x : Nat} (h1 : s + (e - m) ≤ x) (h2 : x < e) (h3 : s ≤ m) (h4 : m ≤ e) : turn f s m e x = f (x - (e - m)) := by unfold turn; rw [if_neg (by omega), if_neg (by omega)]
theorem turn_left {f : Nat → G3} {m e : Nat} : turn f m m e = f := by
  funext x
  unfold turn
  split
  · rfl
  · rw [if_pos (by omega)]; congr 1; omega
theorem turn_right {f : Nat → G3} {s m : Nat} : turn f s m m = f := by
  funext x
  unfold turn
  split
  · rfl
  · rw [if_neg (by omega)]; congr 1; omega
/-- What the middle's search tells. -/
structure Mid (f : Nat → G3) (a m b md s e : Nat) : Prop where
  las : a ≤ s
  smd : s ≤ md
  sm : s ≤ m
  me : m ≤ e
  eb : e ≤ b
  sum : e + s = md + m
  left : s = a ∨ e = b ∨ (0 < s ∧ ¬ cmpI (f e).2.2 (f (s - 1)).2.2 < 0)
  right : s = md ∨ s = m ∨ cmpI (f (e - 1)).2.2 (f s).2.2 < 0
theorem Mid.turned {f : Nat → G3} {a m b md s e : Nat} (h : Mid f a m b md s e) : (∀ x, x < a ∨ b ≤ x → turn f s m e x = f x) ∧ (∀ x, a ≤ x → x < b → ∃ y, a ≤ y ∧ y < b ∧ turn f s m e x = f y) := by
  obtain ⟨h1, h2, h3, h4, h5, h6, _, _⟩ := h
  refine ⟨fun x hx => turn_out (by omega), fun x hx hy => ?_⟩
  by_cases c : x < s ∨ e ≤ x
  · exact ⟨x, hx, hy, turn_out c⟩
  · by_cases c2 : x < s + (e - m)
    · exact ⟨_, by omega, by omega, turn_lo (by omega) c2 h3 h4⟩
    · exact ⟨_, by omega, by omega, turn_hi (by omega) (by omega) h3 h4⟩
theorem Mid.mrg {f : Nat → G3} {a m b md s e : Nat} (h : Mid f a m b md s e) (M : Mrg a m b f) : Mrg a s md (turn f s m e) ∧ Mrg md e b (turn f s m e) ∧ ∀ x y, a ≤ x → x < md → md ≤ y → y < b → T3 (turn f s m e x) (turn f s m e y) := by
  obtain ⟨h1, h2, h3, h4, h5, h6, hl, hr⟩ := h
  refine ⟨⟨?_, ?_, ?_⟩, ⟨?_, ?_, ?_⟩, ?_⟩
  · exact (M.left.mono (Nat.le_refl _) h3).congr (fun i p q => turn_out (by omega))
  · intro i j p q r
    rw [turn_lo (by omega) (by omega) h3 h4, turn_lo (by omega) (by omega) h3 h4]
    exact M.right _ _ (by omega) (by omega) (by omega)
  · intro i j p q r t
    rw [turn_out (by omega), turn_lo (by omega) (by omega) h3 h4]
    exact M.eq _ _ (by omega) (by omega) (by omega) (by omega)
  · intro i j p q r
    rw [turn_hi (by omega) (by omega) h3 h4, turn_hi (by omega) (by omega) h3 h4]
    exact M.left _ _ (by omega) (by omega) (by omega)
  · exact (M.right.mono h4 (Nat.le_refl _)).congr (fun i p q => turn_out (by omega))
  · intro i j p q r t
    rw [turn_hi (by omega) (by omega) h3 h4, turn_out (by omega)]
    exact M.eq _ _ (by omega) (by omega) (by omega) (by omega)
  · intro x y p q r t
    by_cases c : x < s
    · rw [turn_out (Or.inl c)]
      by_cases c2 : y < e
      · rw [turn_hi (by omega) c2 h3 h4]
        exact M.left _ _ (by omega) (by omega) (by omega)
      · rw [turn_out (by omega)]
        have hk : ¬ (f e).2.2 < (f (s - 1)).2.2 := by
          rcases hl with e1 | e1 | ⟨_, e1⟩
          · omega
          · omega
          · exact fun q => e1 (cmpI_neg.mpr q)
        have k1 := M.left.le p (show x ≤ s - 1 by omega) (by omega)
        have k2 := M.right.le h4 (show e ≤ y by omega) t
        have k3 := M.eq x y p (by omega) (by omega) t
        unfold T3
        omega
    · rw [turn_lo (by omega) (by omega) h3 h4]
      by_cases c2 : y < e
      · rw [turn_hi (by omega) c2 h3 h4]
        have hk : (f (e - 1)).2.2 < (f s).2.2 := by
          rcases hr with e1 | e1 | e1
          · omega
          · omega
          · exact cmpI_neg.mp e1
        have k1 := M.right.le (show m ≤ x + (m - s) by omega) (show x + (m - s) ≤ e - 1 by omega) (by omega)
        have k2 := M.left.le h1 (show s ≤ y - (e - m) by omega) (by omega)
        left
        omega
      · rw [turn_out (Or.inr (by omega))]
        exact M.right _ _ (by omega) (by omega) t
/-- An empty merge is no merge. -/
theorem SymPost.none {L a m b : Nat} {f : Nat → G3} (h : m ≤ a ∨ b ≤ m) (h1 : a ≤ m) (h2 : m ≤ b) : SymPost L a m b f f :=
  ⟨fun _ _ => rfl, List.Perm.refl _, fun i p q => ⟨i, p, q, rfl⟩, fun M => by
    rcases h with e | e
    · obtain rfl : m = a := by omega
      exact M.right
    · obtain rfl : b = m := by omega
      exact M.left⟩
theorem SymPost.main {L a m b md s e : Nat} {f f2 f3 : Nat → G3} (hp : (lst L (turn f s m e)).Perm (lst L f)) (h : Mid f a m b md s e) (p2 : SymPost L a s md (turn f s m e) f2) (p3 : SymPost L md e b f2 f3) : SymPost L a m b f f3 := by
  obtain ⟨t1, t2⟩ := h.turned
  have g1 := h.las
  have g2 := h.smd
  have g3 := h.me
  have g4 := h.eb
  have g5 := h.sum
  have g6 := h.sm
  refine ⟨?_, (p3.perm.trans p2.perm).trans hp, ?_, ?_⟩
  · intro i hi
    rw [p3.out i (by omega), p2.out i (by omega), t1 i hi]
  · have blk2 : ∀ i, a ≤ i → i < b → ∃ j, a ≤ j ∧ j < b ∧ f2 i = f j := by
      intro i p q
      by_cases c : i < md
      · obtain ⟨j, a1, a2, a3⟩ := p2.block i p c
        obtain ⟨k, b1, b2, b3⟩ := t2 j a1 (by omega)
        exact ⟨k, b1, b2, a3.trans b3⟩
      · obtain ⟨k, b1, b2, b3⟩ := t2 i p q
        exact ⟨k, b1, b2, (p2.out i (by omega)).trans b3⟩
    intro i p q
    by_cases c : md ≤ i
    · obtain ⟨j, a1, a2, a3⟩ := p3.block i c q
      obtain ⟨k, b1, b2, b3⟩ := blk2 j (by omega) a2
      exact ⟨k, b1, b2, a3.trans b3⟩
    · obtain ⟨k, b1, b2, b3⟩ := blk2 i p q
      exact ⟨k, b1, b2, (p3.out i (by omega)).trans b3⟩
  · intro M
    obtain ⟨m1, m2, m3⟩ := h.mrg M
    have s2 := p2.srt m1
    have m2' : Mrg md e b f2 := by
      have E : ∀ i, md ≤ i → i < b → f2 i = turn f s m e i := fun i p q => p2.out i (by omega)
      refine ⟨m2.left.congr (fun i p q => E i p (by omega)), m2.right.congr (fun i p q => E i (by omega) q), fun i j p q r t => ?_⟩
      rw [E i p (by omega), E j (by omega) t]
      exact m2.eq i j p q r t
    have s3 := p3.srt m2'
    refine Srt.join (m := md) (s2.congr (fun i p q => p3.out i (by omega))) s3 (fun x y p q r t => ?_)
    obtain ⟨x', u1, u2, u3⟩ := p2.block x p q
    obtain ⟨y', v1, v2, v3⟩ := p3.block y r t
    rw [p3.out x (by omega), u3, v3, p2.out y' (by omega)]
    exact m3 x' y' u1 u2 v1 v2
end Go.Proofs.Ytikbgoppmailjaa.H
