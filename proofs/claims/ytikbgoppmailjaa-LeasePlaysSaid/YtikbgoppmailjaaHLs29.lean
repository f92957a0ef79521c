import Derived.Test.YtikbgoppmailjaaHLs24
/- SymMerge's plain law: binary searches, shifts, the rotation; what merging makes. -/
namespace Go.Proofs.Ytikbgoppmailjaa.H
open Go.RowKit Go.HK Go.Maps Go.Sort Go.Lib
set_option linter.unusedVariables false
set_option linter.unusedSimpArgs false
/-- A binary search between lo and hi: it goes right where Rt holds. -/
structure Srch (lo hi : Nat) (Rt : Nat → Prop) (i j : Nat) : Prop where
  lo_le : lo ≤ i
  le : i ≤ j
  le_hi : j ≤ hi
  left : i = lo ∨ Rt (i - 1)
  right : j = hi ∨ ¬ Rt j
theorem Srch.start {lo hi : Nat} {Rt : Nat → Prop} (h : lo ≤ hi) : Srch lo hi Rt lo hi := ⟨Nat.le_refl _, h, Nat.le_refl _, Or.inl rfl, Or.inl rfl⟩
theorem Srch.goRight {lo hi : Nat} {Rt : Nat → Prop} {i j h : Nat} (s : Srch lo hi Rt i j) (h1 : i ≤ h) (h2 : h < j) (r : Rt h) : Srch lo hi Rt (h + 1) j :=
  ⟨by have := s.lo_le; omega, by omega, s.le_hi, Or.inr (by simpa using r), s.right⟩
theorem Srch.goLeft {lo hi : Nat} {Rt : Nat → Prop} {i j h : Nat} (s : Srch lo hi Rt i j) (h1 : i ≤ h) (h2 : h < j) (r : ¬ Rt h) : Srch lo hi Rt i h :=
  ⟨s.lo_le, h1, by have := s.le_hi; omega, s.left, Or.inr r⟩
/-- f with the place a shifted up to k. -/
def fL (f : Nat → G3) (a k : Nat) : Nat → G3 := fun x => if x < a ∨ k < x then f x else if x = k then f a else f (x + 1)
/-- f with the place m shifted down to k. -/
def fR (f : Nat → G3) (m k : Nat) : Nat → G3 := fun x => if x < k ∨ m < x then f x else if x = k then f m else f (x - 1)
theorem fL_self (f : Nat → G3) (a : Nat) : fL f a a = f := by
  funext x
  unfold fL
  split
  · rfl
  · rename_i h
    have e : x = a := by omega
    subst e
    simp
theorem fR_self (f : Nat → G3) (m : Nat) : fR f m m = f := by
  funext x
  unfold fR
  split
  · rfl
  · rename_i h
    have e : x = m := by omega
    subst e
    simp
theorem fL_step (f : Nat → G3) (a k : Nat) (h : a ≤ k) : swpF (fL f a k) k (k + 1) = fL f a (k + 1) := by
  funext x
  unfold swpF upd fL
  by_cases e1 : x = k + 1
  · subst e1
    have c1 : ¬ (k + 1 < a ∨ k + 1 < k + 1) := by omega
    have c2 : ¬ (k < a ∨ k < k) := by omega
    simp only [if_true, if_neg c1, if_neg c2]
  · by_cases e2 : x = k
    · subst e2
      have c1 : x + 1 < a ∨ x < x + 1 := by omega
      have c2 : ¬ (x < a ∨ x + 1 < x) := by omega
      simp only [if_neg e1, if_true, if_pos c1, if_neg c2]
    · by_cases c : x < a ∨ k < x
      · have c2 : x < a ∨ k + 1 < x := by omega
        simp only [if_neg e1, if_neg e2, if_pos c, if_pos c2]
      · have c2 : ¬ (x < a ∨ k + 1 < x) := by omega
        simp only [if_neg e1, if_neg e2, if_neg c, if_neg c2]
theorem fR_step (f : Nat → G3) (m k : Nat) (h : k + 1 ≤ m) : swpF (fR f m (k + 1)) (k + 1) k = fR f m k := by
  funext x
  unfold swpF upd fR
  by_cases e1 : x = k
  · subst e1
    have c1 : ¬ (x < x ∨ m < x) := by omega
    have c2 : ¬ (x + 1 < x + 1 ∨ m < x + 1) := by omega
    simp only [if_true, if_neg c1, if_neg c2]
  · by_cases e2 : x = k + 1
    · subst e2
      have c1 : k < k + 1 ∨ m < k := by omega
      have c2 : ¬ (k + 1 < k ∨ m < k + 1) := by omega
      simp only [if_neg e1, if_true, if_pos c1, if_neg c2]
      simp
    · by_cases c : x < k + 1 ∨ m < x
      · have c2 : x < k ∨ m < x := by omega
        simp only [if_neg e1, if_neg e2, if_pos c, if_pos c2]
      · have c2 : ¬ (x < k ∨ m < x) := by omega
        simp only [if_neg e1, if_neg e2, if_neg c, if_neg c2]
theorem fL_perm (L a : Nat) (f : Nat → G3) : ∀ d, a + d < L → (lst L (fL f a (a + d))).Perm (lst L f)
  | 0, _ => by rw [Nat.add_zero, fL_self]
  | d + 1, h => by
    rw [← Nat.add_assoc, ← fL_step f a (a + d) (by omega)]
    exact (swpF_perm L _ _ _ (by omega) (by omega)).trans (fL_perm L a f d (by omega))
theorem fR_perm (L k : Nat) (f : Nat → G3) (m : Nat) (hm : m < L) : ∀ d k, k + d = m → (lst L (fR f m k)).Perm (lst L f)
  | 0, k, e => by
    obtain rfl : k = m := by omega
    rw [fR_self]
  | d + 1, k, e => by
    rw [← fR_step f m k (by omega)]
    exact (swpF_perm L _ _ _ (by omega) (by omega)).trans (fR_perm L k f m hm d (k + 1) (by omega))
/-- Blocks changed about. -/
theorem swapR_get (f : Nat → G3) (a b : Nat) : ∀ n, a + n ≤ b → ∀ x, swapR f a b n x = if a ≤ x ∧ x < a + n then f (x - a + b) else if b ≤ x ∧ x < b + n then f (x - b + a) else f x
  | 0, h, x => by
    have c1 : ¬ (a ≤ x ∧ x < a + 0) := by omega
    have c2 : ¬ (b ≤ x ∧ x < b + 0) := by omega
    rw [if_neg c1, if_neg c2]
    rfl
  | n + 1, h, x => by
    have ih := swapR_get f a b n (by omega)
    show swpF (swapR f a b n) (a + n) (b + n) x = _
    unfold swpF upd
    by_cases e1 : x = b + n
    · subst e1
      have c1 : ¬ (a ≤ b + n ∧ b + n < a + (n + 1)) := by omega
      have c2 : b ≤ b + n ∧ b + n < b + (n + 1) := by omega
      have d1 : ¬ (a ≤ a + n ∧ a + n < a + n) := by omega
      have d2 : ¬ (b ≤ a + n ∧ a + n < b + n) := by omega
      rw [if_pos rfl, if_neg c1, if_pos c2, ih, if_neg d1, if_neg d2]
      congr 1; omega
    · by_cases e2 : x = a + n
      · subst e2
        have c1 : a ≤ a + n ∧ a + n < a + (n + 1) := by omega
        have d1 : ¬ (a ≤ b + n ∧ b + n < a + n) := by omega
        have d2 : ¬ (b ≤ b + n ∧ b + n < b + n) := by omega
        rw [if_neg e1, if_pos rfl, if_pos c1, ih, if_neg d1, if_neg d2]
        congr 1; omega
      · rw [if_neg e1, if_neg e2, ih]
        by_cases c1 : a ≤ x ∧ x < a + n
        · rw [if_pos c1, if_pos (by omega)]
        · rw [if_neg c1, if_neg (c := a ≤ x ∧ x < a + (n + 1)) (by omega)]
          by_cases c2 : b ≤ x ∧ x < b + n
          · rw [if_pos c2, if_pos (by omega)]
          · rw [if_neg c2, if_neg (by omega)]
/-- The row with its part from lo to hi turned about m. -/
def turn (f : Nat → G3) (lo m hi : Nat) : Nat → G3 := fun x => if x < lo ∨ hi ≤ x then f x else if x < lo + (hi - m) then f (x + (m - lo)) else f (x - (hi - m))
theorem rotG_turn (m : Nat) : ∀ (k : Nat) (f : Nat → G3) (i j : Nat), 0 < i → 0 < j → i ≤ m → i + j ≤ k → rotG m k f i j = turn f (m - i) m (m + j)
  | 0, f, i, j, h1, h2, _, h => by omega
  | k + 1, f, i, j, h1, h2, h3, h => by
    unfold rotG
    split
    · rename_i e
      subst e
      funext x
      rw [swapR_get f (m - i) m i (by omega)]
      unfold turn
      by_cases c : x < m - i ∨ m + i ≤ x
      · rw [if_pos c, if_neg (by omega), if_neg (by omega)]
      · rw [if_neg c]
        by_cases c2 : x < m
        · rw [if_pos (by omega), if_pos (by omega)]
          congr 1; omega
        · rw [if_neg (by omega), if_pos (by omega), if_neg (by omega)]
          congr 1; omega
    · split
      · rename_i e1 e2
        rw [rotG_turn m k _ (i - j) j (by omega) h2 (by omega) (by omega)]
        funext x
        unfold turn
        simp only [swapR_get f (m - i) m j (by omega : m - i + j ≤ m)]
        by_cases c : x < m - i ∨ m + j ≤ x
        · rw [if_pos c, if_pos (by omega), if_neg (by omega), if_neg (by omega)]
        · rw [if_neg c]
          by_cases c2 : x < m - i + j
          · rw [if_pos (c := x < m - i + (m + j - m)) (by omega), if_pos (c := x < m - (i - j) ∨ m + j ≤ x) (by omega), if_pos (by omega)]
            congr 1; omega
          · rw [if_neg (c := x < m - i + (m + j - m)) (by omega), if_neg (c := x < m - (i - j) ∨ m + j ≤ x) (by omega)]
            by_cases c3 : x < m - (i - j) + (m + j - m)
            · rw [if_pos c3]
              by_cases c4 : x + (m - (m - (i - j))) < m
              · rw [if_neg (by omega), if_neg (by omega)]
                exfalso; omega
              · rw [if_neg (by omega), if_pos (by omega)]
                congr 1; omega
            · rw [if_neg c3]
              by_cases c4 : x - (m + j - m) < m - i + j
              · rw [if_pos (by omega)]
                exfalso; omega
              · rw [if_neg (by omega), if_neg (by omega)]
      · rename_i e1 e2
        rw [rotG_turn m k _ i (j - i) h1 (by omega) (by omega) (by omega)]
        funext x
        unfold turn
        simp only [swapR_get f (m - i) (m + j - i) i (by omega : m - i + i ≤ m + j - i)]
        by_cases c : x < m - i ∨ m + j ≤ x
        · rw [if_pos c, if_pos (by omega), if_neg (by omega), if_neg (by omega)]
        · rw [if_neg c]
          by_cases c2 : m + j - i ≤ x
          · rw [if_pos (c := x < m - i ∨ m + (j - i) ≤ x) (by omega), if_neg (by omega), if_pos (by omega), if_neg (by omega)]
            congr 1; omega
          · rw [if_neg (c := x < m - i ∨ m + (j - i) ≤ x) (by omega)]
            by_cases c3 : x < m - i + (m + (j - i) - m)
            · rw [if_pos c3, if_pos (c := x < m - i + (m + j - m)) (by omega), if_neg (by omega), if_neg (by omega)]
            · rw [if_neg c3, if_pos (c := m - i ≤ x - (m + (j - i) - m) ∧ x - (m + (j - i) - m) < m - i + i) (by omega), if_pos (c := x < m - i + (m + j - m)) (by omega)]
              congr 1; omega
end Go.Proofs.Ytikbgoppmailjaa.H
