import Derived.Test.YtikbgoppmailjaaHLs29
/- SymMerge's plain law: what a merge makes. -/
namespace Go.Proofs.Ytikbgoppmailjaa.H
open Go.RowKit Go.HK Go.Maps Go.Sort Go.Lib
set_option linter.unusedVariables false
set_option linter.unusedSimpArgs false
/-- By the end, then by the number. -/
def T3 (x y : G3) : Prop := x.2.2 < y.2.2 ∨ (x.2.2 = y.2.2 ∧ x.1 < y.1)
def Srt (a b : Nat) (f : Nat → G3) : Prop := ∀ i j, a ≤ i → i < j → j < b → T3 (f i) (f j)
/-- Two sorted halves; of equal ends the number on the left is smaller. -/
structure Mrg (a m b : Nat) (f : Nat → G3) : Prop where
  left : Srt a m f
  right : Srt m b f
  eq : ∀ i j, a ≤ i → i < m → m ≤ j → j < b → (f i).2.2 = (f j).2.2 → (f i).1 < (f j).1
/-- What a merge makes of a row. -/
structure SymPost (L a m b : Nat) (f f' : Nat → G3) : Prop where
  out : ∀ i, i < a ∨ b ≤ i → f' i = f i
  perm : (lst L f').Perm (lst L f)
  block : ∀ i, a ≤ i → i < b → ∃ j, a ≤ j ∧ j < b ∧ f' i = f j
  srt : Mrg a m b f → Srt a b f'
theorem T3.trans {x y z : G3} (h : T3 x y) (k : T3 y z) : T3 x z := by
  unfold T3 at *
  omega
theorem T3.le {x y : G3} (h : T3 x y) : x.2.2 ≤ y.2.2 := by
  unfold T3 at h
  omega
theorem cmpI_neg {a b : Int} : cmpI a b < 0 ↔ a < b := by
  unfold cmpI
  repeat' split <;> omega
theorem Srt.mono {a b a' b' : Nat} {f : Nat → G3} (h : Srt a b f) (h1 : a ≤ a') (h2 : b' ≤ b) : Srt a' b' f := fun i j p q r => h i j (by omega) q (by omega)
theorem Srt.le {a b : Nat} {f : Nat → G3} (h : Srt a b f) {i j : Nat} (h1 : a ≤ i) (h2 : i ≤ j) (h3 : j < b) : (f i).2.2 ≤ (f j).2.2 := by
  by_cases e : i = j
  · subst e; exact Int.le_refl _
  · exact (h i j h1 (by omega) h3).le
theorem Srt.congr {a b : Nat} {f f' : Nat → G3} (h : Srt a b f) (e : ∀ i, a ≤ i → i < b → f' i = f i) : Srt a b f' := fun i j p q r => by
  rw [e i p (by omega), e j (by omega) r]
  exact h i j p q r
theorem Srt.join {a m b : Nat} {f : Nat → G3} (h1 : Srt a m f) (h2 : Srt m b f) (h3 : ∀ i j, a ≤ i → i < m → m ≤ j → j < b → T3 (f i) (f j)) : Srt a b f := fun i j p q r => by
  by_cases c : j < m
  · exact h1 i j p q c
  · by_cases c2 : i < m
    · exact h3 i j p c2 (by omega) r
    · exact h2 i j (by omega) q r
/-- One on the left. -/
theorem left_post {L a b i : Nat} {f : Nat → G3} (hab : a + 1 < b) (hb : b ≤ L) (s : Srch (a + 1) b (fun h => cmpI (f h).2.2 (f a).2.2 < 0) i i) : SymPost L a (a + 1) b f (fL f a (i - 1)) := by
  have hi := s.lo_le
  have hi2 := s.le_hi
  refine ⟨?_, ?_, ?_, ?_⟩
  · intro x h
    unfold fL
    rw [if_pos (by omega)]
  · have := fL_perm L a f (i - 1 - a) (by omega)
    rwa [show a + (i - 1 - a) = i - 1 by omega] at this
  · intro x h1 h2
    by_cases c : i - 1 < x
    · exact ⟨x, h1, h2, by unfold fL; rw [if_pos (by omega)]⟩
    · by_cases c2 : x = i - 1
      · exact ⟨a, by omega, by omega, by unfold fL; rw [if_neg (by omega), if_pos c2]⟩
      · exact ⟨x + 1, by omega, by omega, by unfold fL; rw [if_neg (by omega), if_neg c2]⟩
  · intro M
    have lo : ∀ h, a + 1 ≤ h → h < i → T3 (f h) (f a) := by
      intro h h1 h2
      rcases s.left with e | r
      · omega
      · have r' := cmpI_neg.mp r
        have := M.right.le h1 (show h ≤ i - 1 by omega) (by omega)
        left; omega
    have hi' : ∀ h, i ≤ h → h < b → T3 (f a) (f h) := by
      intro h h1 h2
      rcases s.right with e | r
      · omega
      · have r' : ¬ (f i).2.2 < (f a).2.2 := fun q => r (cmpI_neg.mpr q)
        have h3 := M.right.le (show a + 1 ≤ i by omega) h1 h2
        have h4 := M.eq a h (Nat.le_refl _) (by omega) (by omega) h2
        unfold T3
        omega
    have S1 : Srt a (i - 1) (fL f a (i - 1)) := by
      intro x y h1 h2 h3
      unfold fL
      rw [if_neg (by omega), if_neg (by omega), if_neg (by omega), if_neg (by omega)]
      exact M.right _ _ (by omega) (by omega) (by omega)
    have S2 : Srt i b (fL f a (i - 1)) := by
      intro x y h1 h2 h3
      unfold fL
      rw [if_pos (by omega), if_pos (by omega)]
      exact M.right _ _ (by omega) (by omega) (by omega)
    have S3 : Srt (i - 1) b (fL f a (i - 1)) := by
      refine Srt.join (m := i) (fun x y p q r => by omega) S2 (fun x y h1 h2 h3 h4 => ?_)
      unfold fL
      rw [if_neg (by omega), if_pos (show x = i - 1 by omega), if_pos (by omega)]
      exact hi' y h3 h4
    refine Srt.join S1 S3 (fun x y h1 h2 h3 h4 => ?_)
    unfold fL
    rw [if_neg (show ¬ (x < a ∨ i - 1 < x) by omega), if_neg (show ¬ x = i - 1 by omega)]
    by_cases c : y = i - 1
    · rw [if_neg (by omega), if_pos c]
      exact lo _ (by omega) (by omega)
    · rw [if_pos (by omega)]
      exact M.right _ _ (by omega) (by omega) (by omega)
/-- One on the right. -/
theorem right_post {L a m i : Nat} {f : Nat → G3} (ham : a < m) (hb : m + 1 ≤ L) (s : Srch a m (fun h => ¬ cmpI (f m).2.2 (f h).2.2 < 0) i i) : SymPost L a m (m + 1) f (fR f m i) := by
  have hi := s.lo_le
  have hi2 := s.le_hi
  refine ⟨?_, fR_perm L i f m (by omega) (m - i) i (by omega), ?_, ?_⟩
  · intro x h
    unfold fR
    rw [if_pos (by omega)]
  · intro x h1 h2
    by_cases c : x < i
    · exact ⟨x, h1, h2, by unfold fR; rw [if_pos (by omega)]⟩
    · by_cases c2 : x = i
      · exact ⟨m, by omega, by omega, by unfold fR; rw [if_neg (by omega), if_pos c2]⟩
      · exact ⟨x - 1, by omega, by omega, by unfold fR; rw [if_neg (by omega), if_neg c2]⟩
  · intro M
    have lo : ∀ h, a ≤ h → h < i → T3 (f h) (f m) := by
      intro h h1 h2
      rcases s.left with e | r
      · omega
      · have r' : ¬ (f m).2.2 < (f (i - 1)).2.2 := fun q => r (cmpI_neg.mpr q)
        have h3 := M.left.le h1 (show h ≤ i - 1 by omega) (by omega)
        have h4 := M.eq h m h1 (by omega) (Nat.le_refl _) (by omega)
        unfold T3
        omega
    have hi' : ∀ h, i ≤ h → h < m → T3 (f m) (f h) := by
      intro h h1 h2
      rcases s.right with e | r
      · omega
      · have r' := cmpI_neg.mp (Classical.not_not.mp r)
        have := M.left.le (show a ≤ i by omega) h1 h2
        left; omega
    have S1 : Srt a i (fR f m i) := by
      intro x y h1 h2 h3
      unfold fR
      rw [if_pos (by omega), if_pos (by omega)]
      exact M.left _ _ (by omega) (by omega) (by omega)
    have S2 : Srt (i + 1) (m + 1) (fR f m i) := by
      intro x y h1 h2 h3
      unfold fR
      rw [if_neg (by omega), if_neg (by omega), if_neg (by omega), if_neg (by omega)]
      exact M.left _ _ (by omega) (by omega) (by omega)
    have S3 : Srt i (m + 1) (fR f m i) := by
      refine Srt.join (m := i + 1) (fun x y p q r => by omega) S2 (fun x y h1 h2 h3 h4 => ?_)
      unfold fR
      rw [if_neg (by omega), if_pos (show x = i by omega), if_neg (by omega), if_neg (by omega)]
      exact hi' _ (by omega) (by omega)
    refine Srt.join S1 S3 (fun x y h1 h2 h3 h4 => ?_)
    unfold fR
    rw [if_pos (show x < i ∨ m < x by omega)]
    by_cases c : y = i
    · rw [if_neg (by omega), if_pos c]
      exact lo _ (by omega) (by omega)
    · rw [if_neg (by omega), if_neg c]
      exact M.left _ _ (by omega) (by omega) (by omega)
theorem turn_out {f : Nat → G3} {s m e x : Nat} (h : x < s ∨ e ≤ x) : turn f s m e x = f x := by unfold turn; rw [if_pos h]
theorem turn_lo {f : Nat → G3} {s m e x : Nat} (h1 : s ≤ x) (h2 : x < s + (e - m)) (h3 : s ≤ m) (h4 : m ≤ e) : turn f s m e x = f (x + (m - s)) := by unfold turn; rw [if_neg (by omega), if_pos h2]
theorem turn_hi {f : Nat → G3} {s m e x : Nat} (h1 : s + (e - m) ≤ x) (h2 : x < e) (h3 : s ≤ m) (h4 : m ≤ e) : turn f s m e x = f (x - (e - m)) := by unfold turn; rw [if_neg (by omega), if_neg (by omega)]
theorem turn_left {f : Nat → G3} {m e : Nat} : turn f m m e = f := by
  funext x
  unfold turn
  split
  · rfl
  · rw [if_pos (by omega)]; congr 1; omega
theorem turn_right {f : Nat → G3} {s m : Nat} : turn f s m m = f := by
  funext x
  unfold turn
  split
  · rfl
  · rw [if_neg (by omega)]; congr 1; omega
/-- What the middle's search tells. -/
structure Mid (f : Nat → G3) (a m b md s e : Nat) : Prop where
  las : a ≤ s
  smd : s ≤ md
  sm : s ≤ m
  me : m ≤ e
  eb : e ≤ b
  sum : e + s = md + m
  left : s = a ∨ e = b ∨ (0 < s ∧ ¬ cmpI (f e).2.2 (f (s - 1)).2.2 < 0)
  right : s = md ∨ s = m ∨ cmpI (f (e - 1)).2.2 (f s).2.2 < 0
theorem Mid.turned {f : Nat → G3} {a m b md s e : Nat} (h : Mid f a m b md s e) : (∀ x, x < a ∨ b ≤ x → turn f s m e x = f x) ∧ (∀ x, a ≤ x → x < b → ∃ y, a ≤ y ∧ y < b ∧ turn f s m e x = f y) := by
  obtain ⟨h1, h2, h3, h4, h5, h6, _, _⟩ := h
  refine ⟨fun x hx => turn_out (by omega), fun x hx hy => ?_⟩
  by_cases c : x < s ∨ e ≤ x
  · exact ⟨x, hx, hy, turn_out c⟩
  · by_cases c2 : x < s + (e - m)
    · exact ⟨_, by omega, by omega, turn_lo (by omega) c2 h3 h4⟩
    · exact ⟨_, by omega, by omega, turn_hi (by omega) (by omega) h3 h4⟩
theorem Mid.mrg {f : Nat → G3} {a m b md s e : Nat} (h : Mid f a m b md s e) (M : Mrg a m b f) : Mrg a s md (turn f s m e) ∧ Mrg md e b (turn f s m e) ∧ ∀ x y, a ≤ x → x < md → md ≤ y → y < b → T3 (turn f s m e x) (turn f s m e y) := by
  obtain ⟨h1, h2, h3, h4, h5, h6, hl, hr⟩ := h
  refine ⟨⟨?_, ?_, ?_⟩, ⟨?_, ?_, ?_⟩, ?_⟩
  · exact (M.left.mono (Nat.le_refl _) h3).congr (fun i p q => turn_out (by omega))
  · intro i j p q r
    rw [turn_lo (by omega) (by omega) h3 h4, turn_lo (by omega) (by omega) h3 h4]
    exact M.right _ _ (by omega) (by omega) (by omega)
  · intro i j p q r t
    rw [turn_out (by omega), turn_lo (by omega) (by omega) h3 h4]
    exact M.eq _ _ (by omega) (by omega) (by omega) (by omega)
  · intro i j p q r
    rw [turn_hi (by omega) (by omega) h3 h4, turn_hi (by omega) (by omega) h3 h4]
    exact M.left _ _ (by omega) (by omega) (by omega)
  · exact (M.right.mono h4 (Nat.le_refl _)).congr (fun i p q => turn_out (by omega))
  · intro i j p q r t
    rw [turn_hi (by omega) (by omega) h3 h4, turn_out (by omega)]
    exact M.eq _ _ (by omega) (by omega) (by omega) (by omega)
  · intro x y p q r t
    by_cases c : x < s
    · rw [turn_out (Or.inl c)]
      by_cases c2 : y < e
      · rw [turn_hi (by omega) c2 h3 h4]
        exact M.left _ _ (by omega) (by omega) (by omega)
      · rw [turn_out (by omega)]
        have hk : ¬ (f e).2.2 < (f (s - 1)).2.2 := by
          rcases hl with e1 | e1 | ⟨_, e1⟩
          · omega
          · omega
          · exact fun q => e1 (cmpI_neg.mpr q)
        have k1 := M.left.le p (show x ≤ s - 1 by omega) (by omega)
        have k2 := M.right.le h4 (show e ≤ y by omega) t
        have k3 := M.eq x y p (by omega) (by omega) t
        unfold T3
        omega
    · rw [turn_lo (by omega) (by omega) h3 h4]
      by_cases c2 : y < e
      · rw [turn_hi (by omega) c2 h3 h4]
        have hk : (f (e - 1)).2.2 < (f s).2.2 := by
          rcases hr with e1 | e1 | e1
          · omega
          · omega
          · exact cmpI_neg.mp e1
        have k1 := M.right.le (show m ≤ x + (m - s) by omega) (show x + (m - s) ≤ e - 1 by omega) (by omega)
        have k2 := M.left.le h1 (show s ≤ y - (e - m) by omega) (by omega)
        left
        omega
      · rw [turn_out (Or.inr (by omega))]
        exact M.right _ _ (by omega) (by omega) t
/-- An empty merge is no merge. -/
theorem SymPost.none {L a m b : Nat} {f : Nat → G3} (h : m ≤ a ∨ b ≤ m) (h1 : a ≤ m) (h2 : m ≤ b) : SymPost L a m b f f :=
  ⟨fun _ _ => rfl, List.Perm.refl _, fun i p q => ⟨i, p, q, rfl⟩, fun M => by
    rcases h with e | e
    · obtain rfl : m = a := by omega
      exact M.right
    · obtain rfl : b = m := by omega
      exact M.left⟩
theorem SymPost.main {L a m b md s e : Nat} {f f2 f3 : Nat → G3} (hp : (lst L (turn f s m e)).Perm (lst L f)) (h : Mid f a m b md s e) (p2 : SymPost L a s md (turn f s m e) f2) (p3 : SymPost L md e b f2 f3) : SymPost L a m b f f3 := by
  obtain ⟨t1, t2⟩ := h.turned
  have g1 := h.las
  have g2 := h.smd
  have g3 := h.me
  have g4 := h.eb
  have g5 := h.sum
  have g6 := h.sm
  refine ⟨?_, (p3.perm.trans p2.perm).trans hp, ?_, ?_⟩
  · intro i hi
    rw [p3.out i (by omega), p2.out i (by omega), t1 i hi]
  · have blk2 : ∀ i, a ≤ i → i < b → ∃ j, a ≤ j ∧ j < b ∧ f2 i = f j := by
      intro i p q
      by_cases c : i < md
      · obtain ⟨j, a1, a2, a3⟩ := p2.block i p c
        obtain ⟨k, b1, b2, b3⟩ := t2 j a1 (by omega)
        exact ⟨k, b1, b2, a3.trans b3⟩
      · obtain ⟨k, b1, b2, b3⟩ := t2 i p q
        exact ⟨k, b1, b2, (p2.out i (by omega)).trans b3⟩
    intro i p q
    by_cases c : md ≤ i
    · obtain ⟨j, a1, a2, a3⟩ := p3.block i c q
      obtain ⟨k, b1, b2, b3⟩ := blk2 j (by omega) a2
      exact ⟨k, b1, b2, a3.trans b3⟩
    · obtain ⟨k, b1, b2, b3⟩ := blk2 i p q
      exact ⟨k, b1, b2, (p3.out i (by omega)).trans b3⟩
  · intro M
    obtain ⟨m1, m2, m3⟩ := h.mrg M
    have s2 := p2.srt m1
    have m2' : Mrg md e b f2 := by
      have E : ∀ i, md ≤ i → i < b → f2 i = turn f s m e i := fun i p q => p2.out i (by omega)
      refine ⟨m2.left.congr (fun i p q => E i p (by omega)), m2.right.congr (fun i p q => E i (by omega) q), fun i j p q r t => ?_⟩
      rw [E i p (by omega), E j (by omega) t]
      exact m2.eq i j p q r t
    have s3 := p3.srt m2'
    refine Srt.join (m := md) (s2.congr (fun i p q => p3.out i (by omega))) s3 (fun x y p q r t => ?_)
    obtain ⟨x', u1, u2, u3⟩ := p2.block x p q
    obtain ⟨y', v1, v2, v3⟩ := p3.block y r t
    rw [p3.out x (by omega), u3, v3, p2.out y' (by omega)]
    exact m3 x' y' u1 u2 v1 v2
end Go.Proofs.Ytikbgoppmailjaa.H
/- The stable sort's plain law: blocks, merges. -/
namespace Go.Proofs.Ytikbgoppmailjaa.H
open Go.RowKit Go.HK Go.Maps Go.Sort Go.Lib
set_option linter.unusedVariables false
set_option linter.unusedSimpArgs false
/-- The numbers ascend. -/
def NumUp (L : Nat) (f : Nat → G3) : Prop := ∀ i j, i < j → j < L → (f i).1 < (f j).1
/-- By the end and then by the number, as a comparing. -/
def lt3 (x y : G3) : Bool := decide (x.2.2 < y.2.2 ∨ (x.2.2 = y.2.2 ∧ x.1 < y.1))
theorem lt3_iff {x y : G3} : lt3 x y = true ↔ (x.2.2 < y.2.2 ∨ (x.2.2 = y.2.2 ∧ x.1 < y.1)) := by unfold lt3; exact decide_eq_true_iff
theorem lt3_not {x y : G3} : lt3 x y = false ↔ ¬ (x.2.2 < y.2.2 ∨ (x.2.2 = y.2.2 ∧ x.1 < y.1)) := by unfold lt3; exact decide_eq_false_iff_not
theorem swo3 : SWO lt3 where
  irrefl x := by rw [lt3_not]; omega
  trans x y z h1 h2 := by rw [lt3_iff] at *; omega
  ntrans x y z h1 h2 := by rw [lt3_not] at *; omega
theorem insInner_in (lt : G3 → G3 → Bool) (a b : Nat) : ∀ (j : Nat) (d : Array G3), a ≤ j → j < b → b ≤ d.size → PermIn a b d (insInner lt a j d)
  | 0, d, _, _, _ => permIn_refl d a b
  | j + 1, d, h1, h2, h3 => by
    unfold insInner
    split
    · rename_i hc
      simp only [Bool.and_eq_true, decide_eq_true_eq] at hc
      exact permIn_trans _ _ _ a b (swp_permIn d a b (j + 1) j h1 h2 (by omega) (by omega) h3) (insInner_in lt a b j _ (by omega) (by omega) (by rw [swp_size]; exact h3))
    · exact permIn_refl d a b
theorem insInner_same (a : Nat) : ∀ (j : Nat) (d : Array G3), j < d.size → (∀ p, a ≤ p → p < j → (d[p]!).1 < (d[j]!).1) → insInner (ltOf cmpG) a j d = insInner lt3 a j d
  | 0, d, _, _ => rfl
  | j + 1, d, hs, h => by
    unfold insInner
    by_cases c : j + 1 > a
    · have e : ltOf cmpG d[j + 1]! d[j]! = lt3 d[j + 1]! d[j]! := by
        rw [ltG, Bool.eq_iff_iff, lt3_iff, decide_eq_true_iff]
        have := h j (by omega) (by omega)
        omega
      rw [e]
      split
      · refine insInner_same a j _ (by rw [swp_size]; omega) (fun p p1 p2 => ?_)
        rw [swp_get d hs (by omega), swp_get d hs (by omega), if_neg (by omega), if_neg (by omega), if_pos rfl]
        exact h p p1 (by omega)
      · rfl
    · have e : decide (j + 1 > a) = false := by simpa using c
      rw [e]
      rfl
theorem insOuter_same (a b : Nat) : ∀ (n i : Nat) (d : Array G3), b - i = n → a < i → b ≤ d.size → (∀ p q, a ≤ p → p < q → i ≤ q → q < b → (d[p]!).1 < (d[q]!).1) → insOuter (ltOf cmpG) a b i d = insOuter lt3 a b i d
  | 0, i, d, hn, _, _, _ => by
    rw [insOuter.eq_def (ltOf cmpG), insOuter.eq_def lt3, if_neg (by omega), if_neg (by omega)]
  | n + 1, i, d, hn, hai, hb, h => by
    rw [insOuter.eq_def (ltOf cmpG), insOuter.eq_def lt3, if_pos (by omega), if_pos (by omega), insInner_same a i d (by omega) (fun p p1 p2 => h p i p1 p2 (Nat.le_refl _) (by omega))]
    have hp := insInner_in lt3 a (i + 1) i d (by omega) (by omega) (by omega)
    refine insOuter_same a b n (i + 1) _ (by omega) (by omega) (by rw [hp.1]; exact hb) (fun p q h1 h2 h3 h4 => ?_)
    rw [hp.2.1 q (Or.inr h3)]
    by_cases c : p < i + 1
    · exact permIn_all d _ a (i + 1) (fun x => x.1 < (d[q]!).1) (by omega) hp (fun k k1 k2 => h k q k1 (by omega) (by omega) h4) p h1 c
    · rw [hp.2.1 p (Or.inr (by omega))]
      exact h p q h1 h2 (by omega) h4
/-- What an insertion sort makes of a row. -/
structure InsPost (L a b : Nat) (f f' : Nat → G3) : Prop where
  out : ∀ i, i < L → (i < a ∨ b ≤ i) → f' i = f i
  perm : (lst L f').Perm (lst L f)
  block : ∀ i, a ≤ i → i < b → ∃ j, a ≤ j ∧ j < b ∧ f' i = f j
  srt : (∀ i j, a ≤ i → i < j → j < b → (f i).1 < (f j).1) → Srt a b f'
theorem arrF_get {L : Nat} {f : Nat → G3} {i : Nat} (h : i < L) : (arr L f)[i]! = f i := by
  unfold arr
  simp [h]
theorem nodupZ_iff {l : List Int} : l.Nodup ↔ ∀ i j, i < j → j < l.length → l[i]? ≠ l[j]? := by
  unfold List.Nodup
  rw [List.pairwise_iff_getElem]
  constructor
  · intro h i j h1 h2 e
    rw [List.getElem?_eq_getElem (by omega), List.getElem?_eq_getElem h2] at e
    exact h i j (by omega) h2 h1 (Option.some.inj e)
  · intro h i j h1 h2 h3 e
    refine h i j h3 h2 ?_
    rw [List.getElem?_eq_getElem h1, List.getElem?_eq_getElem h2, e]
theorem ins_post (L a b : Nat) (f : Nat → G3) (hab : a ≤ b) (hb : b ≤ L) : InsPost L a b f (fun i => (insertionSort (ltOf cmpG) (arr L f) a b)[i]!) := by
  have hs : (arr L f).size = L := arr_size L f
  have P := (insertionSort_holds swoG (arr L f) a b hab (by rw [hs]; exact hb)).1
  refine ⟨fun i hi h => ?_, ins_perm L a b f hab hb, ?_, ?_⟩
  · rw [P.2.1 i h, arrF_get hi]
  · refine permIn_all (arr L f) _ a b (fun x => ∃ j, a ≤ j ∧ j < b ∧ x = f j) (by rw [hs]; exact hb) P (fun i h1 h2 => ⟨i, h1, h2, arrF_get (by omega)⟩)
  · intro hn
    have same : insertionSort (ltOf cmpG) (arr L f) a b = insertionSort lt3 (arr L f) a b := by
      refine insOuter_same a b _ (a + 1) _ rfl (by omega) (by rw [hs]; exact hb) (fun p q h1 h2 h3 h4 => ?_)
      rw [arrF_get (by omega), arrF_get (by omega)]
      exact hn p q h1 h2 h4
    rw [same]
    have Q := insertionSort_holds swo3 (arr L f) a b hab (by rw [hs]; exact hb)
    intro i j h1 h2 h3
    have h4 := Q.2 i j h1 h2 h3
    rw [lt3_not] at h4
    -- the numbers are distinct: the part is a permutation of an ascending one
    have hne : ((insertionSort lt3 (arr L f) a b)[i]!).1 ≠ ((insertionSort lt3 (arr L f) a b)[j]!).1 := by
      have nd : (((arr L f).extract a b).toList.map (·.1)).Nodup := by
        rw [nodupZ_iff]
        intro p q hpq hq
        simp only [List.length_map, Array.length_toList, Array.size_extract, hs] at hq
        have hq' : q < b - a := by omega
        simp only [List.getElem?_map, Array.getElem?_toList, Array.getElem?_extract, hs]
        rw [if_pos (by omega), if_pos (by omega), Array.getElem?_eq_getElem (by rw [hs]; omega), Array.getElem?_eq_getElem (by rw [hs]; omega)]
        simp only [Option.map_some, ne_eq, Option.some.injEq]
        have e1 := arrF_get (L := L) (f := f) (i := a + p) (by omega)
        have e2 := arrF_get (L := L) (f := f) (i := a + q) (by omega)
        rw [getElem!_pos _ _ (by rw [hs]; omega)] at e1 e2
        rw [e1, e2]
        have := hn (a + p) (a + q) (by omega) (by omega) (by omega)
        omega
      have nd2 := (Q.1.2.2.map (·.1)).nodup_iff.mpr nd
      rw [nodupZ_iff] at nd2
      have hs2 : (insertionSort lt3 (arr L f) a b).size = L := Q.1.1.trans hs
      have h5 := nd2 (i - a) (j - a) (by omega) (by simp only [List.length_map, Array.length_toList, Array.size_extract, hs2]; omega)
      simp only [List.getElem?_map, Array.getElem?_toList, Array.getElem?_extract, hs2] at h5
      rw [if_pos (by omega), if_pos (by omega), show a + (i - a) = i by omega, show a + (j - a) = j by omega, Array.getElem?_eq_getElem (by rw [hs2]; omega), Array.getElem?_eq_getElem (by rw [hs2]; omega)] at h5
      simp only [Option.map_some, ne_eq, Option.some.injEq] at h5
      rw [getElem!_pos _ _ (by rw [hs2]; omega), getElem!_pos _ _ (by rw [hs2]; omega)]
      exact h5
    show T3 (insertionSort lt3 (arr L f) a b)[i]! (insertionSort lt3 (arr L f) a b)[j]!
    unfold T3
    omega
/-- Blocks of twenty are sorted up to a; the numbers of different blocks ascend. -/
def Blk0 (L a : Nat) (f : Nat → G3) : Prop := ∀ i j, i < j → j < L → (j < a → i / 20 = j / 20 → T3 (f i) (f j)) ∧ (¬ (j < a ∧ i / 20 = j / 20) → (f i).1 < (f j).1)
theorem Blk0.start {L : Nat} {f : Nat → G3} (h : NumUp L f) : Blk0 L 0 f := fun i j h1 h2 => ⟨fun q => by omega, fun _ => h i j h1 h2⟩
theorem Blk0.step {L a b : Nat} {f f' : Nat → G3} (h : Blk0 L a f) (ha : a % 20 = 0) (hb : b = a + 20 ∨ (b = L ∧ b ≤ a + 20)) (hab : a ≤ b) (hbL : b ≤ L) (p : InsPost L a b f f') : Blk0 L b f' := by
  have S := p.srt (fun i j h1 h2 h3 => (h i j h2 (by omega)).2 (by omega))
  intro i j h1 h2
  refine ⟨fun q1 q2 => ?_, fun q => ?_⟩
  · by_cases c : j < a
    · rw [p.out i (by omega) (by omega), p.out j h2 (by omega)]
      exact (h i j h1 h2).1 c q2
    · exact S i j (by omega) h1 q1
  · by_cases ci : i < a
    · rw [p.out i (by omega) (Or.inl ci)]
      by_cases cj : j < a
      · rw [p.out j h2 (Or.inl cj)]
        exact (h i j h1 h2).2 (by omega)
      · by_cases cj2 : j < b
        · obtain ⟨k, k1, k2, k3⟩ := p.block j (by omega) cj2
          rw [k3]
          exact (h i k (by omega) (by omega)).2 (by omega)
        · rw [p.out j h2 (by omega)]
          exact (h i j h1 h2).2 (by omega)
    · by_cases ci2 : i < b
      · obtain ⟨k, k1, k2, k3⟩ := p.block i (by omega) ci2
        have cj2 : b ≤ j := by omega
        rw [k3, p.out j h2 (Or.inr cj2)]
        exact (h k j (by omega) h2).2 (by omega)
      · rw [p.out i (by omega) (by omega), p.out j h2 (by omega)]
        exact (h i j h1 h2).2 (by omega)
/-- A place's block: of twice s below a, of s from a on. -/
def key (s a i : Nat) : Nat := if i < a then 2 * (i / (2 * s)) else i / s
def Blk (L s a : Nat) (f : Nat → G3) : Prop := ∀ i j, i < j → j < L → (key s a i = key s a j → T3 (f i) (f j)) ∧ (key s a i ≠ key s a j → (f i).1 < (f j).1)
theorem Blk.start {L : Nat} {f : Nat → G3} (h : Blk0 L L f) : Blk L 20 0 f := by
  intro i j h1 h2
  have := h i j h1 h2
  unfold key
  rw [if_neg (by omega), if_neg (by omega)]
  exact ⟨fun q => this.1 h2 q, fun q => this.2 (by omega)⟩
def Sz (s : Nat) : Prop := s = 20 ∨ s = 40 ∨ s = 80 ∨ s = 160
theorem Blk.step {L s a b : Nat} {f f' : Nat → G3} (hs : Sz s) (h : Blk L s a f) (ha : a % (2 * s) = 0) (hb : b = a + 2 * s ∨ (b = L ∧ b ≤ a + 2 * s)) (hab : a + s ≤ b) (hbL : b ≤ L) (p : SymPost L a (a + s) b f f') : Blk L s (a + 2 * s) f' := by
  have S := p.srt ⟨fun i j h1 h2 h3 => (h i j h2 (by omega)).1 (by unfold key; rw [if_neg (by omega), if_neg (by omega)]; rcases hs with rfl | rfl | rfl | rfl <;> omega), fun i j h1 h2 h3 => (h i j h2 (by omega)).1 (by unfold key; rw [if_neg (by omega), if_neg (by omega)]; rcases hs with rfl | rfl | rfl | rfl <;> omega), fun i j h1 h2 h3 h4 _ => (h i j (by omega) (by omega)).2 (by unfold key; rw [if_neg (by omega), if_neg (by omega)]; rcases hs with rfl | rfl | rfl | rfl <;> omega)⟩
  intro i j h1 h2
  refine ⟨fun q => ?_, fun q => ?_⟩
  · by_cases ci : i < a
    · have cj : j < a := by
        revert q
        unfold key
        rcases hs with rfl | rfl | rfl | rfl <;> (rw [if_pos (by omega)]; split <;> omega)
      rw [p.out i (Or.inl ci), p.out j (Or.inl cj)]
      refine (h i j h1 h2).1 ?_
      unfold key at q ⊢
      rw [if_pos ci, if_pos cj]
      rw [if_pos (by omega), if_pos (by omega)] at q
      exact q
    · by_cases cj : j < b
      · exact S i j (by omega) h1 cj
      · by_cases ci2 : i < b
        · exfalso
          revert q
          unfold key
          rcases hs with rfl | rfl | rfl | rfl <;> (rw [if_pos (by omega)]; split <;> omega)
        · rw [p.out i (by omega), p.out j (by omega)]
          refine (h i j h1 h2).1 ?_
          unfold key at q ⊢
          rw [if_neg (by omega), if_neg (by omega)]
          rw [if_neg (by omega), if_neg (by omega)] at q
          exact q
  · by_cases ci : i < a
    · rw [p.out i (Or.inl ci)]
      by_cases cj : j < a
      · rw [p.out j (Or.inl cj)]
        refine (h i j h1 h2).2 ?_
        unfold key at q ⊢
        rw [if_pos ci, if_pos cj]
        rw [if_pos (by omega), if_pos (by omega)] at q
        exact q
      · have far : ∀ k, a ≤ k → key s a i ≠ key s a k := by
          intro k hk
          unfold key
          rw [if_pos ci, if_neg (by omega)]
          rcases hs with rfl | rfl | rfl | rfl <;> omega
        by_cases cj2 : j < b
        · obtain ⟨k, k1, k2, k3⟩ := p.block j (by omega) cj2
          rw [k3]
          exact (h i k (by omega) (by omega)).2 (far k k1)
        · rw [p.out j (by omega)]
          exact (h i j h1 h2).2 (far j (by omega))
    · by_cases ci2 : i < b
      · have cj2 : b ≤ j := by
          refine Nat.le_of_not_lt fun cj2 => q ?_
          unfold key
          rw [if_pos (by omega), if_pos (by omega)]
          rcases hs with rfl | rfl | rfl | rfl <;> omega
        obtain ⟨k, k1, k2, k3⟩ := p.block i (by omega) ci2
        rw [k3, p.out j (Or.inr cj2)]
        refine (h k j (by omega) h2).2 ?_
        unfold key
        rw [if_neg (by omega), if_neg (by omega)]
        rcases hs with rfl | rfl | rfl | rfl <;> omega
      · rw [p.out i (by omega), p.out j (by omega)]
        refine (h i j h1 h2).2 ?_
        unfold key at q ⊢
        rw [if_neg (by omega), if_neg (by omega)]
        rw [if_neg (by omega), if_neg (by omega)] at q
        exact q
theorem Blk.next {L s a : Nat} {f : Nat → G3} (hs : Sz s) (hs2 : s < L) (hl : L ≤ 100) (h : Blk L s a f) (ha : a % (2 * s) = 0) (hb : L ≤ a + s) : Blk L (s * 2) 0 f := by
  intro i j h1 h2
  have := h i j h1 h2
  have k1 : ∀ i, i < L → key s a i = 2 * key (s * 2) 0 i := by
    intro i hi
    unfold key
    rw [if_neg (show ¬ i < 0 by omega)]
    rcases hs with rfl | rfl | rfl | rfl <;> (split <;> omega)
  rw [k1 i (by omega), k1 j h2] at this
  exact ⟨fun q => this.1 (by omega), fun q => this.2 (by omega)⟩
theorem Blk.done {L s : Nat} {f : Nat → G3} (hs : Sz s) (hL : L ≤ s) (h : Blk L s 0 f) : Srt 0 L f := by
  intro i j _ h1 h2
  refine (h i j h1 h2).1 ?_
  unfold key
  rw [if_neg (by omega), if_neg (by omega), Nat.div_eq_of_lt (by omega), Nat.div_eq_of_lt (by omega)]
/-- What a sort keeps at each of its steps: nothing is lost; and, of ascending numbers, the blocks. -/
structure SOrd (L : Nat) (f0 : Nat → G3) (B : (Nat → G3) → Prop) (f : Nat → G3) : Prop where
  perm : (lst L f).Perm (lst L f0)
  ok : NumUp L f0 → B f
theorem SOrd.start {L : Nat} {f0 : Nat → G3} : SOrd L f0 (Blk0 L 0) f0 := ⟨List.Perm.refl _, fun h => Blk0.start h⟩
theorem SOrd.ins {L a b : Nat} {f0 f f' : Nat → G3} (h : SOrd L f0 (Blk0 L a) f) (ha : a % 20 = 0) (hb : b = a + 20 ∨ (b = L ∧ b ≤ a + 20)) (hab : a ≤ b) (hbL : b ≤ L) (p : InsPost L a b f f') : SOrd L f0 (Blk0 L b) f' :=
  ⟨p.perm.trans h.perm, fun q => (h.ok q).step ha hb hab hbL p⟩
theorem SOrd.blocks {L : Nat} {f0 f : Nat → G3} (h : SOrd L f0 (Blk0 L L) f) : SOrd L f0 (Blk L 20 0) f := ⟨h.perm, fun q => Blk.start (h.ok q)⟩
theorem SOrd.merge {L s a b : Nat} {f0 f f' : Nat → G3} (hs : Sz s) (h : SOrd L f0 (Blk L s a) f) (ha : a % (2 * s) = 0) (hb : b = a + 2 * s ∨ (b = L ∧ b ≤ a + 2 * s)) (hab : a + s ≤ b) (hbL : b ≤ L) (p : SymPost L a (a + s) b f f') : SOrd L f0 (Blk L s (a + 2 * s)) f' :=
  ⟨p.perm.trans h.perm, fun q => (h.ok q).step hs ha hb hab hbL p⟩
theorem SOrd.next {L s a : Nat} {f0 f : Nat → G3} (h : SOrd L f0 (Blk L s a) f) (hs : Sz s) (hs2 : s < L) (hl : L ≤ 100) (ha : a % (2 * s) = 0) (hb : L ≤ a + s) : SOrd L f0 (Blk L (s * 2) 0) f :=
  ⟨h.perm, fun q => (h.ok q).next hs hs2 hl ha hb⟩
theorem SOrd.done {L s : Nat} {f0 f : Nat → G3} (h : SOrd L f0 (Blk L s 0) f) (hs : Sz s) (hL : L ≤ s) : SOrd L f0 (Srt 0 L) f := ⟨h.perm, fun q => (h.ok q).done hs hL⟩
/-- The word of a stable sort by the end: nothing is lost; what ascended by number ends sorted by the end and then by the number. -/
def StableP (l l' : List G3) : Prop := l'.Perm l ∧ (l.Pairwise (fun x y => x.1 < y.1) → l'.Pairwise T3)
theorem lst_pairwise {L : Nat} {f : Nat → G3} {R : G3 → G3 → Prop} : (lst L f).Pairwise R ↔ ∀ i j, i < j → j < L → R (f i) (f j) := by
  rw [List.pairwise_iff_getElem]
  unfold lst
  constructor
  · intro h i j h1 h2
    have := h i j (by simp; omega) (by simp; omega) h1
    simpa using this
  · intro h i j h1 h2 h3
    simp at h1 h2
    simpa using h i j h3 h2
theorem SOrd.word {L : Nat} {f f' : Nat → G3} (h : SOrd L f (Srt 0 L) f') : StableP (lst L f) (lst L f') :=
  ⟨h.perm, fun q => lst_pairwise.mpr (fun i j h1 h2 => h.ok (fun i j h1 h2 => lst_pairwise.mp q i j h1 h2) i j (Nat.zero_le _) h1 h2)⟩
theorem stable_unique {l l1 l2 : List G3} (h1 : l1.Perm l) (h2 : l2.Perm l) (s1 : l1.Pairwise T3) (s2 : l2.Pairwise T3) : l1 = l2 :=
  (h1.trans h2.symm).eq_of_pairwise (fun x y _ _ p q => by unfold T3 at p q; omega) s1 s2
end Go.Proofs.Ytikbgoppmailjaa.H
