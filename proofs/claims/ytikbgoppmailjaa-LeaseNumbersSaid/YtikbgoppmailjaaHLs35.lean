import Derived.Test.YtikbgoppmailjaaHLs33
/- The stable sort's plain law: blocks, merges. -/
namespace Go.Proofs.Ytikbgoppmailjaa.H
open Go.RowKit Go.HK Go.Maps Go.Sort Go.Lib
set_option linter.unusedVariables false
set_option linter.unusedSimpArgs false
/-- The numbers ascend. -/
def NumUp (L : Nat) (f : Nat → G3) : Prop := ∀ i j, i < j → j < L → (f i).1 < (f j).1
/-- By the end and then by the number, as a comparing. -/
def lt3 (x y : G3) : Bool := decide (x.2.2 < y.2.2 ∨ (x.2.2 = y.2.2 ∧ x.1 < y.1))
theorem lt3_iff {x y : G3} : lt3 x y = true ↔ (x.2.2 < y.2.2 ∨ (x.2.2 = y.2.2 ∧ x.1 < y.1)) := by unfold lt3; exact decide_eq_true_iff
theorem lt3_not {x y : G3} : lt3 x y = false ↔ ¬ (x.2.2 < y.2.2 ∨ (x.2.2 = y.2.2 ∧ x.1 < y.1)) := by unfold lt3; exact decide_eq_false_iff_not
theorem swo3 : SWO lt3 where
  irrefl x := by rw [lt3_not]; omega
  trans x y z h1 h2 := by rw [lt3_iff] at *; omega
  ntrans x y z h1 h2 := by rw [lt3_not] at *; omega
theorem insInner_in (lt : G3 → G3 → Bool) (a b : Nat) : ∀ (j : Nat) (d : Array G3), a ≤ j → j < b → b ≤ d.size → PermIn a b d (insInner lt a j d)
  | 0, d, _, _, _ => permIn_refl d a b
  | j + 1, d, h1, h2, h3 => by
    unfold insInner
    split
    · rename_i hc
      simp only [Bool.and_eq_true, decide_eq_true_eq] at hc
      exact permIn_trans _ _ _ a b (swp_permIn d a b (j + 1) j h1 h2 (by omega) (by omega) h3) (insInner_in lt a b j _ (by omega) (by omega) (by rw [swp_size]; exact h3))
    · exact permIn_refl d a b
theorem insInner_same (a : Nat) : ∀ (j : Nat) (d : Array G3), j < d.size → (∀ p, a ≤ p → p < j → (d[p]!).1 < (d[j]!).1) → insInner (ltOf cmpG) a j d = insInner lt3 a j d
  | 0, d, _, _ => rfl
  | j + 1, d, hs, h => by
    unfold insInner
    by_cases c : j + 1 > a
    · have e : ltOf cmpG d[j + 1]! d[j]! = lt3 d[j + 1]! d[j]! := by
        rw [ltG, Bool.eq_iff_iff, lt3_iff, decide_eq_true_iff]
        have := h j (by omega) (by omega)
        omega
      rw [e]
      split
      · refine insInner_same a j _ (by rw [swp_size]; omega) (fun p p1 p2 => ?_)
        rw [swp_get d hs (by omega), swp_get d hs (by omega), if_neg (by omega), if_neg (by omega), if_pos rfl]
        exact h p p1 (by omega)
      · rfl
    · have e : decide (j + 1 > a) = false := by simpa using c
      rw [e]
      rfl
theorem insOuter_same (a b : Nat) : ∀ (n i : Nat) (d : Array G3), b - i = n → a < i → b ≤ d.size → (∀ p q, a ≤ p → p < q → i ≤ q → q < b → (d[p]!).1 < (d[q]!).1) → insOuter (ltOf cmpG) a b i d = insOuter lt3 a b i d
  | 0, i, d, hn, _, _, _ => by
    rw [insOuter.eq_def (ltOf cmpG), insOuter.eq_def lt3, if_neg (by omega), if_neg (by omega)]
  | n + 1, i, d, hn, hai, hb, h => by
    rw [insOuter.eq_def (ltOf cmpG), insOuter.eq_def lt3, if_pos (by omega), if_pos (by omega), insInner_same a i d (by omega) (fun p p1 p2 => h p i p1 p2 (Nat.le_refl _) (by omega))]
    have hp := insInner_in lt3 a (i + 1) i d (by omega) (by omega) (by omega)
    refine insOuter_same a b n (i + 1) _ (by omega) (by omega) (by rw [hp.1]; exact hb) (fun p q h1 h2 h3 h4 => ?_)
    rw [hp.2.1 q (Or.inr h3)]
    by_cases c : p < i + 1
    · exact permIn_all d _ a (i + 1) (fun x => x.1 < (d[q]!).1) (by omega) hp (fun k k1 k2 => h k q k1 (by omega) (by omega) h4) p h1 c
    · rw [hp.2.1 p (Or.inr (by omega))]
      exact h p q h1 h2 (by omega) h4
/-- What an insertion sort makes of a row. -/
structure InsPost (L a b : Nat) (f f' : Nat → G3) : Prop where
  out : ∀ i, i < L → (i < a ∨ b ≤ i) → f' i = f i
  perm : (lst L f').Perm (lst L f)
  block : ∀ i, a ≤ i → i < b → ∃ j, a ≤ j ∧ j < b ∧ f' i = f j
  srt : (∀ i j, a ≤ i → i < j → j < b → (f i).1 < (f j).1) → Srt a b f'
theorem arrF_get {L : Nat} {f : Nat → G3} {i : Nat} (h : i < L) : (arr L f)[i]! = f i := by
  unfold arr
  simp [h]
theorem nodupZ_iff {l : List Int} : l.Nodup ↔ ∀ i j, i < j → j < l.length → l[i]? ≠ l[j]? := by
  unfold List.Nodup
  rw [List.pairwise_iff_getElem]
  constructor
  · intro h i j h1 h2 e
    rw [List.getElem?_eq_getElem (by omega), List.getElem?_eq_getElem h2] at e
    exact h i j (by omega) h2 h1 (Option.some.inj e)
  · intro h i j h1 h2 h3 e
    refine h i j h3 h2 ?_
    rw [List.getElem?_eq_getElem h1, List.getElem?_eq_getElem h2, e]
theorem ins_post (L a b : Nat) (f : Nat → G3) (hab : a ≤ b) (hb : b ≤ L) : InsPost L a b f (fun i => (insertionSort (ltOf cmpG) (arr L f) a b)[i]!) := by
  have hs : (arr L f).size = L := arr_size L f
  have P := (insertionSort_holds swoG (arr L f) a b hab (by rw [hs]; exact hb)).1
  refine ⟨fun i hi h => ?_, ins_perm L a b f hab hb, ?_, ?_⟩
  · rw [P.2.1 i h, arrF_get hi]
  · refine permIn_all (arr L f) _ a b (fun x => ∃ j, a ≤ j ∧ j < b ∧ x = f j) (by rw [hs]; exact hb) P (fun i h1 h2 => ⟨i, h1, h2, arrF_get (by omega)⟩)
  · intro hn
    have same : insertionSort (ltOf cmpG) (arr L f) a b = insertionSort lt3 (arr L f) a b := by
      refine insOuter_same a b _ (a + 1) _ rfl (by omega) (by rw [hs]; exact hb) (fun p q h1 h2 h3 h4 => ?_)
      rw [arrF_get (by omega), arrF_get (by omega)]
      exact hn p q h1 h2 h4
    rw [same]
    have Q := insertionSort_holds swo3 (arr L f) a b hab (by rw [hs]; exact hb)
    intro i j h1 h2 h3
    have h4 := Q.2 i j h1 h2 h3
    rw [lt3_not] at h4
    -- the numbers are distinct: the part is a permutation of an ascending one
    have hne : ((insertionSort lt3 (arr L f) a b)[i]!).1 ≠ ((insertionSort lt3 (arr L f) a b)[j]!).1 := by
      have nd : (((arr L f).extract a b).toList.map (·.1)).Nodup := by
        rw [nodupZ_iff]
        intro p q hpq hq
        simp only [List.length_map, Array.length_toList, Array.size_extract, hs] at hq
        have hq' : q < b - a := by omega
        simp only [List.getElem?_map, Array.getElem?_toList, Array.getElem?_extract, hs]
        rw [if_pos (by omega), if_pos (by omega), Array.getElem?_eq_getElem (by rw [hs]; omega), Array.getElem?_eq_getElem (by rw [hs]; omega)]
        simp only [Option.map_some, ne_eq, Option.some.injEq]
        have e1 := arrF_get (L := L) (f := f) (i := a + p) (by omega)
        have e2 := arrF_get (L := L) (f := f) (i := a + q) (by omega)
        rw [getElem!_pos _ _ (by rw [hs]; omega)] at e1 e2
        rw [e1, e2]
        have := hn (a + p) (a + q) (by omega) (by omega) (by omega)
        omega
      have nd2 := (Q.1.2.2.map (·.1)).nodup_iff.mpr nd
      rw [nodupZ_iff] at nd2
      have hs2 : (insertionSort lt3 (arr L f) a b).size = L := Q.1.1.trans hs
      have h5 := nd2 (i - a) (j - a) (by omega) (by simp only [List.length_map, Array.length_toList, Array.size_extract, hs2]; omega)
      simp only [List.getElem?_map, Array.getElem?_toList, Array.getElem?_extract, hs2] at h5
      rw [if_pos (by omega), if_pos (by omega), show a + (i - a) = i by omega, show a + (j - a) = j by omega, Array.getElem?_eq_getElem (by rw [hs2]; omega), Array.getElem?_eq_getElem (by rw [hs2]; omega)] at h5
      simp only [Option.map_some, ne_eq, Option.some.injEq] at h5
      rw [getElem!_pos _ _ (by rw [hs2]; omega), getElem!_pos _ _ (by rw [hs2]; omega)]
      exact h5
    show T3 (insertionSort lt3 (arr L f) a b)[i]! (insertionSort lt3 (arr L f) a b)[j]!
    unfold T3
    omega
/-- Blocks of twenty are sorted up to a; the numbers of different blocks ascend. -/
def Blk0 (L a : Nat) (f : Nat → G3) : Prop := ∀ i j, i < j → j < L → (j < a → i / 20 = j / 20 → T3 (f i) (f j)) ∧ (¬ (j < a ∧ i / 20 = j / 20) → (f i).1 < (f j).1)
theorem Blk0.start {L : Nat} {f : Nat → G3} (h : NumUp L f) : Blk0 L 0 f := fun i j h1 h2 => ⟨fun q => by omega, fun _ => h i j h1 h2⟩
theorem Blk0.step {L a b : Nat} {f f' : Nat → G3} (h : Blk0 L a f) (ha : a % 20 = 0) (hb : b = a + 20 ∨ (b = L ∧ b ≤ a + 20)) (hab : a ≤ b) (hbL : b ≤ L) (p : InsPost L a b f f') : Blk0 L b f' := by
  have S := p.srt (fun i j h1 h2 h3 => (h i j h2 (by omega)).2 (by omega))
  intro i j h1 h2
  refine ⟨fun q1 q2 => ?_, fun q => ?_⟩
  · by_cases c : j < a
    · rw [p.out i (by omega) (by omega), p.out j h2 (by omega)]
      exact (h i j h1 h2).1 c q2
    · exact S i j (by omega) h1 q1
  · by_cases ci : i < a
    · rw [p.out i (by omega) (Or.inl ci)]
      by_cases cj : j < a
      · rw [p.out j h2 (Or.inl cj)]
        exact (h i j h1 h2).2 (by omega)
      · by_cases cj2 : j < b
        · obtain ⟨k, k1, k2, k3⟩ := p.block j (by omega) cj2
          rw [k3]
          exact (h i k (by omega) (by omega)).2 (by omega)
        · rw [p.out j h2 (by omega)]
          exact (h i j h1 h2).2 (by omega)
    · by_cases ci2 : i < b
      · obtain ⟨k, k1, k2, k3⟩ := p.block i (by omega) ci2
        have cj2 : b ≤ j := by omega
        rw [k3, p.out j h2 (Or.inr cj2)]
        exact (h k j (by omega) h2).2 (by omega)
      · rw [p.out i (by omega) (by omega), p.out j h2 (by omega)]
        exact (h i j h1 h2).2 (by omega)
/-- A place's block: of twice s below a, of s from a on. -/
def key (s a i : Nat) : Nat := if i < a then 2 * (i / (2 * s)) else i / s
def Blk (L s a : Nat) (f : Nat → G3) : Prop := ∀ i j, i < j → j < L → (key s a i = key s a j → T3 (f i) (f j)) ∧ (key s a i ≠ key s a j → (f i).1 < (f j).1)
theorem Blk.start {L : Nat} {f : Nat → G3} (h : Blk0 L L f) : Blk L 20 0 f := by
  intro i j h1 h2
  have := h i j h1 h2
  unfold key
  rw [if_neg (by omega), if_neg (by omega)]
  exact ⟨fun q => this.1 h2 q, fun q => this.2 (by omega)⟩
def Sz (s : Nat) : Prop := s = 20 ∨ s = 40 ∨ s = 80 ∨ s = 160
theorem Blk.step {L s a b : Nat} {f f' : Nat → G3} (hs : Sz s) (h : Blk L s a f) (ha : a % (2 * s) = 0) (hb : b = a + 2 * s ∨ (b = L ∧ b ≤ a + 2 * s)) (hab : a + s ≤ b) (hbL : b ≤ L) (p : SymPost L a (a + s) b f f') : Blk L s (a + 2 * s) f' := by
  have S := p.srt ⟨fun i j h1 h2 h3 => (h i j h2 (by omega)).1 (by unfold key; rw [if_neg (by omega), if_neg (by omega)]; rcases hs with rfl | rfl | rfl | rfl <;> omega), fun i j h1 h2 h3 => (h i j h2 (by omega)).1 (by unfold key; rw [if_neg (by omega), if_neg (by omega)]; rcases hs with rfl | rfl | rfl | rfl <;> omega), fun i j h1 h2 h3 h4 _ => (h i j (by omega) (by omega)).2 (by unfold key; rw [if_neg (by omega), if_neg (by omega)]; rcases hs with rfl | rfl | rfl | rfl <;> omega)⟩
  intro i j h1 h2
  refine ⟨fun q => ?_, fun q => ?_⟩
  · by_cases ci : i < a
    · have cj : j < a := by
        revert q
        unfold key
        rcases hs with rfl | rfl | rfl | rfl <;> (rw [if_pos (by omega)]; split <;> omega)
      rw [p.out i (Or.inl ci), p.out j (Or.inl cj)]
      refine (h i j h1 h2).1 ?_
      unfold key at q ⊢
      rw [if_pos ci, if_pos cj]
      rw [if_pos (by omega), if_pos (by omega)] at q
      exact q
    · by_cases cj : j < b
      · exact S i j (by omega) h1 cj
      · by_cases ci2 : i < b
        · exfalso
          revert q
          unfold key
          rcases hs with rfl | rfl | rfl | rfl <;> (rw [if_pos (by omega)]; split <;> omega)
        · rw [p.out i (by omega), p.out j (by omega)]
          refine (h i j h1 h2).1 ?_
          unfold key at q ⊢
          rw [if_neg (by omega), if_neg (by omega)]
          rw [if_neg (by omega), if_neg (by omega)] at q
          exact q
  · by_cases ci : i < a
    · rw [p.out i (Or.inl ci)]
      by_cases cj : j < a
      · rw [p.out j (Or.inl cj)]
        refine (h i j h1 h2).2 ?_
        unfold key at q ⊢
        rw [if_pos ci, if_pos cj]
        rw [if_pos (by omega), if_pos (by omega)] at q
        exact q
      · have far : ∀ k, a ≤ k → key s a i ≠ key s a k := by
          intro k hk
          unfold key
          rw [if_pos ci, if_neg (by omega)]
          rcases hs with rfl | rfl | rfl | rfl <;> omega
        by_cases cj2 : j < b
        · obtain ⟨k, k1, k2, k3⟩ := p.block j (by omega) cj2
          rw [k3]
          exact (h i k (by omega) (by omega)).2 (far k k1)
        · rw [p.out j (by omega)]
          exact (h i j h1 h2).2 (far j (by omega))
    · by_cases ci2 : i < b
      · have cj2 : b ≤ j := by
          refine Nat.le_of_not_lt fun cj2 => q ?_
          unfold key
          rw [if_pos (by omega), if_pos (by omega)]
          rcases hs with rfl | rfl | rfl | rfl <;> omega
        obtain ⟨k, k1, k2, k3⟩ := p.block i (by omega) ci2
        rw [k3, p.out j (Or.inr cj2)]
        refine (h k j (by omega) h2).2 ?_
        unfold key
        rw [if_neg (by omega), if_neg (by omega)]
        rcases hs with rfl | rfl | rfl | rfl <;> omega
      · rw [p.out i (by omega), p.out j (by omega)]
        refine (h i j h1 h2).2 ?_
        unfold key at q ⊢
        rw [if_neg (by omega), if_neg (by omega)]
        rw [if_neg (by omega), if_neg (by omega)] at q
        exact q
theorem Blk.next {L s a : Nat} {f : Nat → G3} (hs : Sz s) (hs2 : s < L) (hl : L ≤ 100) (h : Blk L s a f) (ha : a % (2 * s) = 0) (hb : L ≤ a + s) : Blk L (s * 2) 0 f := by
  intro i j h1 h2
  have := h i j h1 h2
  have k1 : ∀ i, i < L → key s a i = 2 * key (s * 2) 0 i := by
    intro i hi
    unfold key
    rw [if_neg (show ¬ i < 0 by omega)]
    rcases hs with rfl | rfl | rfl | rfl <;> (split <;> omega)
  rw [k1 i (by omega), k1 j h2] at this
  exact ⟨fun q => this.1 (by omega), fun q => this.2 (by omega)⟩
theorem Blk.done {L s : Nat} {f : Nat → G3} (hs : Sz s) (hL : L ≤ s) (h : Blk L s 0 f) : Srt 0 L f := by
  intro i j _ h1 h2
  refine (h i j h1 h2).1 ?_
  unfold key
  rw [if_neg (by omega), if_neg (by omega), Nat.div_eq_of_lt (by omega), Nat.div_eq_of_lt (by omega)]
/-- What a sort keeps at each of its steps: nothing is lost; and, of ascending numbers, the blocks. -/
structure SOrd (L : Nat) (f0 : Nat → G3) (B : (Nat → G3) → Prop) (f : Nat → G3) : Prop where
  perm : (lst L f).Perm (lst L f0)
  ok : NumUp L f0 → B f
theorem SOrd.start {L : Nat} {f0 : Nat → G3} : SOrd L f0 (Blk0 L 0) f0 := ⟨List.Perm.refl _, fun h => Blk0.start h⟩
theorem SOrd.ins {L a b : Nat} {f0 f f' : Nat → G3} (h : SOrd L f0 (Blk0 L a) f) (ha : a % 20 = 0) (hb : b = a + 20 ∨ (b = L ∧ b ≤ a + 20)) (hab : a ≤ b) (hbL : b ≤ L) (p : InsPost L a b f f') : SOrd L f0 (Blk0 L b) f' :=
  ⟨p.perm.trans h.perm, fun q => (h.ok q).step ha hb hab hbL p⟩
theorem SOrd.blocks {L : Nat} {f0 f : Nat → G3} (h : SOrd L f0 (Blk0 L L) f) : SOrd L f0 (Blk L 20 0) f := ⟨h.perm, fun q => Blk.start (h.ok q)⟩
theorem SOrd.merge {L s a b : Nat} {f0 f f' : Nat → G3} (hs : Sz s) (h : SOrd L f0 (Blk L s a) f) (ha : a % (2 * s) = 0) (hb : b = a + 2 * s ∨ (b = L ∧ b ≤ a + 2 * s)) (hab : a + s ≤ b) (hbL : b ≤ L) (p : SymPost L a (a + s) b f f') : SOrd L f0 (Blk L s (a + 2 * s)) f' :=
  ⟨p.perm.trans h.perm, fun q => (h.ok q).step hs ha hb hab hbL p⟩
theorem SOrd.next {L s a : Nat} {f0 f : Nat → G3} (h : SOrd L f0 (Blk L s a) f) (hs : Sz s) (hs2 : s < L) (hl : L ≤ 100) (ha : a % (2 * s) = 0) (hb : L ≤ a + s) : SOrd L f0 (Blk L (s * 2) 0) f :=
  ⟨h.perm, fun q => (h.ok q).next hs hs2 hl ha hb⟩
theorem SOrd.done {L s : Nat} {f0 f : Nat → G3} (h : SOrd L f0 (Blk L s 0) f) (hs : Sz s) (hL : L ≤ s) : SOrd L f0 (Srt 0 L) f := ⟨h.perm, fun q => (h.ok q).done hs hL⟩
/-- The word of a stable sort by the end: nothing is lost; what ascended by number ends sorted by the end and then by the number. -/
def StableP (l l' : List G3) : Prop := l'.Perm l ∧ (l.Pairwise (fun x y => x.1 < y.1) → l'.Pairwise T3)
theorem lst_pairwise {L : Nat} {f : Nat → G3} {R : G3 → G3 → Prop} : (lst L f).Pairwise R ↔ ∀ i j, i < j → j < L → R (f i) (f j) := by
  rw [List.pairwise_iff_getElem]
  unfold lst
  constructor
  · intro h i j h1 h2
    have := h i j (by simp; omega) (by simp; omega) h1
    simpa using this
  · intro h i j h1 h2 h3
    simp at h1 h2
    simpa using h i j h3 h2
theorem SOrd.word {L : Nat} {f f' : Nat → G3} (h : SOrd L f (Srt 0 L) f') : StableP (lst L f) (lst L f') :=
  ⟨h.perm, fun q => lst_pairwise.mpr (fun i j h1 h2 => h.ok (fun i j h1 h2 => lst_pairwise.mp q i j h1 h2) i j (Nat.zero_le _) h1 h2)⟩
theorem stable_unique {l l1 l2 : List G3} (h1 : l1.Perm l) (h2 : l2.Perm l) (s1 : l1.Pairwise T3) (s2 : l2.Pairwise T3) : l1 = l2 :=
  (h1.trans h2.symm).eq_of_pairwise (fun x y _ _ p q => by unfold T3 at p q; omega) s1 s2
end Go.Proofs.Ytikbgoppmailjaa.H
