import Derived.Test.YtikbgoppmailjaaHLs23
/- insertionSortCmpFunc: a permutation of the row. -/
namespace Go.Proofs.Ytikbgoppmailjaa.H
open Go.RowKit Go.HK Go.Maps Go.Sort Go.Lib Go.WideShapes Go.ChangeShapes Go.Proofs.YtikbgoppmailjaaW.PrintWords Go.Proofs.YtikbgoppmailjaaW.PrintLast Go.Proofs.YtikbgoppmailjaaW.PrintMore
set_option linter.unusedVariables false
set_option linter.unusedSimpArgs false
/-- The row's leases as a list. -/
def lst (L : Nat) (f : Nat → G3) : List G3 := (List.range L).map f
theorem lst_arr (L : Nat) (d : Array G3) (h : d.size = L) : lst L (fun i => d[i]!) = d.toList := by
  subst h
  apply List.ext_getElem
  · simp [lst]
  · intro i h1 h2
    have hi : i < d.size := by simpa using h2
    simp [lst, getElem!_pos d i hi]
theorem extract_all {α : Type} {L : Nat} (d : Array α) (h : d.size = L) : d.extract 0 L = d := by subst h; simp
theorem arr_list (L : Nat) (f : Nat → G3) : (arr L f).toList = lst L f := by simp [arr, lst]
theorem ins_perm (L a b : Nat) (f : Nat → G3) (hab : a ≤ b) (hb : b ≤ L) : (lst L (fun i => (insertionSort (ltOf cmpG) (arr L f) a b)[i]!)).Perm (lst L f) := by
  have h := (insertionSort_holds swoG (arr L f) a b hab (by rw [arr_size]; exact hb)).1
  have h0 := permIn_mono _ _ a b 0 L (Nat.zero_le _) hb (by rw [arr_size]; exact Nat.le_refl _) h
  rw [lst_arr L _ (h0.1.trans (arr_size L f))]
  have h2 := h0.2.2
  rw [extract_all _ (h0.1.trans (arr_size L f)), extract_all _ (arr_size L f)] at h2
  rwa [← arr_list L f]
theorem swpF_perm (L i j : Nat) (f : Nat → G3) (hi : i < L) (hj : j < L) : (lst L (swpF f i j)).Perm (lst L f) := by
  have h := swp_permIn (arr L f) 0 L i j (Nat.zero_le _) hi (Nat.zero_le _) hj (by rw [arr_size]; exact Nat.le_refl _)
  have hs : (swp (arr L f) i j).size = L := h.1.trans (arr_size L f)
  have e0 : lst L (swpF f i j) = (swp (arr L f) i j).toList := by
    rw [← lst_arr L _ hs]
    unfold lst
    apply List.map_congr_left
    intro k hk
    have hk := List.mem_range.1 hk
    rw [swp_get _ (by rw [arr_size]; exact hi) (by rw [arr_size]; exact hj)]
    unfold swpF upd
    rw [arr_get L f hi, arr_get L f hj, arr_get L f hk]
  rw [e0, ← arr_list L f]
  have h2 := h.2.2
  rwa [extract_all _ hs, extract_all _ (arr_size L f)] at h2
theorem swapR_perm (L a b : Nat) (f : Nat → G3) : ∀ n, a + n ≤ L → b + n ≤ L → (lst L (swapR f a b n)).Perm (lst L f)
  | 0, _, _ => List.Perm.refl _
  | n + 1, h1, h2 => (swpF_perm L (a + n) (b + n) _ (by omega) (by omega)).trans (swapR_perm L a b f n (by omega) (by omega))
theorem rotG_perm (L m : Nat) : ∀ (k : Nat) (f : Nat → G3) (i j : Nat), 0 < i → 0 < j → i ≤ m → m + j ≤ L → i + j ≤ k → (lst L (rotG m k f i j)).Perm (lst L f)
  | 0, f, i, j, h1, h2, _, _, h => by omega
  | k + 1, f, i, j, h1, h2, h3, h4, h => by
    unfold rotG
    split
    · rename_i e
      exact swapR_perm L _ _ f _ (by omega) (by omega)
    · split
      · exact (rotG_perm L m k _ (i - j) j (by omega) h2 (by omega) h4 (by omega)).trans (swapR_perm L _ _ f _ (by omega) (by omega))
      · exact (rotG_perm L m k _ i (j - i) h1 (by omega) h3 (by omega) (by omega)).trans (swapR_perm L _ _ f _ (by omega) (by omega))
end Go.Proofs.Ytikbgoppmailjaa.H
