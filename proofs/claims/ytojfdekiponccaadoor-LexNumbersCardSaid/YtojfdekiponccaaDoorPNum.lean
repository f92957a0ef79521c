import Derived.Test.YtojfdekiponccaaDoorPSigns
import Derived.Laws.Bits64
/- What a row of digits spells; the steps of lex.Lex, one for each way a text begins. -/
namespace Go.Proofs.YtojfdekiponccaaDoor.Pure
open Go.RowKit Go.Proofs.YtojfdekiponccaaDoor.H Go.Proofs.YtojfdekiponccaaDoorW.PrintWords Go.Proofs.YtojfdekiponccaaDoorW.PrintLast
set_option linter.unusedVariables false
set_option linter.unusedSimpArgs false
def dv (b : UInt8) : Nat := b.toNat - 48
theorem dv_eq (b : UInt8) : dv b = b.toNat - 48 := by unfold dv; exact Eq.refl _
def vfL : List UInt8 → Nat → Nat
  | [] => fun acc => acc
  | b :: r => fun acc => vfL r (acc * 10 + dv b)
def vf (acc : Nat) (l : List UInt8) : Nat := vfL l acc
theorem vf_nil (acc : Nat) : vf acc [] = acc := Eq.refl _
theorem vf_cons (acc : Nat) (b : UInt8) (r : List UInt8) : vf acc (b :: r) = vf (acc * 10 + dv b) r := Eq.refl _
theorem vf_dec : ∀ (l : List UInt8) (acc : Nat), (∀ b ∈ l, dg b = true) → Lib.decFrom acc l = some (vf acc l)
  | [], acc, _ => by rw [vf_nil]; rfl
  | b :: r, acc, h => by
    have hb : 48 ≤ b.toNat ∧ b.toNat ≤ 57 := of_decide_eq_true (h b (by simp))
    rw [vf_cons]
    unfold Lib.decFrom
    have e : Lib.digitVal b = some (dv b) := by unfold Lib.digitVal; rw [if_pos hb, dv_eq]
    rw [e]
    exact vf_dec r _ (fun x hx => h x (by simp [hx]))
theorem vf_ge : ∀ (l : List UInt8) (acc : Nat), acc * 10 ^ l.length ≤ vf acc l
  | [], acc => by rw [vf_nil, List.length_nil, Nat.pow_zero, Nat.mul_one]; exact Nat.le_refl _
  | b :: r, acc => by
    rw [vf_cons]
    refine Nat.le_trans ?_ (vf_ge r (acc * 10 + dv b))
    rw [List.length_cons, Nat.pow_succ, Nat.mul_comm (10 ^ r.length) 10, ← Nat.mul_assoc]
    exact Nat.mul_le_mul_right _ (Nat.le_add_right _ _)
theorem tw_dg : ∀ (l : List UInt8), ∀ b ∈ l.takeWhile dg, dg b = true
  | [], b, h => by cases h
  | a :: l, b, h => by
    rw [List.takeWhile_cons] at h
    cases ha : dg a
    · rw [ha] at h; simp at h
    · rw [ha] at h
      simp only [if_true, List.mem_cons] at h
      rcases h with rfl | h
      · exact ha
      · exact tw_dg l b h
theorem valL_dg (c : UInt8) (t : List UInt8) (h : ∀ b ∈ c :: t, dg b = true) : valL (c :: t) = (vf 0 (c :: t) : Int) := by
  have hc : 48 ≤ c.toNat ∧ c.toNat ≤ 57 := of_decide_eq_true (h c (by simp))
  have e1 : (c == 45) = false := by rw [beq_eq_false_iff_ne]; rintro rfl; exact absurd hc (by decide)
  have e2 : (c == 43) = false := by rw [beq_eq_false_iff_ne]; rintro rfl; exact absurd hc (by decide)
  unfold valL Lib.atoi
  dsimp only
  rw [e1, e2]
  simp only [Bool.false_eq_true, if_false, Lib.decNat, List.isEmpty_cons]
  rw [vf_dec _ _ h]
  rfl
theorem dg_ne (c : UInt8) (h : dg c = true) : (c == 32) = false := by
  rw [beq_eq_false_iff_ne]; rintro rfl; exact absurd h (by decide)
theorem lexF_num (c : UInt8) (t : List UInt8) (x : List S35) (hd : dg c = true) : lexF (c :: t) x =
    if c = 48 ∧ 1 < ((c :: t).takeWhile dg).length then some ([], 2)
    else if 2147483647 < vf 0 ((c :: t).takeWhile dg) then some ([], 3)
    else lexF ((c :: t).drop ((c :: t).takeWhile dg).length) (x ++ [(⟨1, (vf 0 ((c :: t).takeWhile dg) : Int)⟩ : S35)]) := by
  rw [lexF_eq]
  have hdw : (c :: t).dropWhile (· == 32) = c :: t := by rw [List.dropWhile_cons, dg_ne c hd]; rfl
  rw [hdw]
  dsimp only
  rw [if_pos hd]
  have hall := tw_dg (c :: t)
  have htw : (c :: t).takeWhile dg = c :: t.takeWhile dg := by rw [List.takeWhile_cons, if_pos hd]
  rw [htw] at hall ⊢
  rw [valL_dg c _ hall]
  by_cases h1 : c = 48 ∧ 1 < (c :: t.takeWhile dg).length
  · rw [if_pos h1, if_pos h1]
  · rw [if_neg h1, if_neg h1]
    by_cases h2 : 10 < (c :: t.takeWhile dg).length
    · rw [if_pos h2, if_pos]
      have hc : 48 ≤ c.toNat ∧ c.toNat ≤ 57 := of_decide_eq_true hd
      have hc48 : c.toNat ≠ 48 := fun h => h1 ⟨UInt8.toNat_inj.1 h, by omega⟩
      rw [vf_cons]
      have hdv := dv_eq c
      have h3 := vf_ge (t.takeWhile dg) (0 * 10 + dv c)
      rw [List.length_cons] at h2
      have h4 : 10 ^ 10 ≤ 10 ^ (t.takeWhile dg).length := Nat.pow_le_pow_right (by decide) (by omega)
      have h5 : 1 * 10 ^ (t.takeWhile dg).length ≤ (0 * 10 + dv c) * 10 ^ (t.takeWhile dg).length := Nat.mul_le_mul_right _ (by omega)
      have h6 : (10 : Nat) ^ 10 = 10000000000 := by decide
      omega
    · rw [if_neg h2]
      by_cases h3 : 2147483647 < vf 0 (c :: t.takeWhile dg)
      · rw [if_pos h3, if_pos (by omega)]
      · rw [if_neg h3, if_neg (by omega)]
theorem lexF_low (c : UInt8) (t : List UInt8) (x : List S35) (hw : lw c = true) : lexF (c :: t) x = lexF t (x ++ [(⟨2, (c.toNat : Int) - 97⟩ : S35)]) := by
  have hc : 97 ≤ c.toNat ∧ c.toNat ≤ 122 := of_decide_eq_true hw
  have h32 : (c == 32) = false := by rw [beq_eq_false_iff_ne]; rintro rfl; exact absurd hc (by decide)
  have hd : dg c = false := decide_eq_false (by omega)
  rw [lexF_eq, List.dropWhile_cons, h32]
  simp only [Bool.false_eq_true, if_false]
  rw [if_neg (by rw [hd]; decide), if_pos hw]
theorem lexF_sym (c : UInt8) (t : List UInt8) (x : List S35) (h32 : c ≠ 32) (hd : dg c = false) (hw : lw c = false) : lexF (c :: t) x =
    if (longL (c :: t) 19).2 = 0 then some ([], 2) else lexF ((c :: t).drop (longL (c :: t) 19).2.toNat) (x ++ [(⟨(longL (c :: t) 19).1, 0⟩ : S35)]) := by
  have h : (c == 32) = false := by rw [beq_eq_false_iff_ne]; exact h32
  rw [lexF_eq, List.dropWhile_cons, h]
  simp only [Bool.false_eq_true, if_false]
  rw [if_neg (by rw [hd]; decide), if_neg (by rw [hw]; decide)]
theorem lexF_symN (c : UInt8) (t : List UInt8) (x : List S35) (h32 : c ≠ 32) (hd : dg c = false) (hw : lw c = false) (n : Nat) (hn : n = 19) : lexF (c :: t) x =
    if (longL (c :: t) n).2 = 0 then some ([], 2) else lexF ((c :: t).drop (longL (c :: t) n).2.toNat) (x ++ [(⟨(longL (c :: t) n).1, 0⟩ : S35)]) := by
  subst hn
  exact lexF_sym c t x h32 hd hw
theorem lexT_size (k : Nat) : (lexT.getD k ⟨#[]⟩).size ≤ 2 := by
  by_cases hk : k < 19
  · have : ∀ j : Fin 19, (lexT.getD j.val ⟨#[]⟩).size ≤ 2 := by decide
    exact this ⟨k, hk⟩
  · have e : lexT.getD k ⟨#[]⟩ = ⟨#[]⟩ := by rw [List.getD_eq_getElem?_getD, List.getElem?_eq_none (by show 19 ≤ k; omega)]; rfl
    rw [e]; exact Nat.zero_le _
theorem lexT_small (k : Nat) (hk : k < 3) : (lexT.getD k ⟨#[]⟩).size = 0 := by
  rcases (by omega : k = 0 ∨ k = 1 ∨ k = 2) with rfl | rfl | rfl
  all_goals rfl
/-- What the longest sign found so far is. -/
theorem longL_ok (D : List UInt8) : ∀ i, longL D i = (0, 0) ∨ ∃ q : Nat, 3 ≤ q ∧ q < i ∧ longL D i = ((q : Int), ((lexT.getD q ⟨#[]⟩).size : Int)) ∧ 0 < (lexT.getD q ⟨#[]⟩).size ∧ Lib.hasPrefix D (lexT.getD q ⟨#[]⟩).data.toList = true
  | 0 => Or.inl rfl
  | i + 1 => by
    have ih := longL_ok D i
    have hp := longL_pos D i
    unfold longL
    by_cases h : (longL D i).2 < ((lexT.getD i ⟨#[]⟩).size : Int) ∧ Lib.hasPrefix D (lexT.getD i ⟨#[]⟩).data.toList = true
    · rw [if_pos h]
      have h3 : 3 ≤ i := by
        rcases Nat.lt_or_ge i 3 with h3 | h3
        · have := lexT_small i h3
          omega
        · exact h3
      exact Or.inr ⟨i, h3, by omega, rfl, by omega, h.2⟩
    · rw [if_neg h]
      rcases ih with e | ⟨q, q1, q2, e, q3, q4⟩
      · exact Or.inl e
      · exact Or.inr ⟨q, q1, by omega, e, q3, q4⟩
theorem hasPrefix_len (D p : List UInt8) (h : Lib.hasPrefix D p = true) : p.length ≤ D.length := (List.isPrefixOf_iff_prefix.1 h).length_le
end Go.Proofs.YtojfdekiponccaaDoor.Pure
