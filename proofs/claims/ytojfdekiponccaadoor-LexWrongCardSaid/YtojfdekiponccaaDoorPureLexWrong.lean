/- LexWrong: a byte that begins no sign is told, behind whatever signs can be read and ahead of whatever bytes; a text that is too long is told as that: for all texts of at most 59 bytes together, and all bytes. -/
import Derived.Test.YtojfdekiponccaaDoorHx16
import Derived.Test.YtojfdekiponccaaDoorPSigns
import Derived.Test.YtojfdekiponccaaDoorPWakes13
namespace Go.Proofs.YtojfdekiponccaaDoor.Pure
open Go.RowKit Go.Proofs.YtojfdekiponccaaDoor.H Go.Proofs.YtojfdekiponccaaDoorW.PrintWords Go.Proofs.YtojfdekiponccaaDoorW.PrintLast
set_option linter.unusedVariables false
set_option linter.unusedSimpArgs false
theorem refText (i : Nat) (h1 : 3 ≤ i) (h2 : i ≤ 18) (k : Nat) (hk : 5 ≤ k) : remontoirref13_Text.f k (i : Int) 0 = some (lexT.getD i ⟨#[]⟩) := by
  refine at_rounds (remontoirref13_Text.mono _ _) hk ?_
  rcases (by omega : i = 3 ∨ i = 4 ∨ i = 5 ∨ i = 6 ∨ i = 7 ∨ i = 8 ∨ i = 9 ∨ i = 10 ∨ i = 11 ∨ i = 12 ∨ i = 13 ∨ i = 14 ∨ i = 15 ∨ i = 16 ∨ i = 17 ∨ i = 18) with rfl | rfl | rfl | rfl | rfl | rfl | rfl | rfl | rfl | rfl | rfl | rfl | rfl | rfl | rfl | rfl
  all_goals kernel_rfl
/-- A byte that no sign begins with is in no sign's text. -/
theorem sep_of (c : UInt8) (hd : dg c = false) (h : ∀ i : Nat, 3 ≤ i → i ≤ 18 → bt (lexT.getD i ⟨#[]⟩) 0 ≠ (c.toNat : Int)) : Sep c := by
  refine ⟨hd, ?_⟩
  intro t ht hc
  have hall : ∀ t ∈ lexT, ∀ b ∈ t.data.toList, ∃ i : Fin 16, bt (lexT.getD (i.val + 3) ⟨#[]⟩) 0 = (b.toNat : Int) := by decide
  obtain ⟨i, hi⟩ := hall t ht c hc
  exact h (i.val + 3) (by omega) (by omega) hi
theorem long_none (c : UInt8) (r : List UInt8) (h : ∀ i : Nat, 3 ≤ i → i ≤ 18 → bt (lexT.getD i ⟨#[]⟩) 0 ≠ (c.toNat : Int)) : ∀ k, k ≤ 19 → longL (c :: r) k = (0, 0)
  | 0, _ => rfl
  | k + 1, hk => by
    unfold longL
    rw [long_none c r h k (by omega), if_neg]
    rintro ⟨h1, h2⟩
    have hpos : 0 < (lexT.getD k ⟨#[]⟩).size := by
      have : (0 : Int) < ((lexT.getD k ⟨#[]⟩).size : Int) := h1
      omega
    have h3 : 3 ≤ k := by
      rcases (by omega : k = 0 ∨ k = 1 ∨ k = 2 ∨ 3 ≤ k) with rfl | rfl | rfl | h3
      · exact absurd hpos (by decide)
      · exact absurd hpos (by decide)
      · exact absurd hpos (by decide)
      · exact h3
    obtain ⟨b, q, e, hb⟩ := bt_zero _ hpos
    refine h k h3 (by omega) ?_
    rw [hb]
    unfold Lib.hasPrefix at h2
    rw [e] at h2
    simp only [List.isPrefixOf, Bool.and_eq_true, beq_iff_eq] at h2
    rw [h2.1]
theorem str_one (c : UInt8) : (strOfNums ([(c.toNat : Int)] : List Int)).data.toList = [c] := by
  simp [strOfNums]
theorem grow_loop (a b : ByteArray) (c : Int) (r : Option Bool) (hr : ∀ k, 300 ≤ k → ∀ t : ByteArray, t.size > 60 → remontoirlaw13_LexWrong.l0 k a b c t = some true) :
    ∀ (d k : Nat) (t : ByteArray), t.size + d = 61 → 300 + d ≤ k → remontoirlaw13_LexWrong.l0 k a b c t = some true := by
  intro d
  induction d with
  | zero => intro k t h hk; exact hr k (by omega) t (by omega)
  | succ d ih =>
    intro k t h hk
    obtain ⟨k, rfl⟩ : ∃ m, k = m + 1 := ⟨k - 1, by omega⟩
    simp only [remontoirlaw13_LexWrong.l0]
    rw [if_pos (by omega), if_pos (by omega)]
    exact ih k _ (by simp only [ByteArray.size_append]; show t.size + 1 + d = 61; omega) (by omega)
theorem LexWrong : remontoirlaw13_LexWrong.Pure := by
  intro a b c _ _ hc
  by_cases hs : (wrap64 ((wrap64 ((a.size : Int) + (b.size : Int))) + 1)) > 60
  · refine ⟨10, ?_⟩
    unfold remontoirlaw13_LexWrong.f
    rw [if_pos hs, wakes13 10 (by omega)]
    rfl
  · have hab : a.size + b.size ≤ 59 := by unfold wrap64 at hs; omega
    have hcb : 0 ≤ c ∧ c ≤ 255 := by
      have := hc
      simp [Lit.wf, IntKind.min, IntKind.max, IntKind.signed, IntKind.bits] at this
      omega
    obtain ⟨cb, rfl⟩ : ∃ cb : UInt8, c = (cb.toNat : Int) := ⟨UInt8.ofNat c.toNat, by
      rw [UInt8.toNat_ofNat']
      omega⟩
    refine ⟨400, ?_⟩
    unfold remontoirlaw13_LexWrong.f
    rw [if_neg hs]
    clear hs
    refine grow_loop a b _ none ?_ (61 - a.size) 400 a (by omega) (by omega)
    intro k hk t ht
    obtain ⟨k, rfl⟩ : ∃ m, k = m + 1 := ⟨k - 1, by omega⟩
    simp only [remontoirlaw13_LexWrong.l0]
    rw [if_neg (by omega), lex_list, if_pos ht]
    simp only [Option.bind_some, if_true]
    obtain ⟨k, rfl⟩ : ∃ m, k = m + 1 := ⟨k - 1, by omega⟩
    simp only [remontoirlaw13_LexWrong.j1]
    rw [if_neg (by simp)]
    have j2t : remontoirlaw13_LexWrong.j2 k a b (cb.toNat : Int) true = some true := by
      obtain ⟨k, rfl⟩ : ∃ m, k = m + 1 := ⟨k - 1, by omega⟩
      simp only [remontoirlaw13_LexWrong.j2, if_true]
      rw [wakes13 k (by omega)]; rfl
    have j2f : dg cb = false → lw cb = false → remontoirlaw13_LexWrong.j2 k a b (cb.toNat : Int) false = some true := by
      intro hd hw
      obtain ⟨k, rfl⟩ : ∃ m, k = m + 1 := ⟨k - 1, by omega⟩
      simp only [remontoirlaw13_LexWrong.j2, Bool.false_eq_true, if_false]
      have loop : ∀ (d i k : Nat), i + d = 19 → 3 ≤ i → 100 + d ≤ k → (∀ j, 3 ≤ j → j < i → bt (lexT.getD j ⟨#[]⟩) 0 ≠ (cb.toNat : Int)) → remontoirlaw13_LexWrong.l1 k a b (cb.toNat : Int) (i : Int) = some true := by
        intro d
        induction d with
        | zero =>
          intro i k hi h3 hk hne
          obtain rfl : i = 19 := by omega
          obtain ⟨k, rfl⟩ : ∃ m, k = m + 1 := ⟨k - 1, by omega⟩
          have hne' : ∀ i : Nat, 3 ≤ i → i ≤ 18 → bt (lexT.getD i ⟨#[]⟩) 0 ≠ (cb.toNat : Int) := fun i h1 h2 => hne i h1 (by omega)
          simp only [remontoirlaw13_LexWrong.l1]
          rw [if_neg (by omega), lex_list, if_neg (by omega)]
          obtain ⟨x, e, hA⟩ := lexF_some _ a.data.toList [] (Nat.le_refl _)
          rw [hA]
          simp only [Option.bind_some]
          have j4t : remontoirlaw13_LexWrong.j4 k a b (cb.toNat : Int) true = some true := by
            obtain ⟨k, rfl⟩ : ∃ m, k = m + 1 := ⟨k - 1, by omega⟩
            simp only [remontoirlaw13_LexWrong.j4, if_true]
            rw [wakes13 k (by omega)]; rfl
          by_cases he : e = 0
          · rw [if_pos he]
            subst he
            by_cases h32 : (cb.toNat : Int) = 32
            · rw [show ((cb.toNat : Int) == 32) = true from beq_iff_eq.2 h32]; exact j4t
            · rw [show ((cb.toNat : Int) == 32) = false from beq_eq_false_iff_ne.2 h32]
              obtain ⟨k, rfl⟩ : ∃ m, k = m + 1 := ⟨k - 1, by omega⟩
              simp only [remontoirlaw13_LexWrong.j4, Bool.false_eq_true, if_false, Option.bind_some]
              have hstr := str_one cb
              generalize strOfNums ([(cb.toNat : Int)] : List Int) = sc at *
              have hsz : sc.size = 1 := by rw [← data_len, hstr]; rfl
              rw [if_pos (by omega), if_pos (by simp only [ByteArray.size_append]; omega), lex_list, if_neg (by simp only [ByteArray.size_append]; omega)]
              have hsep := sep_of cb hd hne'
              have hdat : (a ++ sc ++ b).data.toList = a.data.toList ++ cb :: b.data.toList := by
                simp only [ByteArray.data_append, Array.toList_append, hstr]
                simp
              rw [hdat]
              rcases lex_app cb b.data.toList hsep _ a.data.toList [] (Nat.le_refl _) with ⟨z, h1, h2⟩ | ⟨e', he', h1, h2⟩
              · rw [h2, lexF_eq]
                have hc32 : (cb == 32) = false := by
                  rw [beq_eq_false_iff_ne]; rintro rfl; exact h32 rfl
                simp only [List.dropWhile_cons, hc32, Bool.false_eq_true, if_false]
                rw [if_neg (by rw [hd]; decide), if_neg (by rw [hw]; decide), long_none cb b.data.toList hne' 19 (by omega)]
                simp only [if_true, Option.bind_some]
                rw [if_pos (by simp), wakes13 k (by omega)]
                rfl
              · rw [hA] at h1
                exact absurd (Prod.mk.inj (Option.some.inj h1)).2.symm he'
          · rw [if_neg he]; exact j4t
        | succ d ih =>
          intro i k hi h3 hk hne
          obtain ⟨k, rfl⟩ : ∃ m, k = m + 1 := ⟨k - 1, by omega⟩
          simp only [remontoirlaw13_LexWrong.l1]
          rw [if_pos (by omega), refText i h3 (by omega) k (by omega)]
          simp only [Option.bind_some]
          have hpos : 0 < (lexT.getD i ⟨#[]⟩).size := by
            have : ∀ j : Fin 16, 0 < (lexT.getD (j.val + 3) ⟨#[]⟩).size := by decide
            have h := this ⟨i - 3, by omega⟩
            have e : i - 3 + 3 = i := by omega
            simpa [e] using h
          rw [if_pos (by omega)]
          by_cases hb : bt (lexT.getD i ⟨#[]⟩) 0 = (cb.toNat : Int)
          · rw [if_pos hb, wakes13 k (by omega)]; rfl
          · rw [if_neg hb]
            have e : wrap64 ((i : Int) + 1) = ((i + 1 : Nat) : Int) := by unfold wrap64; omega
            rw [e]
            clear e
            refine ih (i + 1) k (by omega) (by omega) (by omega) ?_
            intro j hj1 hj2
            by_cases hji : j = i
            · subst hji; exact hb
            · exact hne j hj1 (by omega)
      exact loop 16 3 k (by omega) (by omega) (by omega) (fun j h1 h2 => by omega)
    by_cases w1 : (cb.toNat : Int) ≥ 97
    · rw [if_pos w1]
      by_cases w2 : (cb.toNat : Int) ≤ 122
      · rw [if_pos w2]; exact j2t
      · rw [if_neg w2, if_pos (by omega)]
        have : decide ((cb.toNat : Int) ≤ 57) = false := decide_eq_false (by omega)
        rw [this]
        exact j2f (decide_eq_false (by omega)) (decide_eq_false (by omega))
    · rw [if_neg w1]
      by_cases w3 : (cb.toNat : Int) ≥ 48
      · rw [if_pos w3]
        by_cases w4 : (cb.toNat : Int) ≤ 57
        · rw [decide_eq_true w4]; exact j2t
        · rw [decide_eq_false w4]
          exact j2f (decide_eq_false (by omega)) (decide_eq_false (by omega))
      · rw [if_neg w3]
        exact j2f (decide_eq_false (by omega)) (decide_eq_false (by omega))
end Go.Proofs.YtojfdekiponccaaDoor.Pure
