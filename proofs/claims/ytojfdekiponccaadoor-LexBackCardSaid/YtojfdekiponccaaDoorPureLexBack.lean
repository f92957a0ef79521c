/- LexBack: of any at most 60 signs and any text of at most 300 bytes: what Print writes within 60 bytes is read by Lex as the same signs; what Lex reads, Print writes, and Lex reads that as the same signs, or it is longer than 60 bytes. -/
import Derived.Test.YtojfdekiponccaaDoorHx13
import Derived.Test.YtojfdekiponccaaDoorPBack
import Derived.Test.YtojfdekiponccaaDoorPWakes13
namespace Go.Proofs.YtojfdekiponccaaDoor.Pure
open Go.RowKit Go.Proofs.YtojfdekiponccaaDoor.H Go.Proofs.YtojfdekiponccaaDoorW.PrintWords Go.Proofs.YtojfdekiponccaaDoorW.PrintLast Go.Proofs.YtojfdekiponccaaDoorW.PrintMore
set_option linter.unusedVariables false
set_option linter.unusedSimpArgs false
theorem back_j2 (s : ByteArray) (k : Nat) (hk : 300 ≤ k) : remontoirlaw13_LexBack.j2 k s = some true := by
  obtain ⟨k, rfl⟩ : ∃ m, k = m + 1 := ⟨k - 1, by omega⟩
  simp only [remontoirlaw13_LexBack.j2]
  obtain ⟨x, e, hx, hlx, _⟩ := refLex_eq s
  rw [hx]
  simp only [Option.bind_some]
  by_cases he : e = 0
  · subst he
    rw [if_pos rfl]
    have hg : goodAll x = true := by
      rw [lex_list] at hx
      split at hx
      · have h1 := (Prod.mk.inj (Option.some.inj hx)).1
        rw [← h1]; rfl
      · exact lexF_good _ _ [] x 0 (Nat.le_refl _) rfl hx
    rw [impl_print x hlx k (by omega)]
    unfold prS
    rw [if_pos hg]
    simp only [Option.bind_some, if_true]
    by_cases h60 : (prL x).length ≤ 60
    · rw [lex_of_print x hg h60]
      simp only [Option.bind_some, if_true]
      rw [signs_same x (by omega) k (by omega)]
      simp only [Option.bind_some, if_true]
      rw [wakes13 k (by omega)]
      rfl
    · have hs : (⟨(prL x).toArray⟩ : ByteArray).size = (prL x).length := by rw [← data_len]
      rw [lex_list, if_pos (by rw [hs]; omega)]
      simp only [Option.bind_some]
      rw [if_neg (by decide), if_pos trivial, if_pos (by rw [hs]; omega), wakes13 k (by omega)]
      rfl
  · rw [if_neg he, wakes13 k (by omega)]
    rfl
theorem LexBack (l : List S35) (s : ByteArray) (_ : l.length ≤ maxLen) (_ : ∀ x ∈ l, (Lit.int .i64 x.f0).wf = true ∧ (Lit.int .i64 x.f1).wf = true) (_ : s.size ≤ 140737488351232) : ∃ k, remontoirlaw13_LexBack.f k l s = some true := by
  refine ⟨400, ?_⟩
  have ht : remontoirlaw13_LexBack.j0 400 l s true = some true := by
    simp only [remontoirlaw13_LexBack.j0, if_true]
    rw [wakes13 _ (by omega)]
    rfl
  unfold remontoirlaw13_LexBack.f
  by_cases h1 : (s.size : Int) > 300
  · rw [if_pos h1]; exact ht
  · rw [if_neg h1]
    by_cases h2 : (l.length : Int) > 60
    · rw [decide_eq_true h2]; exact ht
    · rw [decide_eq_false h2]
      have hl : l.length ≤ 60 := by omega
      simp only [remontoirlaw13_LexBack.j0, Bool.false_eq_true, if_false]
      rw [impl_print l hl _ (by omega)]
      simp only [Option.bind_some]
      have jf : ∀ t : ByteArray, remontoirlaw13_LexBack.j1 399 l s t false = some true := by
        intro t
        simp only [remontoirlaw13_LexBack.j1, Bool.false_eq_true, if_false]
        exact back_j2 s _ (by omega)
      unfold prS
      cases hg : goodAll l
      · simp only [Bool.false_eq_true, if_false]
        exact jf _
      · simp only [if_true]
        have hs : (⟨(prL l).toArray⟩ : ByteArray).size = (prL l).length := by rw [← data_len]
        by_cases h60 : (prL l).length ≤ 60
        · rw [decide_eq_true (by rw [hs]; omega)]
          simp only [remontoirlaw13_LexBack.j1, if_true]
          rw [lex_of_print l hg h60]
          simp only [Option.bind_some, if_true]
          rw [signs_same l (by omega) _ (by omega)]
          simp only [Option.bind_some, if_true]
          exact back_j2 s _ (by omega)
        · rw [decide_eq_false (by rw [hs]; omega)]
          exact jf _
end Go.Proofs.YtojfdekiponccaaDoor.Pure
