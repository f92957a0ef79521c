/- LexTells: of any text of at most 300 bytes, lex.Lex says what the document's Lex says; of any at most 60 signs, Print, Good and Text say what the document's say. -/
import Derived.Test.YtojfdekiponccaaDoorHx12
import Derived.Test.YtojfdekiponccaaDoorPPrint
import Derived.Test.YtojfdekiponccaaDoorPWakes13
namespace Go.Proofs.YtojfdekiponccaaDoor.Pure
open Go.RowKit Go.Proofs.YtojfdekiponccaaDoor.H Go.Proofs.YtojfdekiponccaaDoorW.PrintWords Go.Proofs.YtojfdekiponccaaDoorW.PrintLast Go.Proofs.YtojfdekiponccaaDoorW.PrintMore
set_option linter.unusedVariables false
set_option linter.unusedSimpArgs false
theorem tells_loop (l : List S35) (hl : l.length ≤ 60) : ∀ (d i k : Nat), i + d = l.length → d + 21 ≤ k → remontoirlaw13_LexTells.l0 k l (i : Int) = some true := by
  intro d
  induction d with
  | zero =>
    intro i k hi hk
    obtain ⟨k, rfl⟩ : ∃ m, k = m + 1 := ⟨k - 1, by omega⟩
    simp only [remontoirlaw13_LexTells.l0]
    rw [if_neg (by omega), wakes13 k (by omega)]
    rfl
  | succ d ih =>
    intro i k hi hk
    obtain ⟨k, rfl⟩ : ∃ m, k = m + 1 := ⟨k - 1, by omega⟩
    have hil : i < l.length := by omega
    simp only [remontoirlaw13_LexTells.l0]
    rw [if_pos (by omega), if_pos (by omega), rd_at l i hil, good_eq, refGood]
    unfold lex_Text.f
    simp only [Option.bind_some]
    have e1 : wrap64 ((i : Int) + 1) = ((i + 1 : Nat) : Int) := by unfold wrap64; omega
    have hn := ih (i + 1) k (by omega) (by omega)
    rw [e1]
    generalize ((i + 1 : Nat) : Int) = z at hn
    cases hb : goodB l[i].f0 l[i].f1
    · rw [refText_bad _ _ hb]
      simp [hn]
    · rw [refText_eq _ _ hb k (by omega)]
      simp [hn]
theorem LexTells (s : ByteArray) (l : List S35) (_ : s.size ≤ 140737488351232) (hm : l.length ≤ maxLen) (_ : ∀ x ∈ l, (Lit.int .i64 x.f0).wf = true ∧ (Lit.int .i64 x.f1).wf = true) : ∃ k, remontoirlaw13_LexTells.f k s l = some true := by
  refine ⟨6200, ?_⟩
  have ht : remontoirlaw13_LexTells.j0 6200 s l true = some true := by
    simp only [remontoirlaw13_LexTells.j0, if_true]
    rw [wakes13 _ (by omega)]
    rfl
  unfold remontoirlaw13_LexTells.f
  by_cases h1 : (s.size : Int) > 300
  · rw [if_pos h1]; exact ht
  · rw [if_neg h1]
    by_cases h2 : (l.length : Int) > 60
    · rw [decide_eq_true h2]; exact ht
    · rw [decide_eq_false h2]
      obtain ⟨x, e, hx, hlx, hr⟩ := refLex_eq s
      have hl : l.length ≤ 60 := by omega
      simp only [remontoirlaw13_LexTells.j0, Bool.false_eq_true, if_false]
      rw [hx, hr _ (by omega), impl_print l hl _ (by omega), ref_print l hl _ (by omega)]
      simp only [Option.bind_some, if_true]
      rw [signs_same x (by omega) _ (by omega)]
      simp only [Option.bind_some, if_true, bne_self_eq_false]
      simp only [remontoirlaw13_LexTells.j1, Bool.false_eq_true, if_false]
      exact tells_loop l hl l.length 0 _ (by omega) (by omega)
end Go.Proofs.YtojfdekiponccaaDoor.Pure
