/- LexJoins: two texts with a blank between have the signs of both, an error of the first is told first, and blanks ahead and behind say nothing: for all texts of at most 56 bytes together. -/
import Derived.Test.YtojfdekiponccaaDoorHx14
import Derived.Test.YtojfdekiponccaaDoorPSigns
import Derived.Test.YtojfdekiponccaaDoorPWakes13
namespace Go.Proofs.YtojfdekiponccaaDoor.Pure
open Go.RowKit Go.Proofs.YtojfdekiponccaaDoor.H Go.Proofs.YtojfdekiponccaaDoorW.PrintWords Go.Proofs.YtojfdekiponccaaDoorW.PrintLast
set_option linter.unusedVariables false
set_option linter.unusedSimpArgs false
theorem LexJoins : remontoirlaw13_LexJoins.Pure := by
  intro a b _ _
  by_cases hs : (wrap64 ((wrap64 ((a.size : Int) + (b.size : Int))) + 4)) > 60
  · refine ⟨10, ?_⟩
    unfold remontoirlaw13_LexJoins.f
    rw [if_pos hs, wakes13 10 (by omega)]
    rfl
  · have hab : a.size + b.size ≤ 56 := by unfold wrap64 at hs; omega
    refine ⟨200, ?_⟩
    have hla : a.data.toList.length = a.size := data_len a
    have hlb : b.data.toList.length = b.size := data_len b
    have eA : lex_Lex.f a = lexF a.data.toList [] := by rw [lex_list, if_neg (by omega)]
    have eB : lex_Lex.f b = lexF b.data.toList [] := by rw [lex_list, if_neg (by omega)]
    have eZ : lex_Lex.f ((a ++ (⟨#[32]⟩ : ByteArray)) ++ b) = lexF (a.data.toList ++ 32 :: b.data.toList) [] := by
      rw [lex_list, if_neg (by simp only [ByteArray.size_append]; show ¬ a.size + 1 + b.size > 60; omega)]
      simp
    have eV : lex_Lex.f (((⟨#[32, 32]⟩ : ByteArray) ++ a) ++ (⟨#[32]⟩ : ByteArray)) = lexF (a.data.toList ++ [32]) [] := by
      rw [lex_list, if_neg (by simp only [ByteArray.size_append]; show ¬ 2 + a.size + 1 > 60; omega)]
      simp only [ByteArray.data_append, Array.toList_append]
      show lexF (32 :: 32 :: a.data.toList ++ [32]) [] = _
      simp only [List.cons_append]
      rw [lexF_blank, lexF_blank]
    have s1 : a.size + 1 ≤ 9223372036854775807 := by omega
    have s2 : (a ++ (⟨#[32]⟩ : ByteArray)).size + b.size ≤ 9223372036854775807 := by simp only [ByteArray.size_append]; show a.size + 1 + b.size ≤ _; omega
    have s3 : 2 + a.size ≤ 9223372036854775807 := by omega
    have s4 : ((⟨#[32, 32]⟩ : ByteArray) ++ a).size + 1 ≤ 9223372036854775807 := by simp only [ByteArray.size_append]; show 2 + a.size + 1 ≤ _; omega
    obtain ⟨x, e, hA⟩ := lexF_some _ a.data.toList [] (Nat.le_refl _)
    obtain ⟨y, f, hB⟩ := lexF_some _ b.data.toList [] (Nat.le_refl _)
    have lx := lexF_len _ _ _ _ _ (Nat.le_refl _) hA
    have ly := lexF_len _ _ _ _ _ (Nat.le_refl _) hB
    simp only [List.length_nil] at lx ly
    have hV : lexF (a.data.toList ++ [32]) [] = some (x, e) := by
      rcases lex_app 32 [] sep_blank _ a.data.toList [] (Nat.le_refl _) with ⟨z, h1, h2⟩ | ⟨e', he, h1, h2⟩
      · rw [hA] at h1
        obtain ⟨rfl, rfl⟩ := Prod.mk.inj (Option.some.inj h1)
        rw [h2]; rfl
      · rw [hA] at h1
        obtain ⟨rfl, rfl⟩ := Prod.mk.inj (Option.some.inj h1)
        exact h2
    have hsame := signs_same x (by omega) 200 (by omega)
    unfold remontoirlaw13_LexJoins.f
    rw [if_neg hs, eA, hA, eB, hB]
    simp only [Option.bind_some]
    rw [if_pos s1, if_pos s2, eZ]
    rcases lex_app 32 b.data.toList sep_blank _ a.data.toList [] (Nat.le_refl _) with ⟨z, h1, h2⟩ | ⟨e', he, h1, h2⟩
    · rw [hA] at h1
      obtain ⟨rfl, rfl⟩ := Prod.mk.inj (Option.some.inj h1)
      rw [h2, lexF_blank]
      rcases lex_acc _ b.data.toList x (Nat.le_refl _) with ⟨y', h3, h4⟩ | ⟨f', hf, h3, h4⟩
      · rw [hB] at h3
        obtain ⟨rfl, rfl⟩ := Prod.mk.inj (Option.some.inj h3)
        rw [h4]
        simp only [Option.bind_some]
        rw [if_pos s3, if_pos s4, eV, hV]
        simp only [Option.bind_some, if_true]
        rw [hsame]
        simp only [Option.bind_some, Bool.not_true]
        unfold remontoirlaw13_LexJoins.j0
        simp only [Bool.false_eq_true, if_false, if_true, Option.bind_some, List.nil_append, List.length_nil]
        rw [if_pos (by omega), if_pos (by omega), signs_same (x ++ y) (by simp only [List.length_append]; omega) 199 (by simp only [List.length_append]; omega)]
        simp only [Option.bind_some, if_true]
        rw [wakes13 199 (by omega)]
        rfl
      · rw [hB] at h3
        obtain ⟨rfl, rfl⟩ := Prod.mk.inj (Option.some.inj h3)
        rw [h4]
        simp only [Option.bind_some]
        rw [if_pos s3, if_pos s4, eV, hV]
        simp only [Option.bind_some, if_true]
        rw [hsame]
        simp only [Option.bind_some, Bool.not_true]
        unfold remontoirlaw13_LexJoins.j0
        simp only [Bool.false_eq_true, if_false, if_true]
        rw [if_neg hf, if_pos (by simp), wakes13 199 (by omega)]
        rfl
    · rw [hA] at h1
      obtain ⟨rfl, rfl⟩ := Prod.mk.inj (Option.some.inj h1)
      rw [h2]
      simp only [Option.bind_some]
      rw [if_pos s3, if_pos s4, eV, hV]
      simp only [Option.bind_some, if_true]
      rw [hsame]
      simp only [Option.bind_some, Bool.not_true]
      unfold remontoirlaw13_LexJoins.j0
      simp only [Bool.false_eq_true, if_false, if_true]
      rw [if_neg he, if_pos (by simp), wakes13 199 (by omega)]
      rfl
end Go.Proofs.YtojfdekiponccaaDoor.Pure
