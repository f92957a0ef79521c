import Derived.Test.YtojfdekiponccaaDoorHx10
import Derived.Test.YtojfdekiponccaaDoorHx7
import Derived.Test.YtojfdekiponccaaDoorPText
/- Signs' text: the document's and the program's are one. -/
namespace Go.Proofs.YtojfdekiponccaaDoor.Pure
open Go.RowKit Go.Proofs.YtojfdekiponccaaDoor.H Go.Proofs.YtojfdekiponccaaDoorW.PrintWords Go.Proofs.YtojfdekiponccaaDoorW.PrintLast Go.Proofs.YtojfdekiponccaaDoorW.PrintMore
set_option linter.unusedVariables false
set_option linter.unusedSimpArgs false
theorem rd_at (l : List S35) (i : Nat) (h : i < l.length) : rd_T35 l (i : Int) = l[i] := by
  unfold rd_T35
  rw [Int.toNat_natCast, List.getD_eq_getElem?_getD, List.getElem?_eq_getElem h]
  rfl
theorem good_take (l : List S35) (i : Nat) (h : i < l.length) (hg : goodAll (l.take i) = true) : goodAll (l.take (i + 1)) = goodB l[i].f0 l[i].f1 := by
  rw [take_snoc l i h]
  unfold goodAll at hg ⊢
  rw [List.all_append, hg]
  simp
theorem good_all_false (l : List S35) (i : Nat) (h : i < l.length) (hb : goodB l[i].f0 l[i].f1 = false) : goodAll l = false := by
  unfold goodAll
  rw [List.all_eq_false]
  exact ⟨l[i], List.getElem_mem h, by simp [hb]⟩
theorem impl_loop (l : List S35) (hl : l.length ≤ 60) : ∀ (d i k : Nat), i + d = l.length → d < k → goodAll (l.take i) = true →
    lex_Print.l0 k ((l.take i).map fun s => lex_Text.t s.f0 s.f1) l (l.length : Int) (i : Int) = some (prS l) := by
  intro d
  induction d with
  | zero =>
    intro i k hi hk hg
    obtain ⟨k, rfl⟩ : ∃ m, k = m + 1 := ⟨k - 1, by omega⟩
    simp only [lex_Print.l0]
    rw [if_neg (by omega)]
    have hti : l.take i = l := List.take_of_length_le (by omega)
    rw [hti] at hg ⊢
    have hj : Lib.join ((l.map fun s => lex_Text.t s.f0 s.f1).map (·.data.toList)) (⟨#[32]⟩ : ByteArray).data.toList = prL l := by
      unfold prL txts
      rw [List.map_map]
      rfl
    have hlen := prL_len l l.length (Nat.le_refl _)
    rw [List.take_length] at hlen
    unfold strings_Join.f
    rw [hj, if_pos ⟨by omega, by rw [List.length_map]; omega⟩]
    unfold prS
    rw [if_pos hg]
    rfl
  | succ d ih =>
    intro i k hi hk hg
    obtain ⟨k, rfl⟩ : ∃ m, k = m + 1 := ⟨k - 1, by omega⟩
    have hil : i < l.length := by omega
    simp only [lex_Print.l0]
    rw [if_pos (by omega), if_pos (by omega), if_pos (by omega), rd_at l i hil]
    unfold lex_Text.f
    simp only [Option.bind_some]
    cases hb : goodB l[i].f0 l[i].f1
    · simp only [Bool.false_eq_true, if_false]
      unfold prS
      rw [good_all_false l i hil hb]
      rfl
    · simp only [if_true]
      rw [if_pos (by rw [List.length_map, List.length_take]; omega)]
      have e1 : wrap64 ((i : Int) + 1) = ((i + 1 : Nat) : Int) := by unfold wrap64; omega
      rw [e1]
      have := ih (i + 1) k (by omega) (by omega) (by rw [good_take l i hil hg]; exact hb)
      rw [take_snoc l i hil, List.map_append] at this
      exact this
theorem impl_print (l : List S35) (hl : l.length ≤ 60) (k : Nat) (hk : 61 ≤ k) : lex_Print.f k l = some (prS l) := by
  unfold lex_Print.f
  exact impl_loop l hl l.length 0 k (by omega) (by omega) rfl
theorem ref_loop (l : List S35) (hl : l.length ≤ 60) : ∀ (d i k : Nat), i + d = l.length → d + 21 ≤ k → goodAll (l.take i) = true →
    remontoirref13_Print.l0 k l ⟨(prL (l.take i)).toArray⟩ (i : Int) = some (prS l) := by
  intro d
  induction d with
  | zero =>
    intro i k hi hk hg
    obtain ⟨k, rfl⟩ : ∃ m, k = m + 1 := ⟨k - 1, by omega⟩
    simp only [remontoirref13_Print.l0]
    rw [if_neg (by omega)]
    have hti : l.take i = l := List.take_of_length_le (by omega)
    rw [hti] at hg ⊢
    unfold prS
    rw [if_pos hg]
  | succ d ih =>
    intro i k hi hk hg
    obtain ⟨k, rfl⟩ : ∃ m, k = m + 1 := ⟨k - 1, by omega⟩
    have hil : i < l.length := by omega
    simp only [remontoirref13_Print.l0]
    rw [if_pos (by omega), if_pos (by omega), rd_at l i hil, refGood]
    simp only [Option.bind_some]
    cases hb : goodB l[i].f0 l[i].f1
    · simp only [Bool.false_eq_true, if_false]
      unfold prS
      rw [good_all_false l i hil hb]
      rfl
    · simp only [if_true]
      have e1 : wrap64 ((i : Int) + 1) = ((i + 1 : Nat) : Int) := by unfold wrap64; omega
      have hn := ih (i + 1) k (by omega) (by omega) (by rw [good_take l i hil hg]; exact hb)
      rw [take_snoc l i hil, prL_snoc] at hn
      have ht := text_size l[i].f0 l[i].f1
      have hp := prL_len l i (by omega)
      rw [refText_eq _ _ hb k (by omega), e1]
      simp only [Option.bind_some]
      have hs0 : (⟨(prL (l.take i)).toArray⟩ : ByteArray).size = (prL (l.take i)).length := by rw [← data_len]
      have h32 : (⟨#[32]⟩ : ByteArray).size = 1 := rfl
      by_cases h0 : i = 0
      · subst h0
        rw [if_neg (by omega), if_pos (by rw [hs0]; omega)]
        rw [if_pos (by simp)] at hn
        refine Eq.trans (congrArg (fun z => remontoirref13_Print.l0 k l z ((0 + 1 : Nat) : Int)) ?_) hn
        apply ByteArray.ext
        apply Array.toList_inj.1
        simp [prL, txts, Lib.join, List.intercalate]
      · rw [if_pos (by omega), if_pos (by rw [hs0]; omega), if_pos (by rw [ByteArray.size_append, hs0, h32]; omega)]
        rw [if_neg (by
          intro h
          have h9 : (l.take i).length = 0 := by rw [h]; rfl
          rw [List.length_take] at h9
          omega)] at hn
        refine Eq.trans (congrArg (fun z => remontoirref13_Print.l0 k l z ((i + 1 : Nat) : Int)) ?_) hn
        apply ByteArray.ext
        apply Array.toList_inj.1
        simp
theorem ref_print (l : List S35) (hl : l.length ≤ 60) (k : Nat) (hk : 90 ≤ k) : remontoirref13_Print.f k l = some (prS l) := by
  unfold remontoirref13_Print.f
  have := ref_loop l hl l.length 0 k (by omega) (by omega) rfl
  rw [← this]
  rfl
end Go.Proofs.YtojfdekiponccaaDoor.Pure
