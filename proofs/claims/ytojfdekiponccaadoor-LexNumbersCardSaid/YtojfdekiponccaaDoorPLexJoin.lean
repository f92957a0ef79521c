import Derived.Test.YtojfdekiponccaaDoorPLex
/- Signs of two texts with a byte between that no sign has: plain laws. -/
namespace Go.Proofs.YtojfdekiponccaaDoor.Pure
open Go.RowKit Go.Proofs.YtojfdekiponccaaDoor.H Go.Proofs.YtojfdekiponccaaDoorW.PrintWords Go.Proofs.YtojfdekiponccaaDoorW.PrintLast
set_option linter.unusedVariables false
set_option linter.unusedSimpArgs false

/-- No digit, and in no sign's text. -/
def Sep (c : UInt8) : Prop := dg c = false ∧ ∀ t ∈ lexT, c ∉ t.data.toList
theorem pre_app (c : UInt8) (r : List UInt8) : ∀ (t l : List UInt8), c ∉ t → t.isPrefixOf (l ++ c :: r) = t.isPrefixOf l
  | [], l, _ => by simp
  | a :: t, [], h => by
    have : (a == c) = false := by rw [beq_eq_false_iff_ne]; rintro rfl; exact h (by simp)
    simp [List.isPrefixOf, this]
  | a :: t, b :: l, h => by
    simp only [List.cons_append, List.isPrefixOf]
    rw [pre_app c r t l (fun hc => h (by simp [hc]))]
theorem lexT_mem (k : Nat) (c : UInt8) (h : ∀ t ∈ lexT, c ∉ t.data.toList) : c ∉ (lexT.getD k ⟨#[]⟩).data.toList := by
  by_cases hk : k < lexT.length
  · have e : lexT.getD k ⟨#[]⟩ = lexT[k] := by simp [List.getD, hk]
    rw [e]
    exact h _ (List.getElem_mem hk)
  · have e : lexT.getD k ⟨#[]⟩ = ⟨#[]⟩ := by rw [List.getD_eq_getElem?_getD, List.getElem?_eq_none (by omega)]; rfl
    rw [e]; simp
theorem longL_app (c : UInt8) (r l : List UInt8) (h : Sep c) : ∀ k, longL (l ++ c :: r) k = longL l k
  | 0 => rfl
  | k + 1 => by
    unfold longL
    rw [longL_app c r l h k]
    unfold Lib.hasPrefix
    rw [pre_app c r _ l (lexT_mem k c h.2)]
theorem tw_app (c : UInt8) (r : List UInt8) (h : dg c = false) : ∀ l : List UInt8, (l ++ c :: r).takeWhile dg = l.takeWhile dg
  | [] => by simp [List.takeWhile_cons, h]
  | a :: l => by
    simp only [List.cons_append, List.takeWhile_cons]
    rw [tw_app c r h l]
theorem dw_app (c : UInt8) (r : List UInt8) : ∀ l : List UInt8, (l ++ c :: r).dropWhile (· == 32) = if l.dropWhile (· == 32) = [] then (c :: r).dropWhile (· == 32) else l.dropWhile (· == 32) ++ c :: r
  | [] => by simp
  | a :: l => by
    have ih := dw_app c r l
    cases h : (a == 32)
    · simp [List.dropWhile_cons, h]
    · have e1 : (a :: l ++ c :: r).dropWhile (· == 32) = (l ++ c :: r).dropWhile (· == 32) := by simp [List.dropWhile_cons, h]
      have e2 : (a :: l).dropWhile (· == 32) = l.dropWhile (· == 32) := by simp [List.dropWhile_cons, h]
      rw [e1, e2, ih]
theorem longL_le (l : List UInt8) : ∀ k, (longL l k).2.toNat ≤ l.length
  | 0 => by simp [longL]
  | k + 1 => by
    have ih := longL_le l k
    unfold longL
    split
    · rename_i h
      have := (List.isPrefixOf_iff_prefix.1 h.2).length_le
      rw [data_len] at this
      simpa using this
    · exact ih
/-- What is read of l, then of what stands behind the separating byte. -/
theorem lex_app (c : UInt8) (r : List UInt8) (hc : Sep c) : ∀ (n : Nat) (l : List UInt8) (x : List S35), l.length ≤ n →
    (∃ y, lexF l x = some (y, 0) ∧ lexF (l ++ c :: r) x = lexF (c :: r) y) ∨ (∃ e, e ≠ 0 ∧ lexF l x = some ([], e) ∧ lexF (l ++ c :: r) x = some ([], e)) := by
  intro n
  induction n with
  | zero =>
    intro l x h
    obtain rfl : l = [] := List.eq_nil_of_length_eq_zero (by omega)
    exact Or.inl ⟨x, rfl, rfl⟩
  | succ n ih =>
    intro l x h
    rw [lexF_eq l x, lexF_eq (l ++ c :: r) x, dw_app]
    cases hl : l.dropWhile (· == 32) with
    | nil =>
      refine Or.inl ⟨x, rfl, ?_⟩
      rw [if_pos rfl, lexF_eq (c :: r) x]
    | cons a t =>
      rw [if_neg (by simp)]
      simp only [List.cons_append]
      rw [← List.cons_append, tw_app c r hc.1, longL_app c r _ hc]
      have hd : ∀ m, m ≤ (a :: t).length → ((a :: t) ++ c :: r).drop m = (a :: t).drop m ++ c :: r := fun m hm => List.drop_append_of_le_length hm
      have hlt : ∀ m, 0 < m → ((a :: t).drop m).length ≤ n := fun m hm => by have := drop_lt l a t m hl hm; omega
      split
      · rename_i hdg
        split
        · exact Or.inr ⟨2, by decide, rfl, rfl⟩
        · split
          · exact Or.inr ⟨3, by decide, rfl, rfl⟩
          · split
            · exact Or.inr ⟨3, by decide, rfl, rfl⟩
            · rw [hd _ ((List.takeWhile_sublist dg).length_le)]
              exact ih _ _ (hlt _ (tw_pos a t hdg))
      · split
        · exact ih t _ (hlt 1 (by omega))
        · split
          · exact Or.inr ⟨2, by decide, rfl, rfl⟩
          · rename_i hz
            have := longL_pos (a :: t) 19
            rw [hd _ (longL_le _ _)]
            exact ih _ _ (hlt _ (by omega))
theorem sep_blank : Sep 32 := ⟨by decide, by decide⟩
theorem lexF_blank (r : List UInt8) (x : List S35) : lexF (32 :: r) x = lexF r x := by
  rw [lexF_eq, lexF_eq r x]
  rfl
/-- The signs read before say nothing of what follows. -/
theorem lex_acc : ∀ (n : Nat) (l : List UInt8) (x : List S35), l.length ≤ n →
    (∃ y, lexF l [] = some (y, 0) ∧ lexF l x = some (x ++ y, 0)) ∨ (∃ e, e ≠ 0 ∧ lexF l [] = some ([], e) ∧ lexF l x = some ([], e)) := by
  intro n
  induction n with
  | zero =>
    intro l x h
    obtain rfl : l = [] := List.eq_nil_of_length_eq_zero (by omega)
    exact Or.inl ⟨[], rfl, by rw [List.append_nil]; rfl⟩
  | succ n ih =>
    intro l x h
    have step : ∀ (l' : List UInt8) (v : S35), l'.length ≤ n → (∃ y, lexF l' ([] ++ [v]) = some (y, 0) ∧ lexF l' (x ++ [v]) = some (x ++ y, 0)) ∨ (∃ e, e ≠ 0 ∧ lexF l' ([] ++ [v]) = some ([], e) ∧ lexF l' (x ++ [v]) = some ([], e)) := by
      intro l' v hl'
      rcases ih l' ([] ++ [v]) hl' with ⟨y, h1, h2⟩ | ⟨e, he, h1, h2⟩
      · rcases ih l' (x ++ [v]) hl' with ⟨y', h1', h2'⟩ | ⟨e, he, h1', _⟩
        · rw [h1] at h1'
          obtain ⟨rfl, -⟩ := Prod.mk.inj (Option.some.inj h1')
          exact Or.inl ⟨_, h2, by rw [h2']; simp⟩
        · rw [h1] at h1'
          exact absurd (Prod.mk.inj (Option.some.inj h1')).2.symm he
      · rcases ih l' (x ++ [v]) hl' with ⟨y', h1', h2'⟩ | ⟨e', he', h1', h2'⟩
        · rw [h1] at h1'
          exact absurd (Prod.mk.inj (Option.some.inj h1')).2 he
        · rw [h1] at h1'
          obtain ⟨-, rfl⟩ := Prod.mk.inj (Option.some.inj h1')
          exact Or.inr ⟨e, he, h2, h2'⟩
    rw [lexF_eq l [], lexF_eq l x]
    cases hl : l.dropWhile (· == 32) with
    | nil => exact Or.inl ⟨[], rfl, by rw [List.append_nil]⟩
    | cons a t =>
      dsimp only
      have hlt : ∀ m, 0 < m → ((a :: t).drop m).length ≤ n := fun m hm => by have := drop_lt l a t m hl hm; omega
      split
      · rename_i hdg
        split
        · exact Or.inr ⟨2, by decide, rfl, rfl⟩
        · split
          · exact Or.inr ⟨3, by decide, rfl, rfl⟩
          · split
            · exact Or.inr ⟨3, by decide, rfl, rfl⟩
            · exact step _ _ (hlt _ (tw_pos a t hdg))
      · split
        · exact step t _ (hlt 1 (by omega))
        · split
          · exact Or.inr ⟨2, by decide, rfl, rfl⟩
          · rename_i hz
            have := longL_pos (a :: t) 19
            exact step _ _ (hlt _ (by omega))
end Go.Proofs.YtojfdekiponccaaDoor.Pure
