import Derived.Test.YtojfdekiponccaaDoorHx11
import Derived.Test.YtojfdekiponccaaDoorPLexJoin
/- Two rows of signs that are one; the loop's fuel. -/
namespace Go.Proofs.YtojfdekiponccaaDoor.Pure
open Go.RowKit Go.Proofs.YtojfdekiponccaaDoor.H Go.Proofs.YtojfdekiponccaaDoorW.PrintWords Go.Proofs.YtojfdekiponccaaDoorW.PrintLast
set_option linter.unusedVariables false
set_option linter.unusedSimpArgs false
theorem signs_loop (l : List S35) (hl : l.length ≤ 4611686018427387904) : ∀ (d k : Nat) (i : Nat), i + d = l.length → d < k → remontoirkeep_Signs.l0 k l l (i : Int) = some true := by
  intro d
  induction d with
  | zero =>
    intro k i h hk
    obtain ⟨k, rfl⟩ : ∃ m, k = m + 1 := ⟨k - 1, by omega⟩
    simp only [remontoirkeep_Signs.l0]
    rw [if_neg (by omega)]
  | succ d ih =>
    intro k i h hk
    obtain ⟨k, rfl⟩ : ∃ m, k = m + 1 := ⟨k - 1, by omega⟩
    simp only [remontoirkeep_Signs.l0]
    rw [if_pos (by omega), if_pos (by omega), if_pos (by omega), if_neg (by simp)]
    have e : wrap64 ((i : Int) + 1) = ((i + 1 : Nat) : Int) := by unfold wrap64; omega
    rw [e]
    exact ih k (i + 1) (by omega) (by omega)
theorem signs_same (l : List S35) (hl : l.length ≤ 4611686018427387904) (k : Nat) (hk : l.length < k) : remontoirkeep_Signs.f k l l = some true := by
  unfold remontoirkeep_Signs.f
  rw [if_pos rfl]
  exact signs_loop l hl l.length k 0 (by omega) hk
/-- No more signs than bytes. -/
theorem lexF_len : ∀ (n : Nat) (l : List UInt8) (x y : List S35) (e : Int), l.length ≤ n → lexF l x = some (y, e) → y.length ≤ x.length + l.length := by
  intro n
  induction n with
  | zero =>
    intro l x y e h h1
    obtain rfl : l = [] := List.eq_nil_of_length_eq_zero (by omega)
    have h2 : lexF [] x = some (x, 0) := rfl
    rw [h2] at h1
    obtain ⟨rfl, -⟩ := Prod.mk.inj (Option.some.inj h1)
    omega
  | succ n ih =>
    intro l x y e h h1
    rw [lexF_eq] at h1
    have herr : ∀ c : Int, (some ([], c) : Option (List S35 × Int)) = some (y, e) → y.length ≤ x.length + l.length := fun c hc => by
      obtain ⟨rfl, -⟩ := Prod.mk.inj (Option.some.inj hc)
      simp
    cases hl : l.dropWhile (· == 32) with
    | nil =>
      rw [hl] at h1
      obtain ⟨rfl, -⟩ := Prod.mk.inj (Option.some.inj h1)
      omega
    | cons a t =>
      rw [hl] at h1
      dsimp only at h1
      have hlt : ∀ m, 0 < m → ((a :: t).drop m).length < l.length := fun m hm => drop_lt l a t m hl hm
      have go : ∀ m (v : S35), 0 < m → lexF ((a :: t).drop m) (x ++ [v]) = some (y, e) → y.length ≤ x.length + l.length := fun m v hm hh => by
        have h2 := hlt m hm
        have h3 := ih _ _ _ _ (by omega) hh
        rw [List.length_append] at h3
        simp only [List.length_cons, List.length_nil] at h3
        omega
      split at h1
      · rename_i hdg
        split at h1
        · exact herr _ h1
        · split at h1
          · exact herr _ h1
          · split at h1
            · exact herr _ h1
            · exact go _ _ (tw_pos a t hdg) h1
      · split at h1
        · exact go 1 _ (by omega) h1
        · split at h1
          · exact herr _ h1
          · rename_i hz
            have := longL_pos (a :: t) 19
            exact go _ _ (by omega) h1
theorem lexF_some : ∀ (n : Nat) (l : List UInt8) (x : List S35), l.length ≤ n → ∃ y e, lexF l x = some (y, e) := by
  intro n l x h
  rcases lex_acc n l x h with ⟨y, _, h2⟩ | ⟨e, _, _, h2⟩
  · exact ⟨_, _, h2⟩
  · exact ⟨_, _, h2⟩
end Go.Proofs.YtojfdekiponccaaDoor.Pure
