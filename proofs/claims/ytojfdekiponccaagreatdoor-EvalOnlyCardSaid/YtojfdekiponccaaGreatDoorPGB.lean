import Derived.Test.YtojfdekiponccaaGreatDoorPG
/- What stands behind a guard does not touch it; what lies there before, neither. -/
namespace Go.Proofs.YtojfdekiponccaaGreatDoor.Pure
open Go.Proofs.YtojfdekiponccaaGreatDoor.H
set_option linter.unusedVariables false
set_option linter.unusedSimpArgs false
theorem rowL_nil (th : ST → Rz) (ks : List Int) (k : Nat) (o : List S46) (r : Option ST) (h : rowL th ks k ([], o) = some r) : r = some ([], o) := by
  cases k with
  | zero => cases h
  | succ k => exact (Option.some.inj h).symm
theorem rowL_cons {th : ST → Rz} {ks : List Int} {k : Nat} {a : S46} {l o : List S46} {r : Option ST} (h : rowL th ks (k + 1) (a :: l, o) = some r) :
    (ks.contains a.f0 = false ∧ r = some (a :: l, o)) ∨ (ks.contains a.f0 = true ∧ ((th (l, o) = some none ∧ r = none) ∨ ∃ l1 o1, th (l, o) = some (some (l1, o1)) ∧ rowL th ks k (l1, o1 ++ [(⟨a.f0, 0⟩ : S46)]) = some r)) := by
  simp only [rowL] at h
  split at h
  · rename_i hc
    refine .inr ⟨hc, ?_⟩
    rcases bnd_some h with ⟨h1, rfl⟩ | ⟨s, h1, h2⟩
    · exact .inl ⟨h1, rfl⟩
    · obtain ⟨l1, o1⟩ := s
      exact .inr ⟨l1, o1, h1, h2⟩
  · rename_i hc
    exact .inl ⟨by simpa using hc, (Option.some.inj h).symm⟩
theorem rowL_go {th : ST → Rz} {ks : List Int} {k : Nat} {a : S46} {l o : List S46} (hc : ks.contains a.f0 = true) {l1 o1 : List S46} (h : th (l, o) = some (some (l1, o1))) : rowL th ks (k + 1) (a :: l, o) = rowL th ks k (l1, o1 ++ [(⟨a.f0, 0⟩ : S46)]) := by
  simp only [rowL]
  rw [if_pos hc, bnd_mk h]
  rfl
theorem rowL_stop {th : ST → Rz} {ks : List Int} {k : Nat} {a : S46} {l o : List S46} (hc : ks.contains a.f0 = false) : rowL th ks (k + 1) (a :: l, o) = some (some (a :: l, o)) := by
  simp only [rowL]
  rw [if_neg (by rw [hc]; decide)]
theorem rowF_some {th : ST → Rz} {ks : List Int} {k : Nat} {st : ST} {r : Option ST} (h : rowF th ks k st = some r) : (th st = some none ∧ r = none) ∨ ∃ l1 o1, th st = some (some (l1, o1)) ∧ rowL th ks k (l1, o1) = some r := by
  rcases bnd_some h with ⟨h1, rfl⟩ | ⟨s, h1, h2⟩
  · exact .inl ⟨h1, rfl⟩
  · obtain ⟨l1, o1⟩ := s
    exact .inr ⟨l1, o1, h1, h2⟩
theorem rowF_mk {th : ST → Rz} {ks : List Int} {k : Nat} {st : ST} {l1 o1 : List S46} (h : th st = some (some (l1, o1))) : rowF th ks k st = rowL th ks k (l1, o1) := bnd_mk h
theorem nosucc : ∀ (k lev : Nat) (o : List S46) (s : ST), PF k lev ([], o) ≠ some (some s)
  | 0, _, _, _, h => by cases h
  | k + 1, lev, o, s, h => by
    rw [PF_succ] at h
    have row : ∀ lev2 ks, rowF (PF k lev2) ks k ([], o) = some (some s) → False := fun lev2 ks h => by
      rcases rowF_some h with ⟨_, h2⟩ | ⟨l1, o1, h1, _⟩
      · cases h2
      · exact nosucc k lev2 o _ h1
    unfold stepF at h
    split at h
    · exact row _ _ h
    · split at h
      · exact row _ _ h
      · split at h
        · rw [if_neg (show ¬ (seesF 14 ([], o) = true) from Bool.false_ne_true), if_neg (show ¬ (seesF 15 ([], o) = true) from Bool.false_ne_true)] at h
          rcases bnd_some h with ⟨_, h2⟩ | ⟨s1, h1, _⟩
          · cases h2
          · exact nosucc k 3 o _ h1
        · split at h
          · exact row _ _ h
          · split at h
            · exact row _ _ h
            · cases h
theorem ext_row {th : ST → Rz} {ks : List Int} {c : S46} {r : List S46} (P : Prop) (hP : P → ks.contains c.f0 = false)
    (hth : ∀ l o l' o', th (l, o) = some (some (l', o')) → (l' = [] → P) → th (l ++ c :: r, o) = some (some (l' ++ c :: r, o'))) :
    ∀ (k : Nat) (l o l' o' : List S46), rowL th ks k (l, o) = some (some (l', o')) → (l' = [] → P) → rowL th ks k (l ++ c :: r, o) = some (some (l' ++ c :: r, o'))
  | 0, _, _, _, _, h, _ => by cases h
  | k + 1, [], o, l', o', h, hp => by
    have := rowL_nil _ _ _ _ _ h
    obtain ⟨rfl, rfl⟩ := Prod.mk.inj (Option.some.inj this)
    exact rowL_stop (hP (hp rfl))
  | k + 1, a :: l, o, l', o', h, hp => by
    rcases rowL_cons h with ⟨hc, h1⟩ | ⟨hc, ⟨_, h1⟩ | ⟨l1, o1, h1, h2⟩⟩
    · obtain ⟨rfl, rfl⟩ := Prod.mk.inj (Option.some.inj h1)
      exact rowL_stop hc
    · cases h1
    · have hp1 : l1 = [] → P := by
        rintro rfl
        have := rowL_nil _ _ _ _ _ h2
        exact hp (Prod.mk.inj (Option.some.inj this)).1
      have h3 := hth _ _ _ _ h1 hp1
      show rowL th ks (k + 1) (a :: (l ++ c :: r), o) = _
      rw [rowL_go hc h3]
      exact ext_row P hP hth k l1 _ l' o' h2 hp
def OKc (lev : Nat) (x : Int) : Prop := (lev ≤ 0 → x ≠ 13) ∧ (lev ≤ 1 → x ≠ 12) ∧ (lev ≤ 3 → x ≠ 3 ∧ x ≠ 4) ∧ (lev ≤ 4 → x ≠ 5)
theorem OKc.up {lev lev2 : Nat} {x : Int} (h : OKc lev x) (hl : lev ≤ lev2) : OKc lev2 x := ⟨fun q => h.1 (by omega), fun q => h.2.1 (by omega), fun q => h.2.2.1 (by omega), fun q => h.2.2.2 (by omega)⟩
theorem seesF_app (kind : Int) (l t o : List S46) (h : l ≠ []) : seesF kind (l ++ t, o) = seesF kind (l, o) := by
  cases l with
  | nil => exact absurd rfl h
  | cons a l => rfl
theorem ext (c : S46) (r : List S46) : ∀ (k lev : Nat) (l o l' o' : List S46), PF k lev (l, o) = some (some (l', o')) → (l' = [] → OKc lev c.f0) → PF k lev (l ++ c :: r, o) = some (some (l' ++ c :: r, o'))
  | 0, _, _, _, _, _, h, _ => by cases h
  | k + 1, lev, l, o, l', o', h, hp => by
    have hne : l ≠ [] := by rintro rfl; exact nosucc _ _ _ _ h
    have row : ∀ lev2 ks, lev < lev2 → (OKc lev c.f0 → ks.contains c.f0 = false) → rowF (PF k lev2) ks k (l, o) = some (some (l', o')) → rowF (PF k lev2) ks k (l ++ c :: r, o) = some (some (l' ++ c :: r, o')) := by
      intro lev2 ks hl hks h
      rcases rowF_some h with ⟨_, h2⟩ | ⟨l1, o1, h1, h2⟩
      · cases h2
      · have hp1 : l1 = [] → OKc lev c.f0 := by
          rintro rfl
          have := rowL_nil _ _ _ _ _ h2
          exact hp (Prod.mk.inj (Option.some.inj this)).1
        have hth : ∀ l o l' o', PF k lev2 (l, o) = some (some (l', o')) → (l' = [] → OKc lev c.f0) → PF k lev2 (l ++ c :: r, o) = some (some (l' ++ c :: r, o')) :=
          fun l o l' o' q1 q2 => ext c r k lev2 l o l' o' q1 (fun e => (q2 e).up (by omega))
        rw [rowF_mk (hth _ _ _ _ h1 hp1)]
        exact ext_row (OKc lev c.f0) hks hth k l1 o1 l' o' h2 hp
    have htl : ∀ t : List S46, l.tail ++ t = (l ++ t).tail := fun t => by cases l with
      | nil => exact absurd rfl hne
      | cons a l => rfl
    rw [PF_succ] at h ⊢
    unfold stepF at h ⊢
    by_cases c0 : lev = 0
    · subst c0
      rw [if_pos rfl] at h ⊢
      exact row 1 [13] (by omega) (fun q => by have := q.1 (by omega); simp; omega) h
    · rw [if_neg c0] at h ⊢
      by_cases c1 : lev = 1
      · subst c1
        rw [if_pos rfl] at h ⊢
        exact row 2 [12] (by omega) (fun q => by have := q.2.1 (by omega); simp; omega) h
      · rw [if_neg c1] at h ⊢
        by_cases c2 : lev = 2
        · subst c2
          rw [if_pos rfl] at h ⊢
          rw [seesF_app 14 _ _ _ hne, seesF_app 15 _ _ _ hne]
          dsimp only at h ⊢
          rw [← htl]
          split at h
          · rename_i q
            rw [if_pos q]
            rcases bnd_some h with ⟨_, h2⟩ | ⟨⟨l1, o1⟩, h1, h2⟩
            · cases h2
            · obtain ⟨rfl, rfl⟩ := Prod.mk.inj (Option.some.inj (Option.some.inj h2))
              rw [bnd_mk (ext c r k 2 _ _ _ _ h1 hp)]
              rfl
          · rename_i q
            rw [if_neg q]
            split at h
            · rename_i q
              rw [if_pos q]
              rcases bnd_some h with ⟨_, h2⟩ | ⟨⟨l1, o1⟩, h1, h2⟩
              · cases h2
              · unfold takeF at h2
                split at h2
                · rename_i q2
                  have hne1 : l1 ≠ [] := by rintro rfl; cases q2
                  obtain ⟨rfl, rfl⟩ := Prod.mk.inj (Option.some.inj (Option.some.inj h2))
                  rw [bnd_mk (ext c r k 0 _ _ _ _ h1 (fun e => absurd e hne1))]
                  unfold takeF
                  rw [seesF_app _ _ _ _ hne1, if_pos q2]
                  cases l1 with
                  | nil => exact absurd rfl hne1
                  | cons a l1 => rfl
                · cases h2
            · rename_i q
              rw [if_neg q]
              rcases bnd_some h with ⟨_, h2⟩ | ⟨⟨l1, o1⟩, h1, h2⟩
              · cases h2
              · cases l1 with
                | nil => cases h2
                | cons a l1 =>
                  dsimp only at h2
                  rw [bnd_mk (ext c r k 3 _ _ _ _ h1 (fun e => by cases e))]
                  show (if decide (6 ≤ a.f0 ∧ a.f0 ≤ 11) = true then bnd (PF k 3 (l1 ++ c :: r, o1)) (putF a.f0) else some none) = _
                  split at h2
                  · rename_i q
                    rw [if_pos q]
                    rcases bnd_some h2 with ⟨_, h3⟩ | ⟨⟨l2, o2⟩, h3, h4⟩
                    · cases h3
                    · obtain ⟨rfl, rfl⟩ := Prod.mk.inj (Option.some.inj (Option.some.inj h4))
                      rw [bnd_mk (ext c r k 3 _ _ _ _ h3 (fun e => (hp e).up (by omega)))]
                      rfl
                  · cases h2
        · rw [if_neg c2] at h ⊢
          by_cases c3 : lev = 3
          · subst c3
            rw [if_pos rfl] at h ⊢
            exact row 4 [3, 4] (by omega) (fun q => by have := q.2.2.1 (by omega); simp; omega) h
          · rw [if_neg c3] at h ⊢
            by_cases c4 : lev = 4
            · subst c4
              rw [if_pos rfl] at h ⊢
              exact row 5 [5] (by omega) (fun q => by have := q.2.2.2 (by omega); simp; omega) h
            · rw [if_neg c4] at h ⊢
              cases l with
              | nil => exact absurd rfl hne
              | cons a l =>
                dsimp only [List.cons_append] at h ⊢
                split at h
                · rename_i q
                  rw [if_pos q]
                  obtain ⟨rfl, rfl⟩ := Prod.mk.inj (Option.some.inj (Option.some.inj h))
                  rfl
                · rename_i q
                  rw [if_neg q]
                  split at h
                  · rename_i q
                    rw [if_pos q]
                    rcases bnd_some h with ⟨_, h2⟩ | ⟨⟨l1, o1⟩, h1, h2⟩
                    · cases h2
                    · obtain ⟨rfl, rfl⟩ := Prod.mk.inj (Option.some.inj (Option.some.inj h2))
                      rw [bnd_mk (ext c r k 5 _ _ _ _ h1 (fun e => ⟨fun q => by omega, fun q => by omega, fun q => by omega, fun q => by omega⟩))]
                      rfl
                  · rename_i q
                    rw [if_neg q]
                    split at h
                    · rename_i q
                      rw [if_pos q]
                      rcases bnd_some h with ⟨_, h2⟩ | ⟨⟨l1, o1⟩, h1, h2⟩
                      · cases h2
                      · unfold takeF at h2
                        split at h2
                        · rename_i q2
                          have hne1 : l1 ≠ [] := by rintro rfl; cases q2
                          obtain ⟨rfl, rfl⟩ := Prod.mk.inj (Option.some.inj (Option.some.inj h2))
                          rw [bnd_mk (ext c r k 3 _ _ _ _ h1 (fun e => absurd e hne1))]
                          unfold takeF
                          rw [seesF_app _ _ _ _ hne1, if_pos q2]
                          cases l1 with
                          | nil => exact absurd rfl hne1
                          | cons a l1 => rfl
                        · cases h2
                    · cases h
/-- A row goes on where it ended, if a sign of its own follows. -/
theorem cont_row {th : ST → Rz} {ks : List Int} {c : S46} {r : List S46}
    (hth : ∀ l o l' o', th (l, o) = some (some (l', o')) → th (l ++ c :: r, o) = some (some (l' ++ c :: r, o'))) :
    ∀ (k : Nat) (l o o' : List S46), rowL th ks k (l, o) = some (some ([], o')) → ∀ (k2 : Nat) (res : Option ST), rowL th ks k2 (c :: r, o') = some res → rowL th ks (k + k2) (l ++ c :: r, o) = some res
  | 0, _, _, _, h, _, _, _ => by cases h
  | k + 1, [], o, o', h, k2, res, h2 => by
    have := rowL_nil _ _ _ _ _ h
    obtain ⟨-, rfl⟩ := Prod.mk.inj (Option.some.inj this)
    exact rowL_mono th th ks (fun _ _ q => q) k2 (k + 1 + k2) _ _ (by omega) h2
  | k + 1, a :: l, o, o', h, k2, res, h2 => by
    rcases rowL_cons h with ⟨hc, h1⟩ | ⟨hc, ⟨_, h1⟩ | ⟨l1, o1, h1, h3⟩⟩
    · cases (Prod.mk.inj (Option.some.inj h1)).1
    · cases h1
    · have e : k + 1 + k2 = (k + k2) + 1 := by omega
      rw [e]
      show rowL th ks ((k + k2) + 1) (a :: (l ++ c :: r), o) = _
      rw [rowL_go hc (hth _ _ _ _ h1)]
      exact cont_row hth k l1 _ o' h3 k2 res h2
/-- What lies there before stays ahead. -/
def ahead (p : List S46) (r : Option ST) : Option ST := r.map fun s => (s.1, p ++ s.2)
theorem acc_row {th : ST → Rz} {ks : List Int} (p : List S46) (hth : ∀ l o r, th (l, o) = some r → th (l, p ++ o) = some (ahead p r)) :
    ∀ (k : Nat) (l o : List S46) (r : Option ST), rowL th ks k (l, o) = some r → rowL th ks k (l, p ++ o) = some (ahead p r)
  | 0, _, _, _, h => by cases h
  | k + 1, [], o, r, h => by
    obtain rfl := rowL_nil _ _ _ _ _ h
    rfl
  | k + 1, a :: l, o, r, h => by
    rcases rowL_cons h with ⟨hc, rfl⟩ | ⟨hc, ⟨h0, rfl⟩ | ⟨l1, o1, h1, h2⟩⟩
    · exact rowL_stop hc
    · simp only [rowL]
      rw [if_pos hc, bnd_mk_none (hth _ _ _ h0)]
      rfl
    · rw [rowL_go hc (hth _ _ _ h1), List.append_assoc]
      exact acc_row p hth k l1 _ r h2
theorem acc (p : List S46) : ∀ (k lev : Nat) (l o : List S46) (r : Option ST), PF k lev (l, o) = some r → PF k lev (l, p ++ o) = some (ahead p r)
  | 0, _, _, _, _, h => by cases h
  | k + 1, lev, l, o, r, h => by
    have ih := acc p k
    have row : ∀ lev2 ks, rowF (PF k lev2) ks k (l, o) = some r → rowF (PF k lev2) ks k (l, p ++ o) = some (ahead p r) := by
      intro lev2 ks h
      rcases rowF_some h with ⟨h1, rfl⟩ | ⟨l1, o1, h1, h2⟩
      · exact bnd_mk_none (ih _ _ _ _ h1)
      · rw [rowF_mk (ih _ _ _ _ h1)]
        exact acc_row p (fun l o r q => ih lev2 l o r q) k l1 o1 r h2
    have put : ∀ lev2 l kind, bnd (PF k lev2 (l, o)) (putF kind) = some r → bnd (PF k lev2 (l, p ++ o)) (putF kind) = some (ahead p r) := by
      intro lev2 l kind h
      rcases bnd_some h with ⟨h1, rfl⟩ | ⟨⟨l1, o1⟩, h1, h2⟩
      · exact bnd_mk_none (ih _ _ _ _ h1)
      · rw [bnd_mk (ih _ _ _ _ h1)]
        obtain rfl := Option.some.inj h2
        show some (some (l1, (p ++ o1) ++ [_])) = _
        rw [List.append_assoc]
        rfl
    have take : ∀ lev2 l kind, bnd (PF k lev2 (l, o)) (takeF kind) = some r → bnd (PF k lev2 (l, p ++ o)) (takeF kind) = some (ahead p r) := by
      intro lev2 l kind h
      rcases bnd_some h with ⟨h1, rfl⟩ | ⟨⟨l1, o1⟩, h1, h2⟩
      · exact bnd_mk_none (ih _ _ _ _ h1)
      · rw [bnd_mk (ih _ _ _ _ h1)]
        unfold takeF at h2
        show takeF kind (l1, p ++ o1) = _
        unfold takeF
        split at h2
        · rename_i q
          rw [if_pos (show seesF kind (l1, p ++ o1) = true from q)]
          obtain rfl := Option.some.inj h2
          rfl
        · rename_i q
          rw [if_neg (show ¬ seesF kind (l1, p ++ o1) = true from q)]
          obtain rfl := Option.some.inj h2
          rfl
    have hs : ∀ kind, seesF kind (l, p ++ o) = seesF kind (l, o) := fun _ => rfl
    rw [PF_succ] at h ⊢
    unfold stepF at h ⊢
    split at h
    · rename_i q; rw [if_pos q]; exact row _ _ h
    · rename_i q; rw [if_neg q]
      split at h
      · rename_i q; rw [if_pos q]; exact row _ _ h
      · rename_i q; rw [if_neg q]
        split at h
        · rename_i q; rw [if_pos q, hs, hs]
          split at h
          · rename_i q; rw [if_pos q]; exact put _ _ _ h
          · rename_i q; rw [if_neg q]
            split at h
            · rename_i q; rw [if_pos q]; exact take _ _ _ h
            · rename_i q; rw [if_neg q]
              rcases bnd_some h with ⟨h1, rfl⟩ | ⟨⟨l1, o1⟩, h1, h2⟩
              · exact bnd_mk_none (ih _ _ _ _ h1)
              · rw [bnd_mk (ih _ _ _ _ h1)]
                cases l1 with
                | nil => obtain rfl := Option.some.inj h2; rfl
                | cons a l1 =>
                  dsimp only at h2
                  show (if decide (6 ≤ a.f0 ∧ a.f0 ≤ 11) = true then bnd (PF k 3 (l1, p ++ o1)) (putF a.f0) else some none) = _
                  split at h2
                  · rename_i q
                    rw [if_pos q]
                    rcases bnd_some h2 with ⟨h3, rfl⟩ | ⟨⟨l2, o2⟩, h3, h4⟩
                    · exact bnd_mk_none (ih _ _ _ _ h3)
                    · rw [bnd_mk (ih _ _ _ _ h3)]
                      obtain rfl := Option.some.inj h4
                      show some (some (l2, (p ++ o2) ++ [_])) = _
                      rw [List.append_assoc]
                      rfl
                  · rename_i q
                    rw [if_neg q]
                    obtain rfl := Option.some.inj h2
                    rfl
        · rename_i q; rw [if_neg q]
          split at h
          · rename_i q; rw [if_pos q]; exact row _ _ h
          · rename_i q; rw [if_neg q]
            split at h
            · rename_i q; rw [if_pos q]; exact row _ _ h
            · rename_i q; rw [if_neg q]
              cases l with
              | nil => obtain rfl := Option.some.inj h; rfl
              | cons a l =>
                dsimp only at h ⊢
                split at h
                · rename_i q
                  rw [if_pos q]
                  obtain rfl := Option.some.inj h
                  show some (some (l, (p ++ o) ++ [a])) = _
                  rw [List.append_assoc]
                  rfl
                · rename_i q
                  rw [if_neg q]
                  split at h
                  · rename_i q; rw [if_pos q]; exact put _ _ _ h
                  · rename_i q
                    rw [if_neg q]
                    split at h
                    · rename_i q; rw [if_pos q]; exact take _ _ _ h
                    · rename_i q
                      rw [if_neg q]
                      obtain rfl := Option.some.inj h
                      rfl
end Go.Proofs.YtojfdekiponccaaGreatDoor.Pure
/- Guards in brackets, turned, joined. -/
namespace Go.Proofs.YtojfdekiponccaaGreatDoor.Pure
open Go.Proofs.YtojfdekiponccaaGreatDoor.H
set_option linter.unusedVariables false
set_option linter.unusedSimpArgs false
/-- The signs are a guard, and this is how it lies behind. -/
def Guard (x o : List S46) : Prop := ∃ k, PF k 0 (x, []) = some (some ([], o))
theorem ok16 (lev : Nat) : OKc lev 16 := ⟨fun _ => by decide, fun _ => by decide, fun _ => by decide, fun _ => by decide⟩
theorem PF_at {k lev : Nat} {st : ST} {r : Option ST} (h : PF k lev st = some r) : ∃ K, ∀ k', K ≤ k' → PF k' lev st = some r := ⟨k, fun _ hk => PF_mono hk h⟩
/-- In brackets. -/
theorem br {x o : List S46} (h : Guard x o) (t p : List S46) (n m : Int) : ∃ k, PF k 2 ((⟨15, n⟩ : S46) :: (x ++ (⟨16, m⟩ : S46) :: t), p) = some (some (t, p ++ o)) := by
  obtain ⟨k, hk⟩ := h
  have h1 := ext (⟨16, m⟩ : S46) t k 0 x [] [] o hk (fun _ => ok16 0)
  have h2 := acc p k 0 _ [] _ h1
  rw [List.append_nil] at h2
  refine ⟨k + 1, ?_⟩
  rw [PF_succ, step2, if_neg (show ¬ (seesF 14 _ = true) by show ¬ (((15 : Int) == 14) = true); decide), if_pos (show seesF 15 _ = true by show ((15 : Int) == 15) = true; decide)]
  show bnd (PF k 0 (x ++ (⟨16, m⟩ : S46) :: t, p)) (takeF 16) = _
  rw [bnd_mk h2]
  show takeF 16 ((⟨16, m⟩ : S46) :: t, p ++ o) = _
  unfold takeF
  rw [if_pos (show seesF 16 _ = true by show ((16 : Int) == 16) = true; decide)]
  rfl
/-- With ! ahead. -/
theorem nt {l p t q : List S46} (n : Int) (h : ∃ k, PF k 2 (l, p) = some (some (t, q))) : ∃ k, PF k 2 ((⟨14, n⟩ : S46) :: l, p) = some (some (t, q ++ [(⟨14, 0⟩ : S46)])) := by
  obtain ⟨k, hk⟩ := h
  refine ⟨k + 1, ?_⟩
  rw [PF_succ, step2, if_pos (show seesF 14 _ = true by show ((14 : Int) == 14) = true; decide)]
  show bnd (PF k 2 (l, p)) (putF 14) = _
  rw [bnd_mk hk]
  rfl
/-- One level up, at the end. -/
theorem up_end {lev lev2 : Nat} {ks : List Int} (hs : ∀ k st, PF (k + 1) lev st = rowF (PF k lev2) ks k st) {l p q : List S46} (h : ∃ k, PF k lev2 (l, p) = some (some ([], q))) : ∃ k, PF k lev (l, p) = some (some ([], q)) := by
  obtain ⟨k, hk⟩ := h
  refine ⟨k + 2, ?_⟩
  rw [hs, rowF_mk (PF_mono (by omega) hk)]
  rfl
/-- One level up, ahead of a sign that is none of the row's. -/
theorem up_stop {lev lev2 : Nat} {ks : List Int} (hs : ∀ k st, PF (k + 1) lev st = rowF (PF k lev2) ks k st) {l p q t : List S46} {c : S46} (hc : ks.contains c.f0 = false) (h : ∃ k, PF k lev2 (l, p) = some (some (c :: t, q))) : ∃ k, PF k lev (l, p) = some (some (c :: t, q)) := by
  obtain ⟨k, hk⟩ := h
  refine ⟨k + 2, ?_⟩
  rw [hs, rowF_mk (PF_mono (by omega) hk), rowL_stop hc]
/-- One level up, over one sign of the row's. -/
theorem up_join {lev lev2 : Nat} {ks : List Int} (hs : ∀ k st, PF (k + 1) lev st = rowF (PF k lev2) ks k st) {l p q t u : List S46} {c : S46} (hc : ks.contains c.f0 = true) (h : ∃ k, PF k lev2 (l, p) = some (some (c :: t, q))) (h2 : ∃ k, PF k lev2 (t, q) = some (some ([], u))) :
    ∃ k, PF k lev (l, p) = some (some ([], u ++ [(⟨c.f0, 0⟩ : S46)])) := by
  obtain ⟨k, hk⟩ := h
  obtain ⟨k2, hk2⟩ := h2
  refine ⟨k + k2 + 2 + 1, ?_⟩
  rw [hs, rowF_mk (PF_mono (by omega) hk), rowL_go hc (PF_mono (by omega) hk2)]
  rfl
theorem guard_of {l p q : List S46} (h : ∃ k, PF k 2 (l, p) = some (some ([], q))) : ∃ k, PF k 0 (l, p) = some (some ([], q)) :=
  up_end (lev := 0) (lev2 := 1) (ks := [13]) (fun _ _ => rfl) (up_end (lev := 1) (lev2 := 2) (ks := [12]) (fun _ _ => rfl) h)
theorem guard_br {x o : List S46} (h : Guard x o) (n m : Int) : Guard ((⟨15, n⟩ : S46) :: (x ++ [(⟨16, m⟩ : S46)])) o := by
  have := guard_of (br h [] [] n m)
  exact this
theorem guard_not {x o : List S46} (h : Guard x o) (j n m : Int) : Guard ((⟨14, j⟩ : S46) :: (⟨15, n⟩ : S46) :: (x ++ [(⟨16, m⟩ : S46)])) (o ++ [(⟨14, 0⟩ : S46)]) := by
  have := guard_of (nt j (br h [] [] n m))
  exact this
theorem guard_both {x o y u : List S46} (h : Guard x o) (h2 : Guard y u) (n m i n2 m2 : Int) :
    Guard ((⟨15, n⟩ : S46) :: (x ++ (⟨16, m⟩ : S46) :: (⟨12, i⟩ : S46) :: (⟨15, n2⟩ : S46) :: (y ++ [(⟨16, m2⟩ : S46)]))) (o ++ u ++ [(⟨12, 0⟩ : S46)]) := by
  have h3 := br h ((⟨12, i⟩ : S46) :: (⟨15, n2⟩ : S46) :: (y ++ [(⟨16, m2⟩ : S46)])) [] n m
  have h4 := br h2 [] ([] ++ o) n2 m2
  have h5 := up_join (lev := 1) (lev2 := 2) (ks := [12]) (fun _ _ => rfl) (c := (⟨12, i⟩ : S46)) (by simp) h3 h4
  exact up_end (lev := 0) (lev2 := 1) (ks := [13]) (fun _ _ => rfl) h5
theorem guard_any {x o y u : List S46} (h : Guard x o) (h2 : Guard y u) (n m i n2 m2 : Int) :
    Guard ((⟨15, n⟩ : S46) :: (x ++ (⟨16, m⟩ : S46) :: (⟨13, i⟩ : S46) :: (⟨15, n2⟩ : S46) :: (y ++ [(⟨16, m2⟩ : S46)]))) (o ++ u ++ [(⟨13, 0⟩ : S46)]) := by
  have h3 := up_stop (lev := 1) (lev2 := 2) (ks := [12]) (fun _ _ => rfl) (c := (⟨13, i⟩ : S46)) (by simp) (br h ((⟨13, i⟩ : S46) :: (⟨15, n2⟩ : S46) :: (y ++ [(⟨16, m2⟩ : S46)])) [] n m)
  have h4 := up_end (lev := 1) (lev2 := 2) (ks := [12]) (fun _ _ => rfl) (br h2 [] ([] ++ o) n2 m2)
  exact up_join (lev := 0) (lev2 := 1) (ks := [13]) (fun _ _ => rfl) (c := (⟨13, i⟩ : S46)) (by simp) h3 h4
/-- A guard, then | and one in brackets. -/
theorem guard_open_any {x o y u : List S46} (h : Guard x o) (h2 : Guard y u) (i n2 m2 : Int) :
    Guard (x ++ (⟨13, i⟩ : S46) :: (⟨15, n2⟩ : S46) :: (y ++ [(⟨16, m2⟩ : S46)])) (o ++ u ++ [(⟨13, 0⟩ : S46)]) := by
  obtain ⟨k, hk⟩ := h
  cases k with
  | zero => cases hk
  | succ k =>
    rw [PF_succ, step0] at hk
    rcases rowF_some hk with ⟨_, h3⟩ | ⟨l1, o1, h3, h4⟩
    · cases h3
    · have okc : OKc 1 13 := ⟨fun q => by omega, fun _ => by decide, fun _ => by decide, fun _ => by decide⟩
      have hth : ∀ K, ∀ l o l' o', PF K 1 (l, o) = some (some (l', o')) → PF K 1 (l ++ (⟨13, i⟩ : S46) :: (⟨15, n2⟩ : S46) :: (y ++ [(⟨16, m2⟩ : S46)]), o) = some (some (l' ++ (⟨13, i⟩ : S46) :: (⟨15, n2⟩ : S46) :: (y ++ [(⟨16, m2⟩ : S46)]), o')) :=
        fun K l o l' o' q => ext _ _ K 1 l o l' o' q (fun _ => okc)
      obtain ⟨k2, hk2⟩ := up_end (lev := 1) (lev2 := 2) (ks := [12]) (fun _ _ => rfl) (br h2 [] o n2 m2)
      have h5 := rowL_mono (PF k 1) (PF (k + k2) 1) [13] (fun st r q => PF_mono (by omega) q) k k _ _ (Nat.le_refl _) h4
      have h6 : rowL (PF (k + k2) 1) [13] 2 ((⟨13, i⟩ : S46) :: (⟨15, n2⟩ : S46) :: (y ++ [(⟨16, m2⟩ : S46)]), o) = some (some ([], o ++ u ++ [(⟨13, 0⟩ : S46)])) := by
        rw [rowL_go (by simp) (PF_mono (by omega) hk2)]
        rfl
      have h7 := cont_row (hth (k + k2)) k l1 o1 o h5 2 _ h6
      refine ⟨k + k2 + 2 + 1, ?_⟩
      rw [PF_succ, step0, rowF_mk (PF_mono (by omega) (hth k _ _ _ _ h3))]
      exact rowL_mono (PF (k + k2) 1) (PF (k + k2 + 2) 1) [13] (fun st r q => PF_mono (by omega) q) (k + 2) (k + k2 + 2) _ _ (by omega) h7
end Go.Proofs.YtojfdekiponccaaGreatDoor.Pure
/- What the reader lays behind is a guard, behind. -/
namespace Go.Proofs.YtojfdekiponccaaGreatDoor.Pure
open Go.Proofs.YtojfdekiponccaaGreatDoor.H
set_option linter.unusedVariables false
set_option linter.unusedSimpArgs false
/-- A guard (true), or a number (false), behind. -/
inductive Post : Bool → List S46 → Prop
  | num (n : Int) : 0 ≤ n → n ≤ 2147483647 → Post false [⟨1, n⟩]
  | name (n : Int) : 0 ≤ n → n < 26 → Post false [⟨2, n⟩]
  | neg {p} : Post false p → Post false (p ++ [⟨19, 0⟩])
  | op {p q} (k : Int) : 3 ≤ k → k ≤ 5 → Post false p → Post false q → Post false (p ++ q ++ [⟨k, 0⟩])
  | cmp {p q} (k : Int) : 6 ≤ k → k ≤ 11 → Post false p → Post false q → Post true (p ++ q ++ [⟨k, 0⟩])
  | con {p q} (k : Int) : (k = 12 ∨ k = 13) → Post true p → Post true q → Post true (p ++ q ++ [⟨k, 0⟩])
  | nt {p} : Post true p → Post true (p ++ [⟨14, 0⟩])
/-- What a sign that is read may be. -/
def tok (s : S46) : Prop := (s.f0 = 1 → 0 ≤ s.f1 ∧ s.f1 ≤ 2147483647) ∧ (s.f0 = 2 → 0 ≤ s.f1 ∧ s.f1 ≤ 25)
def Lays (b : Bool) (th : ST → Rz) : Prop := ∀ l o l' o', (∀ s ∈ l, tok s) → th (l, o) = some (some (l', o')) → (∀ s ∈ l', tok s) ∧ ∃ p, Post b p ∧ o' = o ++ p
theorem lays_row {b : Bool} {th : ST → Rz} {ks : List Int} (hth : Lays b th) (hop : ∀ k, ks.contains k = true → ∀ p q, Post b p → Post b q → Post b (p ++ q ++ [⟨k, 0⟩])) :
    ∀ (k : Nat) (l o p l' o' : List S46), (∀ s ∈ l, tok s) → Post b p → rowL th ks k (l, o ++ p) = some (some (l', o')) → (∀ s ∈ l', tok s) ∧ ∃ p, Post b p ∧ o' = o ++ p
  | 0, _, _, _, _, _, _, _, h => by cases h
  | k + 1, [], o, p, l', o', ht, hp, h => by
    obtain ⟨rfl, rfl⟩ := Prod.mk.inj (Option.some.inj (rowL_nil _ _ _ _ _ h))
    exact ⟨ht, p, hp, rfl⟩
  | k + 1, a :: l, o, p, l', o', ht, hp, h => by
    rcases rowL_cons h with ⟨hc, h1⟩ | ⟨hc, ⟨_, h1⟩ | ⟨l1, o1, h1, h2⟩⟩
    · obtain ⟨rfl, rfl⟩ := Prod.mk.inj (Option.some.inj h1)
      exact ⟨ht, p, hp, rfl⟩
    · cases h1
    · obtain ⟨ht1, q, hq, rfl⟩ := hth _ _ _ _ (fun s hs => ht s (by simp [hs])) h1
      have e : o ++ p ++ q ++ [(⟨a.f0, 0⟩ : S46)] = o ++ (p ++ q ++ [(⟨a.f0, 0⟩ : S46)]) := by simp
      rw [e] at h2
      exact lays_row hth hop k l1 o _ l' o' ht1 (hop _ hc _ _ hp hq) h2
theorem lays_rowF {b : Bool} {th : ST → Rz} {ks : List Int} (hth : Lays b th) (hop : ∀ k, ks.contains k = true → ∀ p q, Post b p → Post b q → Post b (p ++ q ++ [⟨k, 0⟩])) (k : Nat) : Lays b (rowF th ks k) := by
  intro l o l' o' ht h
  rcases rowF_some h with ⟨_, h2⟩ | ⟨l1, o1, h1, h2⟩
  · cases h2
  · obtain ⟨ht1, p, hp, rfl⟩ := hth _ _ _ _ ht h1
    exact lays_row hth hop k l1 o p l' o' ht1 hp h2
theorem lays : ∀ (k lev : Nat), Lays (decide (lev ≤ 2)) (PF k lev)
  | 0, _ => fun _ _ _ _ _ h => by cases h
  | k + 1, lev => by
    intro l o l' o' ht h
    have ih := lays k
    rw [PF_succ] at h
    unfold stepF at h
    have htl : ∀ {a : S46} {t : List S46}, l = a :: t → ∀ s ∈ t, tok s := by
      rintro a t rfl s hs
      exact ht s (by simp [hs])
    have htt : ∀ s ∈ l.tail, tok s := fun s hs => ht s (List.mem_of_mem_tail hs)
    by_cases c0 : lev = 0
    · subst c0
      rw [if_pos rfl] at h
      exact lays_rowF (b := true) (ih 1) (fun k hk p q hp hq => by have e : k = 13 := by simpa using hk
                                                                   exact Post.con k (Or.inr e) hp hq) k l o l' o' ht h
    · rw [if_neg c0] at h
      by_cases c1 : lev = 1
      · subst c1
        rw [if_pos rfl] at h
        exact lays_rowF (b := true) (ih 2) (fun k hk p q hp hq => by have e : k = 12 := by simpa using hk
                                                                     exact Post.con k (Or.inl e) hp hq) k l o l' o' ht h
      · rw [if_neg c1] at h
        by_cases c2 : lev = 2
        · subst c2
          rw [if_pos rfl] at h
          dsimp only at h
          split at h
          · rcases bnd_some h with ⟨_, h2⟩ | ⟨⟨l1, o1⟩, h1, h2⟩
            · cases h2
            · obtain ⟨rfl, rfl⟩ := Prod.mk.inj (Option.some.inj (Option.some.inj h2))
              obtain ⟨ht1, p, hp, rfl⟩ := ih 2 _ _ _ _ htt h1
              exact ⟨ht1, _, Post.nt hp, by simp⟩
          · split at h
            · rcases bnd_some h with ⟨_, h2⟩ | ⟨⟨l1, o1⟩, h1, h2⟩
              · cases h2
              · obtain ⟨ht1, p, hp, rfl⟩ := ih 0 _ _ _ _ htt h1
                unfold takeF at h2
                split at h2
                · obtain ⟨rfl, rfl⟩ := Prod.mk.inj (Option.some.inj (Option.some.inj h2))
                  exact ⟨fun s hs => ht1 s (List.mem_of_mem_tail hs), p, hp, rfl⟩
                · cases h2
            · rcases bnd_some h with ⟨_, h2⟩ | ⟨⟨l1, o1⟩, h1, h2⟩
              · cases h2
              · obtain ⟨ht1, p, hp, rfl⟩ := ih 3 _ _ _ _ ht h1
                cases l1 with
                | nil => cases h2
                | cons a l1 =>
                  dsimp only at h2
                  split at h2
                  · rename_i q
                    rcases bnd_some h2 with ⟨_, h3⟩ | ⟨⟨l2, o2⟩, h3, h4⟩
                    · cases h3
                    · obtain ⟨rfl, rfl⟩ := Prod.mk.inj (Option.some.inj (Option.some.inj h4))
                      obtain ⟨ht2, p2, hp2, rfl⟩ := ih 3 _ _ _ _ (fun s hs => ht1 s (by simp [hs])) h3
                      have q2 := of_decide_eq_true q
                      exact ⟨ht2, _, Post.cmp a.f0 q2.1 q2.2 hp hp2, by simp⟩
                  · cases h2
        · rw [if_neg c2] at h
          by_cases c3 : lev = 3
          · subst c3
            rw [if_pos rfl] at h
            exact lays_rowF (b := false) (ih 4) (fun k hk p q hp hq => by have e : k = 3 ∨ k = 4 := by simpa using hk
                                                                          exact Post.op k (by omega) (by omega) hp hq) k l o l' o' ht h
          · rw [if_neg c3] at h
            by_cases c4 : lev = 4
            · subst c4
              rw [if_pos rfl] at h
              exact lays_rowF (b := false) (ih 5) (fun k hk p q hp hq => by have e : k = 5 := by simpa using hk
                                                                            exact Post.op k (by omega) (by omega) hp hq) k l o l' o' ht h
            · rw [if_neg c4] at h
              have hd : decide (lev ≤ 2) = false := decide_eq_false (by omega)
              rw [hd]
              cases l with
              | nil => cases h
              | cons a l =>
                dsimp only at h
                have hta := ht a (by simp)
                split at h
                · rename_i q
                  obtain ⟨rfl, rfl⟩ := Prod.mk.inj (Option.some.inj (Option.some.inj h))
                  refine ⟨htl rfl, [a], ?_, rfl⟩
                  obtain ⟨a0, a1⟩ := a
                  rcases q with q | q
                  · obtain rfl : a0 = 1 := q
                    exact Post.num _ (hta.1 rfl).1 (hta.1 rfl).2
                  · obtain rfl : a0 = 2 := q
                    exact Post.name _ (hta.2 rfl).1 (by have := (hta.2 rfl).2; show a1 < 26; have e : (a1 : Int) ≤ 25 := this; omega)
                · split at h
                  · rcases bnd_some h with ⟨_, h2⟩ | ⟨⟨l1, o1⟩, h1, h2⟩
                    · cases h2
                    · obtain ⟨rfl, rfl⟩ := Prod.mk.inj (Option.some.inj (Option.some.inj h2))
                      obtain ⟨ht1, p, hp, rfl⟩ := ih 5 _ _ _ _ (htl rfl) h1
                      exact ⟨ht1, _, Post.neg hp, by simp⟩
                  · split at h
                    · rcases bnd_some h with ⟨_, h2⟩ | ⟨⟨l1, o1⟩, h1, h2⟩
                      · cases h2
                      · obtain ⟨ht1, p, hp, rfl⟩ := ih 3 _ _ _ _ (htl rfl) h1
                        unfold takeF at h2
                        split at h2
                        · obtain ⟨rfl, rfl⟩ := Prod.mk.inj (Option.some.inj (Option.some.inj h2))
                          exact ⟨fun s hs => ht1 s (List.mem_of_mem_tail hs), p, hp, rfl⟩
                        · cases h2
                    · cases h
theorem guard_post {x o : List S46} (hx : ∀ s ∈ x, tok s) (h : Guard x o) : Post true o := by
  obtain ⟨k, hk⟩ := h
  obtain ⟨_, p, hp, rfl⟩ := lays k 0 _ _ _ _ hx hk
  exact hp
end Go.Proofs.YtojfdekiponccaaGreatDoor.Pure
