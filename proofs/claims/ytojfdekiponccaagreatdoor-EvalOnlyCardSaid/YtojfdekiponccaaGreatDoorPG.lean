import Derived.Test.YtojfdekiponccaaGreatDoorHx0
/- guard's reader, as plain functions on lists of signs: what is left, what lies behind; none: too few rounds; some none: it gives up. -/
namespace Go.Proofs.YtojfdekiponccaaGreatDoor.H
set_option linter.unusedVariables false
/-- The signs that are left, and those that lie behind. -/
abbrev ST := List S46 × List S46
abbrev Rz := Option (Option ST)
def seesF (kind : Int) (st : ST) : Bool := match st.1 with | [] => false | a :: _ => a.f0 == kind
def takeF (kind : Int) (st : ST) : Rz := if seesF kind st = true then some (some (st.1.tail, st.2)) else some none
def putF (kind : Int) (st : ST) : Rz := some (some (st.1, st.2 ++ [(⟨kind, 0⟩ : S46)]))
def bnd (x : Rz) (f : ST → Rz) : Rz := match x with | none => none | some none => some none | some (some s) => f s
def rowL (th : ST → Rz) (ks : List Int) : Nat → ST → Rz
  | 0, _ => none
  | k + 1, st => match st.1 with
    | [] => some (some st)
    | a :: r => if ks.contains a.f0 = true then bnd (th (r, st.2)) fun s => bnd (putF a.f0 s) (rowL th ks k) else some (some st)
def rowF (th : ST → Rz) (ks : List Int) (k : Nat) (st : ST) : Rz := bnd (th st) (rowL th ks k)
def stepF (R : Nat → ST → Rz) (k : Nat) (lev : Nat) (st : ST) : Rz :=
  if lev = 0 then rowF (R 1) [13] k st
  else if lev = 1 then rowF (R 2) [12] k st
  else if lev = 2 then
    if seesF 14 st = true then bnd (R 2 (st.1.tail, st.2)) (putF 14)
    else if seesF 15 st = true then bnd (R 0 (st.1.tail, st.2)) (takeF 16)
    else bnd (R 3 st) fun s => match s.1 with
      | [] => some none
      | a :: r => if decide (6 ≤ a.f0 ∧ a.f0 ≤ 11) = true then bnd (R 3 (r, s.2)) (putF a.f0) else some none
  else if lev = 3 then rowF (R 4) [3, 4] k st
  else if lev = 4 then rowF (R 5) [5] k st
  else match st.1 with
    | [] => some none
    | a :: r =>
      if a.f0 = 1 ∨ a.f0 = 2 then some (some (r, st.2 ++ [a]))
      else if a.f0 = 4 then bnd (R 5 (r, st.2)) (putF 19)
      else if a.f0 = 17 then bnd (R 3 (r, st.2)) (takeF 18)
      else some none
def PF : Nat → Nat → ST → Rz
  | 0 => fun _ _ => none
  | k + 1 => stepF (PF k) k
end Go.Proofs.YtojfdekiponccaaGreatDoor.H
/- Plain laws of guard's reader. -/
namespace Go.Proofs.YtojfdekiponccaaGreatDoor.Pure
open Go.Proofs.YtojfdekiponccaaGreatDoor.H
set_option linter.unusedVariables false
set_option linter.unusedSimpArgs false
theorem bnd_some {x : Rz} {f : ST → Rz} {r : Option ST} (h : bnd x f = some r) : (x = some none ∧ r = none) ∨ ∃ s, x = some (some s) ∧ f s = some r := by
  unfold bnd at h
  match x, h with
  | some none, h => exact .inl ⟨rfl, (Option.some.inj h).symm⟩
  | some (some s), h => exact .inr ⟨s, rfl, h⟩
theorem bnd_mk_none {x : Rz} {f : ST → Rz} (h : x = some none) : bnd x f = some none := by rw [h]; rfl
theorem bnd_mk {x : Rz} {f : ST → Rz} {s : ST} (h : x = some (some s)) : bnd x f = f s := by rw [h]; rfl
theorem bnd_mono {x x' : Rz} {f f' : ST → Rz} {r : Option ST} (hx : ∀ r, x = some r → x' = some r) (hf : ∀ s r, f s = some r → f' s = some r) (h : bnd x f = some r) : bnd x' f' = some r := by
  rcases bnd_some h with ⟨h1, rfl⟩ | ⟨s, h1, h2⟩
  · exact bnd_mk_none (hx _ h1)
  · rw [bnd_mk (hx _ h1)]; exact hf s r h2
theorem rowL_mono (th th' : ST → Rz) (ks : List Int) (h : ∀ st r, th st = some r → th' st = some r) : ∀ (k k' : Nat) (st : ST) (r : Option ST), k ≤ k' → rowL th ks k st = some r → rowL th' ks k' st = some r
  | 0, _, _, _, _, h1 => by cases h1
  | k + 1, k', st, r, hk, h1 => by
    obtain ⟨k', rfl⟩ : ∃ m, k' = m + 1 := ⟨k' - 1, by omega⟩
    obtain ⟨l, o⟩ := st
    cases l with
    | nil => exact h1
    | cons a l =>
      simp only [rowL] at h1 ⊢
      split at h1
      · rename_i hc
        rw [if_pos hc]
        exact bnd_mono (h _) (fun s r h2 => bnd_mono (fun _ h3 => h3) (fun s r h3 => rowL_mono th th' ks h k k' s r (by omega) h3) h2) h1
      · rename_i hc
        rw [if_neg hc]; exact h1
theorem rowF_mono (th th' : ST → Rz) (ks : List Int) (h : ∀ st r, th st = some r → th' st = some r) (k k' : Nat) (hk : k ≤ k') (st : ST) (r : Option ST) (h1 : rowF th ks k st = some r) : rowF th' ks k' st = some r :=
  bnd_mono (h st) (fun s r h2 => rowL_mono th th' ks h k k' s r hk h2) h1
theorem stepF_mono (R R' : Nat → ST → Rz) (h : ∀ lev st r, R lev st = some r → R' lev st = some r) (k k' : Nat) (hk : k ≤ k') (lev : Nat) (st : ST) (r : Option ST) (h1 : stepF R k lev st = some r) : stepF R' k' lev st = some r := by
  unfold stepF at h1 ⊢
  split at h1
  · rename_i c; rw [if_pos c]; exact rowF_mono _ _ _ (h 1) k k' hk st r h1
  · rename_i c; rw [if_neg c]
    split at h1
    · rename_i c; rw [if_pos c]; exact rowF_mono _ _ _ (h 2) k k' hk st r h1
    · rename_i c; rw [if_neg c]
      split at h1
      · rename_i c; rw [if_pos c]
        split at h1
        · rename_i c; rw [if_pos c]; exact bnd_mono (h _ _) (fun _ _ h2 => h2) h1
        · rename_i c; rw [if_neg c]
          split at h1
          · rename_i c; rw [if_pos c]; exact bnd_mono (h _ _) (fun _ _ h2 => h2) h1
          · rename_i c; rw [if_neg c]
            refine bnd_mono (h _ _) (fun s r h2 => ?_) h1
            obtain ⟨l, o⟩ := s
            cases l with
            | nil => exact h2
            | cons a l =>
              dsimp only at h2 ⊢
              split at h2
              · rename_i c; rw [if_pos c]; exact bnd_mono (h _ _) (fun _ _ h3 => h3) h2
              · rename_i c; rw [if_neg c]; exact h2
      · rename_i c; rw [if_neg c]
        split at h1
        · rename_i c; rw [if_pos c]; exact rowF_mono _ _ _ (h 4) k k' hk st r h1
        · rename_i c; rw [if_neg c]
          split at h1
          · rename_i c; rw [if_pos c]; exact rowF_mono _ _ _ (h 5) k k' hk st r h1
          · rename_i c; rw [if_neg c]
            obtain ⟨l, o⟩ := st
            cases l with
            | nil => exact h1
            | cons a l =>
              dsimp only at h1 ⊢
              split at h1
              · rename_i c; rw [if_pos c]; exact h1
              · rename_i c; rw [if_neg c]
                split at h1
                · rename_i c; rw [if_pos c]; exact bnd_mono (h _ _) (fun _ _ h3 => h3) h1
                · rename_i c; rw [if_neg c]
                  split at h1
                  · rename_i c; rw [if_pos c]; exact bnd_mono (h _ _) (fun _ _ h3 => h3) h1
                  · rename_i c; rw [if_neg c]; exact h1
theorem PF_mono1 : ∀ (k lev : Nat) (st : ST) (r : Option ST), PF k lev st = some r → PF (k + 1) lev st = some r
  | 0, _, _, _, h => by cases h
  | k + 1, lev, st, r, h => stepF_mono (PF k) (PF (k + 1)) (fun lev st r h => PF_mono1 k lev st r h) k (k + 1) (by omega) lev st r h
theorem PF_mono {k k' lev : Nat} {st : ST} {r : Option ST} (hk : k ≤ k') (h : PF k lev st = some r) : PF k' lev st = some r := by
  obtain ⟨d, rfl⟩ : ∃ d, k' = k + d := ⟨k' - k, by omega⟩
  clear hk
  induction d with
  | zero => exact h
  | succ d ih => exact PF_mono1 _ _ _ _ ih
end Go.Proofs.YtojfdekiponccaaGreatDoor.Pure
/- guard's reader comes to an end; what stands behind a guard does not touch it. -/
namespace Go.Proofs.YtojfdekiponccaaGreatDoor.Pure
open Go.Proofs.YtojfdekiponccaaGreatDoor.H
set_option linter.unusedVariables false
set_option linter.unusedSimpArgs false
theorem PF_succ (k lev : Nat) (st : ST) : PF (k + 1) lev st = stepF (PF k) k lev st := rfl
theorem step0 (R : Nat → ST → Rz) (k : Nat) (st : ST) : stepF R k 0 st = rowF (R 1) [13] k st := rfl
theorem step1 (R : Nat → ST → Rz) (k : Nat) (st : ST) : stepF R k 1 st = rowF (R 2) [12] k st := rfl
theorem step3 (R : Nat → ST → Rz) (k : Nat) (st : ST) : stepF R k 3 st = rowF (R 4) [3, 4] k st := rfl
theorem step4 (R : Nat → ST → Rz) (k : Nat) (st : ST) : stepF R k 4 st = rowF (R 5) [5] k st := rfl
theorem step2 (R : Nat → ST → Rz) (k : Nat) (st : ST) : stepF R k 2 st =
    if seesF 14 st = true then bnd (R 2 (st.1.tail, st.2)) (putF 14)
    else if seesF 15 st = true then bnd (R 0 (st.1.tail, st.2)) (takeF 16)
    else bnd (R 3 st) fun s => match s.1 with
      | [] => some none
      | a :: r => if decide (6 ≤ a.f0 ∧ a.f0 ≤ 11) = true then bnd (R 3 (r, s.2)) (putF a.f0) else some none := rfl
theorem step5 (R : Nat → ST → Rz) (k : Nat) (st : ST) : stepF R k 5 st =
    match st.1 with
    | [] => some none
    | a :: r =>
      if a.f0 = 1 ∨ a.f0 = 2 then some (some (r, st.2 ++ [a]))
      else if a.f0 = 4 then bnd (R 5 (r, st.2)) (putF 19)
      else if a.f0 = 17 then bnd (R 3 (r, st.2)) (takeF 18)
      else some none := rfl
/-- A reading that came well out of st: one sign at least was read; no more signs lie there than before. -/
def Well (st : ST) (r : Option ST) : Prop := ∀ s, r = some s → s.1.length < st.1.length ∧ s.2.length + s.1.length ≤ st.2.length + st.1.length
theorem putF_ok (kind : Int) (st : ST) : putF kind st = some (some (st.1, st.2 ++ [(⟨kind, 0⟩ : S46)])) := rfl
theorem row_total (th : Nat → ST → Rz) (hm : ∀ k k' st r, k ≤ k' → th k st = some r → th k' st = some r) (ks : List Int) : ∀ (n : Nat) (st : ST), st.1.length ≤ n → True →
    (∀ s : ST, s.1.length < st.1.length → True → ∃ k r, th k s = some r ∧ Well s r) →
    ∃ k r, (∀ k', k ≤ k' → rowL (th k') ks k' st = some r) ∧ (∀ s, r = some s → s.1.length ≤ st.1.length ∧ s.2.length + s.1.length ≤ st.2.length + st.1.length) := by
  intro n
  induction n with
  | zero =>
    intro st h hs _
    obtain ⟨l, o⟩ := st
    obtain rfl : l = [] := List.eq_nil_of_length_eq_zero (by simpa using h)
    refine ⟨1, some ([], o), fun k' hk => ?_, fun s hs => ?_⟩
    · obtain ⟨k', rfl⟩ : ∃ m, k' = m + 1 := ⟨k' - 1, by omega⟩
      rfl
    · obtain rfl := Option.some.inj hs
      exact ⟨Nat.le_refl _, Nat.le_refl _⟩
  | succ n ih =>
    intro st h hs hth
    obtain ⟨l, o⟩ := st
    cases l with
    | nil =>
      refine ⟨1, some ([], o), fun k' hk => ?_, fun s hs => ?_⟩
      · obtain ⟨k', rfl⟩ : ∃ m, k' = m + 1 := ⟨k' - 1, by omega⟩
        rfl
      · obtain rfl := Option.some.inj hs
        exact ⟨Nat.le_refl _, Nat.le_refl _⟩
    | cons a l =>
      simp only [List.length_cons] at h
      by_cases hc : ks.contains a.f0 = true
      · obtain ⟨k1, r1, h1, w1⟩ := hth (l, o) (by simp) trivial
        cases r1 with
        | none =>
          refine ⟨k1 + 1, none, fun k' hk => ?_, fun s hs => by cases hs⟩
          obtain ⟨k', rfl⟩ : ∃ m, k' = m + 1 := ⟨k' - 1, by omega⟩
          simp only [rowL]
          rw [if_pos hc, bnd_mk_none (hm k1 _ _ _ (by omega) h1)]
        | some s1 =>
          obtain ⟨w1a, w1b⟩ := w1 s1 rfl
          dsimp only at w1a w1b
          obtain ⟨k2, r2, h2, w2⟩ := ih (s1.1, s1.2 ++ [(⟨a.f0, 0⟩ : S46)]) (by dsimp only; omega) trivial
            (fun s hs1 hs2 => hth s (by dsimp only at hs1 ⊢; rw [List.length_cons]; omega) hs2)
          refine ⟨k1 + k2 + 1, r2, fun k' hk => ?_, fun s hs => ?_⟩
          · obtain ⟨k', rfl⟩ : ∃ m, k' = m + 1 := ⟨k' - 1, by omega⟩
            simp only [rowL]
            rw [if_pos hc, bnd_mk (hm k1 _ _ _ (by omega) h1), putF_ok]
            show rowL (th (k' + 1)) ks k' _ = some r2
            exact rowL_mono (th k') (th (k' + 1)) ks (fun st r => hm k' (k' + 1) st r (by omega)) k' k' _ _ (Nat.le_refl _) (h2 k' (by omega))
          · obtain ⟨q1, q2⟩ := w2 s hs
            dsimp only at q1 q2
            rw [List.length_append] at q2
            simp only [List.length_cons, List.length_nil] at q2 ⊢
            omega
      · refine ⟨1, some (a :: l, o), fun k' hk => ?_, fun s hs => ?_⟩
        · obtain ⟨k', rfl⟩ : ∃ m, k' = m + 1 := ⟨k' - 1, by omega⟩
          simp only [rowL]
          rw [if_neg hc]
        · obtain rfl := Option.some.inj hs
          exact ⟨Nat.le_refl _, Nat.le_refl _⟩
theorem rowF_total (lev lev2 : Nat) (ks : List Int) (hstep : ∀ k st, PF (k + 1) lev st = rowF (PF k lev2) ks k st) (st : ST) (hs : True)
    (h0 : ∃ k r, PF k lev2 st = some r ∧ Well st r) (h1 : ∀ s : ST, s.1.length < st.1.length → True → ∃ k r, PF k lev2 s = some r ∧ Well s r) : ∃ k r, PF k lev st = some r ∧ Well st r := by
  obtain ⟨k1, r1, e1, w1⟩ := h0
  cases r1 with
  | none => exact ⟨k1 + 1, none, by rw [hstep]; exact bnd_mk_none e1, fun s hs => by cases hs⟩
  | some s1 =>
    obtain ⟨w1a, w1b⟩ := w1 s1 rfl
    obtain ⟨k2, r2, e2, w2⟩ := row_total (fun k => PF k lev2) (fun k k' st r hk h => PF_mono hk h) ks s1.1.length s1 (Nat.le_refl _) trivial (fun s hs1 hs2 => h1 s (by omega) hs2)
    refine ⟨k1 + k2 + 1, r2, ?_, fun s hs => ?_⟩
    · rw [hstep]
      unfold rowF
      rw [bnd_mk (PF_mono (by omega) e1)]
      exact e2 (k1 + k2) (by omega)
    · obtain ⟨q1, q2⟩ := w2 s hs
      exact ⟨by omega, by omega⟩
theorem PF_total : ∀ (m n lev : Nat) (st : ST), m = 6 * n + (5 - lev) → lev ≤ 5 → st.1.length = n → True → ∃ k r, PF k lev st = some r ∧ Well st r := by
  intro m
  induction m using Nat.strongRecOn with
  | _ m ih =>
    intro n lev st hm hl hn hs
    have up : ∀ lev2, lev < lev2 → lev2 ≤ 5 → ∃ k r, PF k lev2 st = some r ∧ Well st r := fun lev2 h1 h2 => ih (6 * n + (5 - lev2)) (by omega) n lev2 st rfl h2 hn hs
    have down : ∀ lev2, lev2 ≤ 5 → ∀ s : ST, s.1.length < st.1.length → True → ∃ k r, PF k lev2 s = some r ∧ Well s r :=
      fun lev2 h2 s h3 h4 => ih (6 * s.1.length + (5 - lev2)) (by omega) s.1.length lev2 s rfl h2 rfl h4
    rcases (by omega : lev = 0 ∨ lev = 1 ∨ lev = 2 ∨ lev = 3 ∨ lev = 4 ∨ lev = 5) with rfl | rfl | rfl | rfl | rfl | rfl
    · exact rowF_total 0 1 [13] (fun _ _ => rfl) st hs (up 1 (by omega) (by omega)) (down 1 (by omega))
    · exact rowF_total 1 2 [12] (fun _ _ => rfl) st hs (up 2 (by omega) (by omega)) (down 2 (by omega))
    · -- one
      obtain ⟨l, o⟩ := st
      have tail : ∀ (lev2 : Nat) (f : ST → Rz), lev2 ≤ 5 → l ≠ [] → (∀ s : ST, s.1.length < l.tail.length → s.2.length + s.1.length ≤ o.length + l.tail.length → ∃ r, f s = some r ∧ ∀ q, r = some q → q.1.length ≤ s.1.length ∧ q.2.length + q.1.length ≤ s.2.length + s.1.length + 1) →
          ∃ k r, bnd (PF k lev2 (l.tail, o)) f = some r ∧ Well (l, o) r := by
        intro lev2 f h2 hne hf
        cases l with
        | nil => exact absurd rfl hne
        | cons a l =>
          dsimp only [List.tail_cons] at hf ⊢
          obtain ⟨k1, r1, e1, w1⟩ := down lev2 h2 (l, o) (by simp) trivial
          cases r1 with
          | none => exact ⟨k1, none, bnd_mk_none e1, fun s hs => by cases hs⟩
          | some s1 =>
            obtain ⟨w1a, w1b⟩ := w1 s1 rfl
            dsimp only at w1a w1b
            obtain ⟨r, e2, w2⟩ := hf s1 w1a w1b
            refine ⟨k1, r, by rw [bnd_mk e1]; exact e2, fun s hs => ?_⟩
            obtain ⟨q1, q2⟩ := w2 s hs
            simp only [List.length_cons]
            exact ⟨by omega, by omega⟩
      have hput : ∀ kind (s : ST), ∃ r, putF kind s = some r ∧ ∀ q, r = some q → q.1.length ≤ s.1.length ∧ q.2.length + q.1.length ≤ s.2.length + s.1.length + 1 := by
        intro kind s
        refine ⟨some (s.1, s.2 ++ [(⟨kind, 0⟩ : S46)]), putF_ok kind s, fun q hq => ?_⟩
        obtain rfl := Option.some.inj hq
        dsimp only
        rw [List.length_append]
        simp only [List.length_cons, List.length_nil]
        omega
      have htake : ∀ kind (s : ST), ∃ r, takeF kind s = some r ∧ ∀ q, r = some q → q.1.length ≤ s.1.length ∧ q.2.length + q.1.length ≤ s.2.length + s.1.length + 1 := by
        intro kind s
        unfold takeF
        split
        · refine ⟨_, rfl, fun q hq => ?_⟩
          obtain rfl := Option.some.inj hq
          dsimp only
          rw [List.length_tail]
          omega
        · exact ⟨none, rfl, fun q hq => by cases hq⟩
      have hlt : l.tail.length ≤ l.length := by rw [List.length_tail]; omega
      by_cases c1 : seesF 14 (l, o) = true
      · obtain ⟨k, r, e, w⟩ := tail 2 (putF 14) (by omega) (by rintro rfl; cases c1) (fun s h1 h2 => hput 14 s)
        exact ⟨k + 1, r, by rw [PF_succ, step2, if_pos c1]; exact e, w⟩
      · by_cases c2 : seesF 15 (l, o) = true
        · obtain ⟨k, r, e, w⟩ := tail 0 (takeF 16) (by omega) (by rintro rfl; cases c2) (fun s h1 h2 => htake 16 s)
          exact ⟨k + 1, r, by rw [PF_succ, step2, if_neg c1, if_pos c2]; exact e, w⟩
        · obtain ⟨k1, r1, e1, w1⟩ := up 3 (by omega) (by omega)
          cases r1 with
          | none => exact ⟨k1 + 1, none, by rw [PF_succ, step2, if_neg c1, if_neg c2]; exact bnd_mk_none e1, fun s hs => by cases hs⟩
          | some s1 =>
            obtain ⟨w1a, w1b⟩ := w1 s1 rfl
            obtain ⟨l1, o1⟩ := s1
            dsimp only at w1a w1b
            cases l1 with
            | nil => exact ⟨k1 + 1, none, by rw [PF_succ, step2, if_neg c1, if_neg c2, bnd_mk e1], fun s hs => by cases hs⟩
            | cons a l1 =>
              simp only [List.length_cons] at w1a w1b
              by_cases c3 : decide (6 ≤ a.f0 ∧ a.f0 ≤ 11) = true
              · obtain ⟨k2, r2, e2, w2⟩ := down 3 (by omega) (l1, o1) (by dsimp only; omega) trivial
                cases r2 with
                | none =>
                  refine ⟨k1 + k2 + 1, none, ?_, fun s hs => by cases hs⟩
                  rw [PF_succ, step2, if_neg c1, if_neg c2, bnd_mk (PF_mono (by omega) e1)]
                  dsimp only
                  rw [if_pos c3, bnd_mk_none (PF_mono (by omega) e2)]
                | some s2 =>
                  obtain ⟨w2a, w2b⟩ := w2 s2 rfl
                  dsimp only at w2a w2b
                  refine ⟨k1 + k2 + 1, some (s2.1, s2.2 ++ [(⟨a.f0, 0⟩ : S46)]), ?_, fun s hs1 => ?_⟩
                  · rw [PF_succ, step2, if_neg c1, if_neg c2, bnd_mk (PF_mono (by omega) e1)]
                    dsimp only
                    rw [if_pos c3, bnd_mk (PF_mono (by omega) e2), putF_ok]
                  · obtain rfl := Option.some.inj hs1
                    dsimp only
                    rw [List.length_append]
                    simp only [List.length_cons, List.length_nil]
                    omega
              · exact ⟨k1 + 1, none, by rw [PF_succ, step2, if_neg c1, if_neg c2, bnd_mk e1]; dsimp only; rw [if_neg c3], fun s hs => by cases hs⟩
    · exact rowF_total 3 4 [3, 4] (fun _ _ => rfl) st hs (up 4 (by omega) (by omega)) (down 4 (by omega))
    · exact rowF_total 4 5 [5] (fun _ _ => rfl) st hs (up 5 (by omega) (by omega)) (down 5 (by omega))
    · -- factor
      obtain ⟨l, o⟩ := st
      cases l with
      | nil => exact ⟨1, none, rfl, fun s hs => by cases hs⟩
      | cons a l =>
        by_cases c1 : a.f0 = 1 ∨ a.f0 = 2
        · refine ⟨1, some (l, o ++ [a]), ?_, fun s hs1 => ?_⟩
          · rw [PF_succ, step5]
            dsimp only
            rw [if_pos c1]
          · obtain rfl := Option.some.inj hs1
            dsimp only
            rw [List.length_append]
            simp only [List.length_cons, List.length_nil]
            omega
        · by_cases c2 : a.f0 = 4
          · obtain ⟨k1, r1, e1, w1⟩ := down 5 (by omega) (l, o) (by simp) trivial
            cases r1 with
            | none => exact ⟨k1 + 1, none, by rw [PF_succ, step5]; dsimp only; rw [if_neg c1, if_pos c2, bnd_mk_none e1], fun s hs => by cases hs⟩
            | some s1 =>
              obtain ⟨w1a, w1b⟩ := w1 s1 rfl
              dsimp only at w1a w1b
              refine ⟨k1 + 1, some (s1.1, s1.2 ++ [(⟨19, 0⟩ : S46)]), ?_, fun s hs1 => ?_⟩
              · rw [PF_succ, step5]; dsimp only; rw [if_neg c1, if_pos c2, bnd_mk e1, putF_ok]
              · obtain rfl := Option.some.inj hs1
                dsimp only
                rw [List.length_append]
                simp only [List.length_cons, List.length_nil]
                omega
          · by_cases c3 : a.f0 = 17
            · obtain ⟨k1, r1, e1, w1⟩ := down 3 (by omega) (l, o) (by simp) trivial
              cases r1 with
              | none => exact ⟨k1 + 1, none, by rw [PF_succ, step5]; dsimp only; rw [if_neg c1, if_neg c2, if_pos c3, bnd_mk_none e1], fun s hs => by cases hs⟩
              | some s1 =>
                obtain ⟨w1a, w1b⟩ := w1 s1 rfl
                dsimp only at w1a w1b
                refine ⟨k1 + 1, if seesF 18 s1 = true then some (s1.1.tail, s1.2) else none, ?_, fun s hs1 => ?_⟩
                · rw [PF_succ, step5]; dsimp only; rw [if_neg c1, if_neg c2, if_pos c3, bnd_mk e1]
                  unfold takeF
                  split <;> rfl
                · split at hs1
                  · obtain rfl := Option.some.inj hs1
                    dsimp only
                    rw [List.length_tail]
                    simp only [List.length_cons]
                    omega
                  · cases hs1
            · exact ⟨1, none, by rw [PF_succ, step5]; dsimp only; rw [if_neg c1, if_neg c2, if_neg c3], fun s hs => by cases hs⟩
end Go.Proofs.YtojfdekiponccaaGreatDoor.Pure
