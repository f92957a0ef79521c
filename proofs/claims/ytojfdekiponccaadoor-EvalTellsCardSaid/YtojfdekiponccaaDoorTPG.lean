import Derived.Test.YtojfdekiponccaaDoorTHx0
/- guard's reader, as plain functions on lists of signs: what is left, what lies behind; none: too few rounds; some none: it gives up. -/
namespace Go.Proofs.YtojfdekiponccaaDoor.H
set_option linter.unusedVariables false
/-- The signs that are left, and those that lie behind. -/
abbrev ST := List S35 × List S35
abbrev Rz := Option (Option ST)
def seesF (kind : Int) (st : ST) : Bool := match st.1 with | [] => false | a :: _ => a.f0 == kind
def takeF (kind : Int) (st : ST) : Rz := if seesF kind st = true then some (some (st.1.tail, st.2)) else some none
def putF (kind : Int) (st : ST) : Rz := some (some (st.1, st.2 ++ [(⟨kind, 0⟩ : S35)]))
def bnd (x : Rz) (f : ST → Rz) : Rz := match x with | none => none | some none => some none | some (some s) => f s
def rowL (th : ST → Rz) (ks : List Int) : Nat → ST → Rz
  | 0, _ => none
  | k + 1, st => match st.1 with
    | [] => some (some st)
    | a :: r => if ks.contains a.f0 = true then bnd (th (r, st.2)) fun s => bnd (putF a.f0 s) (rowL th ks k) else some (some st)
def rowF (th : ST → Rz) (ks : List Int) (k : Nat) (st : ST) : Rz := bnd (th st) (rowL th ks k)
def stepF (R : Nat → ST → Rz) (k : Nat) (lev : Nat) (st : ST) : Rz :=
  if lev = 0 then rowF (R 1) [13] k st
  else if lev = 1 then rowF (R 2) [12] k st
  else if lev = 2 then
    if seesF 14 st = true then bnd (R 2 (st.1.tail, st.2)) (putF 14)
    else if seesF 15 st = true then bnd (R 0 (st.1.tail, st.2)) (takeF 16)
    else bnd (R 3 st) fun s => match s.1 with
      | [] => some none
      | a :: r => if decide (6 ≤ a.f0 ∧ a.f0 ≤ 11) = true then bnd (R 3 (r, s.2)) (putF a.f0) else some none
  else if lev = 3 then rowF (R 4) [3, 4] k st
  else if lev = 4 then rowF (R 5) [5] k st
  else match st.1 with
    | [] => some none
    | a :: r =>
      if a.f0 = 1 ∨ a.f0 = 2 then some (some (r, st.2 ++ [a]))
      else if a.f0 = 4 then bnd (R 5 (r, st.2)) (putF 19)
      else if a.f0 = 17 then bnd (R 3 (r, st.2)) (takeF 18)
      else some none
def PF : Nat → Nat → ST → Rz
  | 0 => fun _ _ => none
  | k + 1 => stepF (PF k) k
end Go.Proofs.YtojfdekiponccaaDoor.H
/- Plain laws of guard's reader. -/
namespace Go.Proofs.YtojfdekiponccaaDoor.Pure
open Go.Proofs.YtojfdekiponccaaDoor.H
set_option linter.unusedVariables false
set_option linter.unusedSimpArgs false
theorem bnd_some {x : Rz} {f : ST → Rz} {r : Option ST} (h : bnd x f = some r) : (x = some none ∧ r = none) ∨ ∃ s, x = some (some s) ∧ f s = some r := by
  unfold bnd at h
  match x, h with
  | some none, h => exact .inl ⟨rfl, (Option.some.inj h).symm⟩
  | some (some s), h => exact .inr ⟨s, rfl, h⟩
theorem bnd_mk_none {x : Rz} {f : ST → Rz} (h : x = some none) : bnd x f = some none := by rw [h]; rfl
theorem bnd_mk {x : Rz} {f : ST → Rz} {s : ST} (h : x = some (some s)) : bnd x f = f s := by rw [h]; rfl
theorem bnd_mono {x x' : Rz} {f f' : ST → Rz} {r : Option ST} (hx : ∀ r, x = some r → x' = some r) (hf : ∀ s r, f s = some r → f' s = some r) (h : bnd x f = some r) : bnd x' f' = some r := by
  rcases bnd_some h with ⟨h1, rfl⟩ | ⟨s, h1, h2⟩
  · exact bnd_mk_none (hx _ h1)
  · rw [bnd_mk (hx _ h1)]; exact hf s r h2
theorem rowL_mono (th th' : ST → Rz) (ks : List Int) (h : ∀ st r, th st = some r → th' st = some r) : ∀ (k k' : Nat) (st : ST) (r : Option ST), k ≤ k' → rowL th ks k st = some r → rowL th' ks k' st = some r
  | 0, _, _, _, _, h1 => by cases h1
  | k + 1, k', st, r, hk, h1 => by
    obtain ⟨k', rfl⟩ : ∃ m, k' = m + 1 := ⟨k' - 1, by omega⟩
    obtain ⟨l, o⟩ := st
    cases l with
    | nil => exact h1
    | cons a l =>
      simp only [rowL] at h1 ⊢
      split at h1
      · rename_i hc
        rw [if_pos hc]
        exact bnd_mono (h _) (fun s r h2 => bnd_mono (fun _ h3 => h3) (fun s r h3 => rowL_mono th th' ks h k k' s r (by omega) h3) h2) h1
      · rename_i hc
        rw [if_neg hc]; exact h1
theorem rowF_mono (th th' : ST → Rz) (ks : List Int) (h : ∀ st r, th st = some r → th' st = some r) (k k' : Nat) (hk : k ≤ k') (st : ST) (r : Option ST) (h1 : rowF th ks k st = some r) : rowF th' ks k' st = some r :=
  bnd_mono (h st) (fun s r h2 => rowL_mono th th' ks h k k' s r hk h2) h1
theorem stepF_mono (R R' : Nat → ST → Rz) (h : ∀ lev st r, R lev st = some r → R' lev st = some r) (k k' : Nat) (hk : k ≤ k') (lev : Nat) (st : ST) (r : Option ST) (h1 : stepF R k lev st = some r) : stepF R' k' lev st = some r := by
  unfold stepF at h1 ⊢
  split at h1
  · rename_i c; rw [if_pos c]; exact rowF_mono _ _ _ (h 1) k k' hk st r h1
  · rename_i c; rw [if_neg c]
    split at h1
    · rename_i c; rw [if_pos c]; exact rowF_mono _ _ _ (h 2) k k' hk st r h1
    · rename_i c; rw [if_neg c]
      split at h1
      · rename_i c; rw [if_pos c]
        split at h1
        · rename_i c; rw [if_pos c]; exact bnd_mono (h _ _) (fun _ _ h2 => h2) h1
        · rename_i c; rw [if_neg c]
          split at h1
          · rename_i c; rw [if_pos c]; exact bnd_mono (h _ _) (fun _ _ h2 => h2) h1
          · rename_i c; rw [if_neg c]
            refine bnd_mono (h _ _) (fun s r h2 => ?_) h1
            obtain ⟨l, o⟩ := s
            cases l with
            | nil => exact h2
            | cons a l =>
              dsimp only at h2 ⊢
              split at h2
              · rename_i c; rw [if_pos c]; exact bnd_mono (h _ _) (fun _ _ h3 => h3) h2
              · rename_i c; rw [if_neg c]; exact h2
      · rename_i c; rw [if_neg c]
        split at h1
        · rename_i c; rw [if_pos c]; exact rowF_mono _ _ _ (h 4) k k' hk st r h1
        · rename_i c; rw [if_neg c]
          split at h1
          · rename_i c; rw [if_pos c]; exact rowF_mono _ _ _ (h 5) k k' hk st r h1
          · rename_i c; rw [if_neg c]
            obtain ⟨l, o⟩ := st
            cases l with
            | nil => exact h1
            | cons a l =>
              dsimp only at h1 ⊢
              split at h1
              · rename_i c; rw [if_pos c]; exact h1
              · rename_i c; rw [if_neg c]
                split at h1
                · rename_i c; rw [if_pos c]; exact bnd_mono (h _ _) (fun _ _ h3 => h3) h1
                · rename_i c; rw [if_neg c]
                  split at h1
                  · rename_i c; rw [if_pos c]; exact bnd_mono (h _ _) (fun _ _ h3 => h3) h1
                  · rename_i c; rw [if_neg c]; exact h1
theorem PF_mono1 : ∀ (k lev : Nat) (st : ST) (r : Option ST), PF k lev st = some r → PF (k + 1) lev st = some r
  | 0, _, _, _, h => by cases h
  | k + 1, lev, st, r, h => stepF_mono (PF k) (PF (k + 1)) (fun lev st r h => PF_mono1 k lev st r h) k (k + 1) (by omega) lev st r h
theorem PF_mono {k k' lev : Nat} {st : ST} {r : Option ST} (hk : k ≤ k') (h : PF k lev st = some r) : PF k' lev st = some r := by
  obtain ⟨d, rfl⟩ : ∃ d, k' = k + d := ⟨k' - k, by omega⟩
  clear hk
  induction d with
  | zero => exact h
  | succ d ih => exact PF_mono1 _ _ _ _ ih
end Go.Proofs.YtojfdekiponccaaDoor.Pure
/- guard's reader comes to an end; what stands behind a guard does not touch it. -/
namespace Go.Proofs.YtojfdekiponccaaDoor.Pure
open Go.Proofs.YtojfdekiponccaaDoor.H
set_option linter.unusedVariables false
set_option linter.unusedSimpArgs false
theorem PF_succ (k lev : Nat) (st : ST) : PF (k + 1) lev st = stepF (PF k) k lev st := rfl
theorem step2 (R : Nat → ST → Rz) (k : Nat) (st : ST) : stepF R k 2 st =
    if seesF 14 st = true then bnd (R 2 (st.1.tail, st.2)) (putF 14)
    else if seesF 15 st = true then bnd (R 0 (st.1.tail, st.2)) (takeF 16)
    else bnd (R 3 st) fun s => match s.1 with
      | [] => some none
      | a :: r => if decide (6 ≤ a.f0 ∧ a.f0 ≤ 11) = true then bnd (R 3 (r, s.2)) (putF a.f0) else some none := rfl
theorem step5 (R : Nat → ST → Rz) (k : Nat) (st : ST) : stepF R k 5 st =
    match st.1 with
    | [] => some none
    | a :: r =>
      if a.f0 = 1 ∨ a.f0 = 2 then some (some (r, st.2 ++ [a]))
      else if a.f0 = 4 then bnd (R 5 (r, st.2)) (putF 19)
      else if a.f0 = 17 then bnd (R 3 (r, st.2)) (takeF 18)
      else some none := rfl
/-- A reading that came well out of st: one sign at least was read; no more signs lie there than before. -/
def Well (st : ST) (r : Option ST) : Prop := ∀ s, r = some s → s.1.length < st.1.length ∧ s.2.length + s.1.length ≤ st.2.length + st.1.length
theorem putF_ok (kind : Int) (st : ST) : putF kind st = some (some (st.1, st.2 ++ [(⟨kind, 0⟩ : S35)])) := rfl
theorem row_total (th : Nat → ST → Rz) (hm : ∀ k k' st r, k ≤ k' → th k st = some r → th k' st = some r) (ks : List Int) : ∀ (n : Nat) (st : ST), st.1.length ≤ n → True →
    (∀ s : ST, s.1.length < st.1.length → True → ∃ k r, th k s = some r ∧ Well s r) →
    ∃ k r, (∀ k', k ≤ k' → rowL (th k') ks k' st = some r) ∧ (∀ s, r = some s → s.1.length ≤ st.1.length ∧ s.2.length + s.1.length ≤ st.2.length + st.1.length) := by
  intro n
  induction n with
  | zero =>
    intro st h hs _
    obtain ⟨l, o⟩ := st
    obtain rfl : l = [] := List.eq_nil_of_length_eq_zero (by simpa using h)
    refine ⟨1, some ([], o), fun k' hk => ?_, fun s hs => ?_⟩
    · obtain ⟨k', rfl⟩ : ∃ m, k' = m + 1 := ⟨k' - 1, by omega⟩
      rfl
    · obtain rfl := Option.some.inj hs
      exact ⟨Nat.le_refl _, Nat.le_refl _⟩
  | succ n ih =>
    intro st h hs hth
    obtain ⟨l, o⟩ := st
    cases l with
    | nil =>
      refine ⟨1, some ([], o), fun k' hk => ?_, fun s hs => ?_⟩
      · obtain ⟨k', rfl⟩ : ∃ m, k' = m + 1 := ⟨k' - 1, by omega⟩
        rfl
      · obtain rfl := Option.some.inj hs
        exact ⟨Nat.le_refl _, Nat.le_refl _⟩
    | cons a l =>
      simp only [List.length_cons] at h
      by_cases hc : ks.contains a.f0 = true
      · obtain ⟨k1, r1, h1, w1⟩ := hth (l, o) (by simp) trivial
        cases r1 with
        | none =>
          refine ⟨k1 + 1, none, fun k' hk => ?_, fun s hs => by cases hs⟩
          obtain ⟨k', rfl⟩ : ∃ m, k' = m + 1 := ⟨k' - 1, by omega⟩
          simp only [rowL]
          rw [if_pos hc, bnd_mk_none (hm k1 _ _ _ (by omega) h1)]
        | some s1 =>
          obtain ⟨w1a, w1b⟩ := w1 s1 rfl
          dsimp only at w1a w1b
          obtain ⟨k2, r2, h2, w2⟩ := ih (s1.1, s1.2 ++ [(⟨a.f0, 0⟩ : S35)]) (by dsimp only; omega) trivial
            (fun s hs1 hs2 => hth s (by dsimp only at hs1 ⊢; rw [List.length_cons]; omega) hs2)
          refine ⟨k1 + k2 + 1, r2, fun k' hk => ?_, fun s hs => ?_⟩
          · obtain ⟨k', rfl⟩ : ∃ m, k' = m + 1 := ⟨k' - 1, by omega⟩
            simp only [rowL]
            rw [if_pos hc, bnd_mk (hm k1 _ _ _ (by omega) h1), putF_ok]
            show rowL (th (k' + 1)) ks k' _ = some r2
            exact rowL_mono (th k') (th (k' + 1)) ks (fun st r => hm k' (k' + 1) st r (by omega)) k' k' _ _ (Nat.le_refl _) (h2 k' (by omega))
          · obtain ⟨q1, q2⟩ := w2 s hs
            dsimp only at q1 q2
            rw [List.length_append] at q2
            simp only [List.length_cons, List.length_nil] at q2 ⊢
            omega
      · refine ⟨1, some (a :: l, o), fun k' hk => ?_, fun s hs => ?_⟩
        · obtain ⟨k', rfl⟩ : ∃ m, k' = m + 1 := ⟨k' - 1, by omega⟩
          simp only [rowL]
          rw [if_neg hc]
        · obtain rfl := Option.some.inj hs
          exact ⟨Nat.le_refl _, Nat.le_refl _⟩
theorem rowF_total (lev lev2 : Nat) (ks : List Int) (hstep : ∀ k st, PF (k + 1) lev st = rowF (PF k lev2) ks k st) (st : ST) (hs : True)
    (h0 : ∃ k r, PF k lev2 st = some r ∧ Well st r) (h1 : ∀ s : ST, s.1.length < st.1.length → True → ∃ k r, PF k lev2 s = some r ∧ Well s r) : ∃ k r, PF k lev st = some r ∧ Well st r := by
  obtain ⟨k1, r1, e1, w1⟩ := h0
  cases r1 with
  | none => exact ⟨k1 + 1, none, by rw [hstep]; exact bnd_mk_none e1, fun s hs => by cases hs⟩
  | some s1 =>
    obtain ⟨w1a, w1b⟩ := w1 s1 rfl
    obtain ⟨k2, r2, e2, w2⟩ := row_total (fun k => PF k lev2) (fun k k' st r hk h => PF_mono hk h) ks s1.1.length s1 (Nat.le_refl _) trivial (fun s hs1 hs2 => h1 s (by omega) hs2)
    refine ⟨k1 + k2 + 1, r2, ?_, fun s hs => ?_⟩
    · rw [hstep]
      unfold rowF
      rw [bnd_mk (PF_mono (by omega) e1)]
      exact e2 (k1 + k2) (by omega)
    · obtain ⟨q1, q2⟩ := w2 s hs
      exact ⟨by omega, by omega⟩
theorem PF_total : ∀ (m n lev : Nat) (st : ST), m = 6 * n + (5 - lev) → lev ≤ 5 → st.1.length = n → True → ∃ k r, PF k lev st = some r ∧ Well st r := by
  intro m
  induction m using Nat.strongRecOn with
  | _ m ih =>
    intro n lev st hm hl hn hs
    have up : ∀ lev2, lev < lev2 → lev2 ≤ 5 → ∃ k r, PF k lev2 st = some r ∧ Well st r := fun lev2 h1 h2 => ih (6 * n + (5 - lev2)) (by omega) n lev2 st rfl h2 hn hs
    have down : ∀ lev2, lev2 ≤ 5 → ∀ s : ST, s.1.length < st.1.length → True → ∃ k r, PF k lev2 s = some r ∧ Well s r :=
      fun lev2 h2 s h3 h4 => ih (6 * s.1.length + (5 - lev2)) (by omega) s.1.length lev2 s rfl h2 rfl h4
    rcases (by omega : lev = 0 ∨ lev = 1 ∨ lev = 2 ∨ lev = 3 ∨ lev = 4 ∨ lev = 5) with rfl | rfl | rfl | rfl | rfl | rfl
    · exact rowF_total 0 1 [13] (fun _ _ => rfl) st hs (up 1 (by omega) (by omega)) (down 1 (by omega))
    · exact rowF_total 1 2 [12] (fun _ _ => rfl) st hs (up 2 (by omega) (by omega)) (down 2 (by omega))
    · -- one
      obtain ⟨l, o⟩ := st
      have tail : ∀ (lev2 : Nat) (f : ST → Rz), lev2 ≤ 5 → l ≠ [] → (∀ s : ST, s.1.length < l.tail.length → s.2.length + s.1.length ≤ o.length + l.tail.length → ∃ r, f s = some r ∧ ∀ q, r = some q → q.1.length ≤ s.1.length ∧ q.2.length + q.1.length ≤ s.2.length + s.1.length + 1) →
          ∃ k r, bnd (PF k lev2 (l.tail, o)) f = some r ∧ Well (l, o) r := by
        intro lev2 f h2 hne hf
        cases l with
        | nil => exact absurd rfl hne
        | cons a l =>
          dsimp only [List.tail_cons] at hf ⊢
          obtain ⟨k1, r1, e1, w1⟩ := down lev2 h2 (l, o) (by simp) trivial
          cases r1 with
          | none => exact ⟨k1, none, bnd_mk_none e1, fun s hs => by cases hs⟩
          | some s1 =>
            obtain ⟨w1a, w1b⟩ := w1 s1 rfl
            dsimp only at w1a w1b
            obtain ⟨r, e2, w2⟩ := hf s1 w1a w1b
            refine ⟨k1, r, by rw [bnd_mk e1]; exact e2, fun s hs => ?_⟩
            obtain ⟨q1, q2⟩ := w2 s hs
            simp only [List.length_cons]
            exact ⟨by omega, by omega⟩
      have hput : ∀ kind (s : ST), ∃ r, putF kind s = some r ∧ ∀ q, r = some q → q.1.length ≤ s.1.length ∧ q.2.length + q.1.length ≤ s.2.length + s.1.length + 1 := by
        intro kind s
        refine ⟨some (s.1, s.2 ++ [(⟨kind, 0⟩ : S35)]), putF_ok kind s, fun q hq => ?_⟩
        obtain rfl := Option.some.inj hq
        dsimp only
        rw [List.length_append]
        simp only [List.length_cons, List.length_nil]
        omega
      have htake : ∀ kind (s : ST), ∃ r, takeF kind s = some r ∧ ∀ q, r = some q → q.1.length ≤ s.1.length ∧ q.2.length + q.1.length ≤ s.2.length + s.1.length + 1 := by
        intro kind s
        unfold takeF
        split
        · refine ⟨_, rfl, fun q hq => ?_⟩
          obtain rfl := Option.some.inj hq
          dsimp only
          rw [List.length_tail]
          omega
        · exact ⟨none, rfl, fun q hq => by cases hq⟩
      have hlt : l.tail.length ≤ l.length := by rw [List.length_tail]; omega
      by_cases c1 : seesF 14 (l, o) = true
      · obtain ⟨k, r, e, w⟩ := tail 2 (putF 14) (by omega) (by rintro rfl; cases c1) (fun s h1 h2 => hput 14 s)
        exact ⟨k + 1, r, by rw [PF_succ, step2, if_pos c1]; exact e, w⟩
      · by_cases c2 : seesF 15 (l, o) = true
        · obtain ⟨k, r, e, w⟩ := tail 0 (takeF 16) (by omega) (by rintro rfl; cases c2) (fun s h1 h2 => htake 16 s)
          exact ⟨k + 1, r, by rw [PF_succ, step2, if_neg c1, if_pos c2]; exact e, w⟩
        · obtain ⟨k1, r1, e1, w1⟩ := up 3 (by omega) (by omega)
          cases r1 with
          | none => exact ⟨k1 + 1, none, by rw [PF_succ, step2, if_neg c1, if_neg c2]; exact bnd_mk_none e1, fun s hs => by cases hs⟩
          | some s1 =>
            obtain ⟨w1a, w1b⟩ := w1 s1 rfl
            obtain ⟨l1, o1⟩ := s1
            dsimp only at w1a w1b
            cases l1 with
            | nil => exact ⟨k1 + 1, none, by rw [PF_succ, step2, if_neg c1, if_neg c2, bnd_mk e1], fun s hs => by cases hs⟩
            | cons a l1 =>
              simp only [List.length_cons] at w1a w1b
              by_cases c3 : decide (6 ≤ a.f0 ∧ a.f0 ≤ 11) = true
              · obtain ⟨k2, r2, e2, w2⟩ := down 3 (by omega) (l1, o1) (by dsimp only; omega) trivial
                cases r2 with
                | none =>
                  refine ⟨k1 + k2 + 1, none, ?_, fun s hs => by cases hs⟩
                  rw [PF_succ, step2, if_neg c1, if_neg c2, bnd_mk (PF_mono (by omega) e1)]
                  dsimp only
                  rw [if_pos c3, bnd_mk_none (PF_mono (by omega) e2)]
                | some s2 =>
                  obtain ⟨w2a, w2b⟩ := w2 s2 rfl
                  dsimp only at w2a w2b
                  refine ⟨k1 + k2 + 1, some (s2.1, s2.2 ++ [(⟨a.f0, 0⟩ : S35)]), ?_, fun s hs1 => ?_⟩
                  · rw [PF_succ, step2, if_neg c1, if_neg c2, bnd_mk (PF_mono (by omega) e1)]
                    dsimp only
                    rw [if_pos c3, bnd_mk (PF_mono (by omega) e2), putF_ok]
                  · obtain rfl := Option.some.inj hs1
                    dsimp only
                    rw [List.length_append]
                    simp only [List.length_cons, List.length_nil]
                    omega
              · exact ⟨k1 + 1, none, by rw [PF_succ, step2, if_neg c1, if_neg c2, bnd_mk e1]; dsimp only; rw [if_neg c3], fun s hs => by cases hs⟩
    · exact rowF_total 3 4 [3, 4] (fun _ _ => rfl) st hs (up 4 (by omega) (by omega)) (down 4 (by omega))
    · exact rowF_total 4 5 [5] (fun _ _ => rfl) st hs (up 5 (by omega) (by omega)) (down 5 (by omega))
    · -- factor
      obtain ⟨l, o⟩ := st
      cases l with
      | nil => exact ⟨1, none, rfl, fun s hs => by cases hs⟩
      | cons a l =>
        by_cases c1 : a.f0 = 1 ∨ a.f0 = 2
        · refine ⟨1, some (l, o ++ [a]), ?_, fun s hs1 => ?_⟩
          · rw [PF_succ, step5]
            dsimp only
            rw [if_pos c1]
          · obtain rfl := Option.some.inj hs1
            dsimp only
            rw [List.length_append]
            simp only [List.length_cons, List.length_nil]
            omega
        · by_cases c2 : a.f0 = 4
          · obtain ⟨k1, r1, e1, w1⟩ := down 5 (by omega) (l, o) (by simp) trivial
            cases r1 with
            | none => exact ⟨k1 + 1, none, by rw [PF_succ, step5]; dsimp only; rw [if_neg c1, if_pos c2, bnd_mk_none e1], fun s hs => by cases hs⟩
            | some s1 =>
              obtain ⟨w1a, w1b⟩ := w1 s1 rfl
              dsimp only at w1a w1b
              refine ⟨k1 + 1, some (s1.1, s1.2 ++ [(⟨19, 0⟩ : S35)]), ?_, fun s hs1 => ?_⟩
              · rw [PF_succ, step5]; dsimp only; rw [if_neg c1, if_pos c2, bnd_mk e1, putF_ok]
              · obtain rfl := Option.some.inj hs1
                dsimp only
                rw [List.length_append]
                simp only [List.length_cons, List.length_nil]
                omega
          · by_cases c3 : a.f0 = 17
            · obtain ⟨k1, r1, e1, w1⟩ := down 3 (by omega) (l, o) (by simp) trivial
              cases r1 with
              | none => exact ⟨k1 + 1, none, by rw [PF_succ, step5]; dsimp only; rw [if_neg c1, if_neg c2, if_pos c3, bnd_mk_none e1], fun s hs => by cases hs⟩
              | some s1 =>
                obtain ⟨w1a, w1b⟩ := w1 s1 rfl
                dsimp only at w1a w1b
                refine ⟨k1 + 1, if seesF 18 s1 = true then some (s1.1.tail, s1.2) else none, ?_, fun s hs1 => ?_⟩
                · rw [PF_succ, step5]; dsimp only; rw [if_neg c1, if_neg c2, if_pos c3, bnd_mk e1]
                  unfold takeF
                  split <;> rfl
                · split at hs1
                  · obtain rfl := Option.some.inj hs1
                    dsimp only
                    rw [List.length_tail]
                    simp only [List.length_cons]
                    omega
                  · cases hs1
            · exact ⟨1, none, by rw [PF_succ, step5]; dsimp only; rw [if_neg c1, if_neg c2, if_neg c3], fun s hs => by cases hs⟩
end Go.Proofs.YtojfdekiponccaaDoor.Pure
/- What stands behind a guard does not touch it; what lies there before, neither. -/
namespace Go.Proofs.YtojfdekiponccaaDoor.Pure
open Go.Proofs.YtojfdekiponccaaDoor.H
set_option linter.unusedVariables false
set_option linter.unusedSimpArgs false
theorem rowL_nil (th : ST → Rz) (ks : List Int) (k : Nat) (o : List S35) (r : Option ST) (h : rowL th ks k ([], o) = some r) : r = some ([], o) := by
  cases k with
  | zero => cases h
  | succ k => exact (Option.some.inj h).symm
theorem rowL_cons {th : ST → Rz} {ks : List Int} {k : Nat} {a : S35} {l o : List S35} {r : Option ST} (h : rowL th ks (k + 1) (a :: l, o) = some r) :
    (ks.contains a.f0 = false ∧ r = some (a :: l, o)) ∨ (ks.contains a.f0 = true ∧ ((th (l, o) = some none ∧ r = none) ∨ ∃ l1 o1, th (l, o) = some (some (l1, o1)) ∧ rowL th ks k (l1, o1 ++ [(⟨a.f0, 0⟩ : S35)]) = some r)) := by
  simp only [rowL] at h
  split at h
  · rename_i hc
    refine .inr ⟨hc, ?_⟩
    rcases bnd_some h with ⟨h1, rfl⟩ | ⟨s, h1, h2⟩
    · exact .inl ⟨h1, rfl⟩
    · obtain ⟨l1, o1⟩ := s
      exact .inr ⟨l1, o1, h1, h2⟩
  · rename_i hc
    exact .inl ⟨by simpa using hc, (Option.some.inj h).symm⟩
theorem rowL_go {th : ST → Rz} {ks : List Int} {k : Nat} {a : S35} {l o : List S35} (hc : ks.contains a.f0 = true) {l1 o1 : List S35} (h : th (l, o) = some (some (l1, o1))) : rowL th ks (k + 1) (a :: l, o) = rowL th ks k (l1, o1 ++ [(⟨a.f0, 0⟩ : S35)]) := by
  simp only [rowL]
  rw [if_pos hc, bnd_mk h]
  rfl
theorem rowL_stop {th : ST → Rz} {ks : List Int} {k : Nat} {a : S35} {l o : List S35} (hc : ks.contains a.f0 = false) : rowL th ks (k + 1) (a :: l, o) = some (some (a :: l, o)) := by
  simp only [rowL]
  rw [if_neg (by rw [hc]; decide)]
theorem rowF_some {th : ST → Rz} {ks : List Int} {k : Nat} {st : ST} {r : Option ST} (h : rowF th ks k st = some r) : (th st = some none ∧ r = none) ∨ ∃ l1 o1, th st = some (some (l1, o1)) ∧ rowL th ks k (l1, o1) = some r := by
  rcases bnd_some h with ⟨h1, rfl⟩ | ⟨s, h1, h2⟩
  · exact .inl ⟨h1, rfl⟩
  · obtain ⟨l1, o1⟩ := s
    exact .inr ⟨l1, o1, h1, h2⟩
theorem rowF_mk {th : ST → Rz} {ks : List Int} {k : Nat} {st : ST} {l1 o1 : List S35} (h : th st = some (some (l1, o1))) : rowF th ks k st = rowL th ks k (l1, o1) := bnd_mk h
def OKc (lev : Nat) (x : Int) : Prop := (lev ≤ 0 → x ≠ 13) ∧ (lev ≤ 1 → x ≠ 12) ∧ (lev ≤ 3 → x ≠ 3 ∧ x ≠ 4) ∧ (lev ≤ 4 → x ≠ 5)
theorem OKc.up {lev lev2 : Nat} {x : Int} (h : OKc lev x) (hl : lev ≤ lev2) : OKc lev2 x := ⟨fun q => h.1 (by omega), fun q => h.2.1 (by omega), fun q => h.2.2.1 (by omega), fun q => h.2.2.2 (by omega)⟩
/-- What lies there before stays ahead. -/
def ahead (p : List S35) (r : Option ST) : Option ST := r.map fun s => (s.1, p ++ s.2)
theorem acc_row {th : ST → Rz} {ks : List Int} (p : List S35) (hth : ∀ l o r, th (l, o) = some r → th (l, p ++ o) = some (ahead p r)) :
    ∀ (k : Nat) (l o : List S35) (r : Option ST), rowL th ks k (l, o) = some r → rowL th ks k (l, p ++ o) = some (ahead p r)
  | 0, _, _, _, h => by cases h
  | k + 1, [], o, r, h => by
    obtain rfl := rowL_nil _ _ _ _ _ h
    rfl
  | k + 1, a :: l, o, r, h => by
    rcases rowL_cons h with ⟨hc, rfl⟩ | ⟨hc, ⟨h0, rfl⟩ | ⟨l1, o1, h1, h2⟩⟩
    · exact rowL_stop hc
    · simp only [rowL]
      rw [if_pos hc, bnd_mk_none (hth _ _ _ h0)]
      rfl
    · rw [rowL_go hc (hth _ _ _ h1), List.append_assoc]
      exact acc_row p hth k l1 _ r h2
theorem acc (p : List S35) : ∀ (k lev : Nat) (l o : List S35) (r : Option ST), PF k lev (l, o) = some r → PF k lev (l, p ++ o) = some (ahead p r)
  | 0, _, _, _, _, h => by cases h
  | k + 1, lev, l, o, r, h => by
    have ih := acc p k
    have row : ∀ lev2 ks, rowF (PF k lev2) ks k (l, o) = some r → rowF (PF k lev2) ks k (l, p ++ o) = some (ahead p r) := by
      intro lev2 ks h
      rcases rowF_some h with ⟨h1, rfl⟩ | ⟨l1, o1, h1, h2⟩
      · exact bnd_mk_none (ih _ _ _ _ h1)
      · rw [rowF_mk (ih _ _ _ _ h1)]
        exact acc_row p (fun l o r q => ih lev2 l o r q) k l1 o1 r h2
    have put : ∀ lev2 l kind, bnd (PF k lev2 (l, o)) (putF kind) = some r → bnd (PF k lev2 (l, p ++ o)) (putF kind) = some (ahead p r) := by
      intro lev2 l kind h
      rcases bnd_some h with ⟨h1, rfl⟩ | ⟨⟨l1, o1⟩, h1, h2⟩
      · exact bnd_mk_none (ih _ _ _ _ h1)
      · rw [bnd_mk (ih _ _ _ _ h1)]
        obtain rfl := Option.some.inj h2
        show some (some (l1, (p ++ o1) ++ [_])) = _
        rw [List.append_assoc]
        rfl
    have take : ∀ lev2 l kind, bnd (PF k lev2 (l, o)) (takeF kind) = some r → bnd (PF k lev2 (l, p ++ o)) (takeF kind) = some (ahead p r) := by
      intro lev2 l kind h
      rcases bnd_some h with ⟨h1, rfl⟩ | ⟨⟨l1, o1⟩, h1, h2⟩
      · exact bnd_mk_none (ih _ _ _ _ h1)
      · rw [bnd_mk (ih _ _ _ _ h1)]
        unfold takeF at h2
        show takeF kind (l1, p ++ o1) = _
        unfold takeF
        split at h2
        · rename_i q
          rw [if_pos (show seesF kind (l1, p ++ o1) = true from q)]
          obtain rfl := Option.some.inj h2
          rfl
        · rename_i q
          rw [if_neg (show ¬ seesF kind (l1, p ++ o1) = true from q)]
          obtain rfl := Option.some.inj h2
          rfl
    have hs : ∀ kind, seesF kind (l, p ++ o) = seesF kind (l, o) := fun _ => rfl
    rw [PF_succ] at h ⊢
    unfold stepF at h ⊢
    split at h
    · rename_i q; rw [if_pos q]; exact row _ _ h
    · rename_i q; rw [if_neg q]
      split at h
      · rename_i q; rw [if_pos q]; exact row _ _ h
      · rename_i q; rw [if_neg q]
        split at h
        · rename_i q; rw [if_pos q, hs, hs]
          split at h
          · rename_i q; rw [if_pos q]; exact put _ _ _ h
          · rename_i q; rw [if_neg q]
            split at h
            · rename_i q; rw [if_pos q]; exact take _ _ _ h
            · rename_i q; rw [if_neg q]
              rcases bnd_some h with ⟨h1, rfl⟩ | ⟨⟨l1, o1⟩, h1, h2⟩
              · exact bnd_mk_none (ih _ _ _ _ h1)
              · rw [bnd_mk (ih _ _ _ _ h1)]
                cases l1 with
                | nil => obtain rfl := Option.some.inj h2; rfl
                | cons a l1 =>
                  dsimp only at h2
                  show (if decide (6 ≤ a.f0 ∧ a.f0 ≤ 11) = true then bnd (PF k 3 (l1, p ++ o1)) (putF a.f0) else some none) = _
                  split at h2
                  · rename_i q
                    rw [if_pos q]
                    rcases bnd_some h2 with ⟨h3, rfl⟩ | ⟨⟨l2, o2⟩, h3, h4⟩
                    · exact bnd_mk_none (ih _ _ _ _ h3)
                    · rw [bnd_mk (ih _ _ _ _ h3)]
                      obtain rfl := Option.some.inj h4
                      show some (some (l2, (p ++ o2) ++ [_])) = _
                      rw [List.append_assoc]
                      rfl
                  · rename_i q
                    rw [if_neg q]
                    obtain rfl := Option.some.inj h2
                    rfl
        · rename_i q; rw [if_neg q]
          split at h
          · rename_i q; rw [if_pos q]; exact row _ _ h
          · rename_i q; rw [if_neg q]
            split at h
            · rename_i q; rw [if_pos q]; exact row _ _ h
            · rename_i q; rw [if_neg q]
              cases l with
              | nil => obtain rfl := Option.some.inj h; rfl
              | cons a l =>
                dsimp only at h ⊢
                split at h
                · rename_i q
                  rw [if_pos q]
                  obtain rfl := Option.some.inj h
                  show some (some (l, (p ++ o) ++ [a])) = _
                  rw [List.append_assoc]
                  rfl
                · rename_i q
                  rw [if_neg q]
                  split at h
                  · rename_i q; rw [if_pos q]; exact put _ _ _ h
                  · rename_i q
                    rw [if_neg q]
                    split at h
                    · rename_i q; rw [if_pos q]; exact take _ _ _ h
                    · rename_i q
                      rw [if_neg q]
                      obtain rfl := Option.some.inj h
                      rfl
end Go.Proofs.YtojfdekiponccaaDoor.Pure
/- Guards in brackets, turned, joined. -/
namespace Go.Proofs.YtojfdekiponccaaDoor.Pure
open Go.Proofs.YtojfdekiponccaaDoor.H
set_option linter.unusedVariables false
set_option linter.unusedSimpArgs false
/-- The signs are a guard, and this is how it lies behind. -/
def Guard (x o : List S35) : Prop := ∃ k, PF k 0 (x, []) = some (some ([], o))
/-- With ! ahead. -/
theorem nt {l p t q : List S35} (n : Int) (h : ∃ k, PF k 2 (l, p) = some (some (t, q))) : ∃ k, PF k 2 ((⟨14, n⟩ : S35) :: l, p) = some (some (t, q ++ [(⟨14, 0⟩ : S35)])) := by
  obtain ⟨k, hk⟩ := h
  refine ⟨k + 1, ?_⟩
  rw [PF_succ, step2, if_pos (show seesF 14 _ = true by show ((14 : Int) == 14) = true; decide)]
  show bnd (PF k 2 (l, p)) (putF 14) = _
  rw [bnd_mk hk]
  rfl
end Go.Proofs.YtojfdekiponccaaDoor.Pure
/- What the reader lays behind is a guard, behind. -/
namespace Go.Proofs.YtojfdekiponccaaDoor.Pure
open Go.Proofs.YtojfdekiponccaaDoor.H
set_option linter.unusedVariables false
set_option linter.unusedSimpArgs false
/-- A guard (true), or a number (false), behind. -/
inductive Post : Bool → List S35 → Prop
  | num (n : Int) : 0 ≤ n → n ≤ 2147483647 → Post false [⟨1, n⟩]
  | name (n : Int) : 0 ≤ n → n < 26 → Post false [⟨2, n⟩]
  | neg {p} : Post false p → Post false (p ++ [⟨19, 0⟩])
  | op {p q} (k : Int) : 3 ≤ k → k ≤ 5 → Post false p → Post false q → Post false (p ++ q ++ [⟨k, 0⟩])
  | cmp {p q} (k : Int) : 6 ≤ k → k ≤ 11 → Post false p → Post false q → Post true (p ++ q ++ [⟨k, 0⟩])
  | con {p q} (k : Int) : (k = 12 ∨ k = 13) → Post true p → Post true q → Post true (p ++ q ++ [⟨k, 0⟩])
  | nt {p} : Post true p → Post true (p ++ [⟨14, 0⟩])
/-- What a sign that is read may be. -/
def tok (s : S35) : Prop := (s.f0 = 1 → 0 ≤ s.f1 ∧ s.f1 ≤ 2147483647) ∧ (s.f0 = 2 → 0 ≤ s.f1 ∧ s.f1 ≤ 25)
def Lays (b : Bool) (th : ST → Rz) : Prop := ∀ l o l' o', (∀ s ∈ l, tok s) → th (l, o) = some (some (l', o')) → (∀ s ∈ l', tok s) ∧ ∃ p, Post b p ∧ o' = o ++ p
theorem lays_row {b : Bool} {th : ST → Rz} {ks : List Int} (hth : Lays b th) (hop : ∀ k, ks.contains k = true → ∀ p q, Post b p → Post b q → Post b (p ++ q ++ [⟨k, 0⟩])) :
    ∀ (k : Nat) (l o p l' o' : List S35), (∀ s ∈ l, tok s) → Post b p → rowL th ks k (l, o ++ p) = some (some (l', o')) → (∀ s ∈ l', tok s) ∧ ∃ p, Post b p ∧ o' = o ++ p
  | 0, _, _, _, _, _, _, _, h => by cases h
  | k + 1, [], o, p, l', o', ht, hp, h => by
    obtain ⟨rfl, rfl⟩ := Prod.mk.inj (Option.some.inj (rowL_nil _ _ _ _ _ h))
    exact ⟨ht, p, hp, rfl⟩
  | k + 1, a :: l, o, p, l', o', ht, hp, h => by
    rcases rowL_cons h with ⟨hc, h1⟩ | ⟨hc, ⟨_, h1⟩ | ⟨l1, o1, h1, h2⟩⟩
    · obtain ⟨rfl, rfl⟩ := Prod.mk.inj (Option.some.inj h1)
      exact ⟨ht, p, hp, rfl⟩
    · cases h1
    · obtain ⟨ht1, q, hq, rfl⟩ := hth _ _ _ _ (fun s hs => ht s (by simp [hs])) h1
      have e : o ++ p ++ q ++ [(⟨a.f0, 0⟩ : S35)] = o ++ (p ++ q ++ [(⟨a.f0, 0⟩ : S35)]) := by simp
      rw [e] at h2
      exact lays_row hth hop k l1 o _ l' o' ht1 (hop _ hc _ _ hp hq) h2
theorem lays_rowF {b : Bool} {th : ST → Rz} {ks : List Int} (hth : Lays b th) (hop : ∀ k, ks.contains k = true → ∀ p q, Post b p → Post b q → Post b (p ++ q ++ [⟨k, 0⟩])) (k : Nat) : Lays b (rowF th ks k) := by
  intro l o l' o' ht h
  rcases rowF_some h with ⟨_, h2⟩ | ⟨l1, o1, h1, h2⟩
  · cases h2
  · obtain ⟨ht1, p, hp, rfl⟩ := hth _ _ _ _ ht h1
    exact lays_row hth hop k l1 o p l' o' ht1 hp h2
theorem lays : ∀ (k lev : Nat), Lays (decide (lev ≤ 2)) (PF k lev)
  | 0, _ => fun _ _ _ _ _ h => by cases h
  | k + 1, lev => by
    intro l o l' o' ht h
    have ih := lays k
    rw [PF_succ] at h
    unfold stepF at h
    have htl : ∀ {a : S35} {t : List S35}, l = a :: t → ∀ s ∈ t, tok s := by
      rintro a t rfl s hs
      exact ht s (by simp [hs])
    have htt : ∀ s ∈ l.tail, tok s := fun s hs => ht s (List.mem_of_mem_tail hs)
    by_cases c0 : lev = 0
    · subst c0
      rw [if_pos rfl] at h
      exact lays_rowF (b := true) (ih 1) (fun k hk p q hp hq => by have e : k = 13 := by simpa using hk
                                                                   exact Post.con k (Or.inr e) hp hq) k l o l' o' ht h
    · rw [if_neg c0] at h
      by_cases c1 : lev = 1
      · subst c1
        rw [if_pos rfl] at h
        exact lays_rowF (b := true) (ih 2) (fun k hk p q hp hq => by have e : k = 12 := by simpa using hk
                                                                     exact Post.con k (Or.inl e) hp hq) k l o l' o' ht h
      · rw [if_neg c1] at h
        by_cases c2 : lev = 2
        · subst c2
          rw [if_pos rfl] at h
          dsimp only at h
          split at h
          · rcases bnd_some h with ⟨_, h2⟩ | ⟨⟨l1, o1⟩, h1, h2⟩
            · cases h2
            · obtain ⟨rfl, rfl⟩ := Prod.mk.inj (Option.some.inj (Option.some.inj h2))
              obtain ⟨ht1, p, hp, rfl⟩ := ih 2 _ _ _ _ htt h1
              exact ⟨ht1, _, Post.nt hp, by simp⟩
          · split at h
            · rcases bnd_some h with ⟨_, h2⟩ | ⟨⟨l1, o1⟩, h1, h2⟩
              · cases h2
              · obtain ⟨ht1, p, hp, rfl⟩ := ih 0 _ _ _ _ htt h1
                unfold takeF at h2
                split at h2
                · obtain ⟨rfl, rfl⟩ := Prod.mk.inj (Option.some.inj (Option.some.inj h2))
                  exact ⟨fun s hs => ht1 s (List.mem_of_mem_tail hs), p, hp, rfl⟩
                · cases h2
            · rcases bnd_some h with ⟨_, h2⟩ | ⟨⟨l1, o1⟩, h1, h2⟩
              · cases h2
              · obtain ⟨ht1, p, hp, rfl⟩ := ih 3 _ _ _ _ ht h1
                cases l1 with
                | nil => cases h2
                | cons a l1 =>
                  dsimp only at h2
                  split at h2
                  · rename_i q
                    rcases bnd_some h2 with ⟨_, h3⟩ | ⟨⟨l2, o2⟩, h3, h4⟩
                    · cases h3
                    · obtain ⟨rfl, rfl⟩ := Prod.mk.inj (Option.some.inj (Option.some.inj h4))
                      obtain ⟨ht2, p2, hp2, rfl⟩ := ih 3 _ _ _ _ (fun s hs => ht1 s (by simp [hs])) h3
                      have q2 := of_decide_eq_true q
                      exact ⟨ht2, _, Post.cmp a.f0 q2.1 q2.2 hp hp2, by simp⟩
                  · cases h2
        · rw [if_neg c2] at h
          by_cases c3 : lev = 3
          · subst c3
            rw [if_pos rfl] at h
            exact lays_rowF (b := false) (ih 4) (fun k hk p q hp hq => by have e : k = 3 ∨ k = 4 := by simpa using hk
                                                                          exact Post.op k (by omega) (by omega) hp hq) k l o l' o' ht h
          · rw [if_neg c3] at h
            by_cases c4 : lev = 4
            · subst c4
              rw [if_pos rfl] at h
              exact lays_rowF (b := false) (ih 5) (fun k hk p q hp hq => by have e : k = 5 := by simpa using hk
                                                                            exact Post.op k (by omega) (by omega) hp hq) k l o l' o' ht h
            · rw [if_neg c4] at h
              have hd : decide (lev ≤ 2) = false := decide_eq_false (by omega)
              rw [hd]
              cases l with
              | nil => cases h
              | cons a l =>
                dsimp only at h
                have hta := ht a (by simp)
                split at h
                · rename_i q
                  obtain ⟨rfl, rfl⟩ := Prod.mk.inj (Option.some.inj (Option.some.inj h))
                  refine ⟨htl rfl, [a], ?_, rfl⟩
                  obtain ⟨a0, a1⟩ := a
                  rcases q with q | q
                  · obtain rfl : a0 = 1 := q
                    exact Post.num _ (hta.1 rfl).1 (hta.1 rfl).2
                  · obtain rfl : a0 = 2 := q
                    exact Post.name _ (hta.2 rfl).1 (by have := (hta.2 rfl).2; show a1 < 26; have e : (a1 : Int) ≤ 25 := this; omega)
                · split at h
                  · rcases bnd_some h with ⟨_, h2⟩ | ⟨⟨l1, o1⟩, h1, h2⟩
                    · cases h2
                    · obtain ⟨rfl, rfl⟩ := Prod.mk.inj (Option.some.inj (Option.some.inj h2))
                      obtain ⟨ht1, p, hp, rfl⟩ := ih 5 _ _ _ _ (htl rfl) h1
                      exact ⟨ht1, _, Post.neg hp, by simp⟩
                  · split at h
                    · rcases bnd_some h with ⟨_, h2⟩ | ⟨⟨l1, o1⟩, h1, h2⟩
                      · cases h2
                      · obtain ⟨ht1, p, hp, rfl⟩ := ih 3 _ _ _ _ (htl rfl) h1
                        unfold takeF at h2
                        split at h2
                        · obtain ⟨rfl, rfl⟩ := Prod.mk.inj (Option.some.inj (Option.some.inj h2))
                          exact ⟨fun s hs => ht1 s (List.mem_of_mem_tail hs), p, hp, rfl⟩
                        · cases h2
                    · cases h
theorem guard_post {x o : List S35} (hx : ∀ s ∈ x, tok s) (h : Guard x o) : Post true o := by
  obtain ⟨k, hk⟩ := h
  obtain ⟨_, p, hp, rfl⟩ := lays k 0 _ _ _ _ hx hk
  exact hp
end Go.Proofs.YtojfdekiponccaaDoor.Pure
