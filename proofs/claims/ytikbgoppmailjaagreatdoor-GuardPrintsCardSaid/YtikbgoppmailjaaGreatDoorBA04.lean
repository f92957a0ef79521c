/- Parts of the proof of LawGuardPrints: words, contracts of the functions, plain laws. -/
import Derived.Test.YtikbgoppmailjaaGreatDoorBA02
import Derived.Test.YtikbgoppmailjaaGreatDoorBA03
import Derived.Deep.RegionHeld3
/- guard.Good, as a plain function; the signs it takes are those that lie behind a guard. -/
namespace Go.Proofs.YtikbgoppmailjaaGreatDoor.Pure
open Go.RowKit Go.Proofs.YtikbgoppmailjaaGreatDoor.H Go.Proofs.YtikbgoppmailjaaGreatDoorW.PrintWords Go.Proofs.YtikbgoppmailjaaGreatDoorW.PrintLast Go.Proofs.YtikbgoppmailjaaGreatDoorW.PrintMore
set_option linter.unusedVariables false
set_option linter.unusedSimpArgs false
def tk (a n : Int) : Int × Bool × Bool :=
  if a = 1 then (if 0 ≤ n ∧ n ≤ 2147483647 then (0, false, false) else (-1, false, false))
  else if a = 2 then (if 0 ≤ n ∧ n < 26 then (0, false, false) else (-1, false, false))
  else if n ≠ 0 then (-1, false, false)
  else if a = 19 then (1, false, false)
  else if a = 3 ∨ a = 4 ∨ a = 5 then (2, false, false)
  else if 6 ≤ a ∧ a ≤ 11 then (2, false, true)
  else if a = 12 ∨ a = 13 then (2, true, true)
  else if a = 14 then (1, true, true) else (-1, false, false)
theorem takes_tk (k : Nat) (a n : Int) : guard_takes.f (k + 6) a n = some (tk a n) := by
 unfold guard_takes.f tk
 by_cases h1 : a = 1
 ·subst h1
  rw [if_pos rfl, if_pos rfl]
  by_cases h2 : n ≥ 0
  ·rw [if_pos h2]
   by_cases h3 : n ≤ 2147483647
   ·rw [decide_eq_true h3, if_pos ⟨h2, h3⟩]
    rfl
   ·rw [decide_eq_false h3, if_neg (fun q => h3 q.2)]
    rfl
  ·rw [if_neg h2, if_neg (fun q => h2 q.1)]
   rfl
 ·rw [if_neg h1, if_neg h1]
  by_cases h2 : a = 2
  ·subst h2
   rw [if_pos rfl]
   have e : guard_takes.j0 (k + 6) false 2 n = if n ≥ 0 then guard_takes.j1 (k + 5) (decide (n < 26)) 2 n else guard_takes.j1 (k + 5) false 2 n := rfl
   rw [e]
   by_cases h3 : n ≥ 0
   ·rw [if_pos h3]
    by_cases h4 : n < 26
    ·rw [if_pos ⟨h3, h4⟩, decide_eq_true h4]
     rfl
    ·rw [if_neg (fun q => h4 q.2), decide_eq_false h4]
     rfl
   ·rw [if_neg h3, if_neg (fun q => h3 q.1)]
    rfl
  ·rw [if_neg h2]
   have e0 : guard_takes.j0 (k + 6) false a n = if a = 2 then (if n ≥ 0 then guard_takes.j1 (k + 5) (decide (n < 26)) a n else guard_takes.j1 (k + 5) false a n) else guard_takes.j1 (k + 5) false a n := rfl
   have e1 : guard_takes.j1 (k + 5) false a n = if a = 1 then guard_takes.j2 (k + 4) (a == 1) a n else if a = 2 then guard_takes.j2 (k + 4) (a == 2) a n else guard_takes.j2 (k + 4) (n != 0) a n := rfl
   rw [e0, if_neg h2, e1, if_neg h1, if_neg h2]
   by_cases h3 : n = 0
   ·rw [if_neg (fun q => q h3)]
    simp only [guard_takes.j2]
    rw [if_neg (by simp [h3])]
    by_cases h4 : a = 19
    ·rw [if_pos h4, if_pos h4]
    ·rw [if_neg h4, if_neg h4]
     unfold guard_sums.f
     by_cases h5 : a = 3
     ·subst h5
      rfl
     ·rw [if_neg h5]
      simp only [Option.bind_some]
      by_cases h6 : a = 4
      ·subst h6
       rfl
      ·rw [if_neg (by simp [h6])]
       simp only [guard_takes.j3]
       by_cases h7 : a = 5
       ·subst h7
        rfl
       ·rw [if_neg (show ¬ ((a == 5) = true) by simp [h7]), if_neg (show ¬ (a = 3 ∨ a = 4 ∨ a = 5) by omega)]
        unfold guard_compares.f
        by_cases h8 : 6 ≤ a ∧ a ≤ 11
        ·rw [if_pos h8.1, if_pos h8, decide_eq_true h8.2]
         rfl
        ·rw [if_neg h8]
         have e : (if a ≥ 6 then (some (decide (a ≤ 11))) else (some false)) = some false := by
          split
          ·rw [decide_eq_false (by omega)]
          ·rfl
         rw [e]
         simp only [Option.bind_some]
         rw [if_neg (by decide)]
         by_cases h9 : a = 12
         ·subst h9
          rfl
         ·rw [if_neg h9]
          simp only [guard_takes.j4]
          by_cases h10 : a = 13
          ·subst h10
           rfl
          ·rw [if_neg (show ¬ ((a == 13) = true) by simp [h10]), if_neg (show ¬ (a = 12 ∨ a = 13) by omega)]
           split <;> rfl
   ·rw [if_pos h3]
    simp only [guard_takes.j2]
    rw [if_pos (by simp [h3])]
theorem idx_loop (x : List Bool) (b : Bool) (hx : x.length ≤ 1000000) : ∀ (d k i : Nat), i + d = x.length → d < k → ∃ z : Int, slices_Index_bool_bool.l0 k x b (x.length : Int) (i : Int) = some z ∧ decide (z ≥ 0) = (x.drop i).contains b
  | _, 0, _, _, hk => by omega
  | 0, k + 1, i, h, _ => by
    obtain rfl : i = x.length := by omega
    refine ⟨-1, ?_, ?_⟩
    · simp only [slices_Index_bool_bool.l0]
      rw [if_neg (by omega)]
    · rw [List.drop_length]
      rfl
  | d + 1, k + 1, i, h, hk => by
    have hi : i < x.length := by omega
    have e : rdOf false x (i : Int) = x[i] := by
      unfold rdOf
      rw [Int.toNat_natCast, List.getD_eq_getElem?_getD, List.getElem?_eq_getElem hi]
      rfl
    simp only [slices_Index_bool_bool.l0]
    rw [if_pos (by omega), if_pos (by omega), if_pos (by omega), e, List.drop_eq_getElem_cons hi]
    by_cases hb : (b == x[i]) = true
    · rw [if_pos hb]
      refine ⟨_, rfl, ?_⟩
      rw [decide_eq_true (by omega), List.contains_cons, hb]
      rfl
    · rw [if_neg hb]
      have w1 : wrap64 ((i : Int) + 1) = ((i + 1 : Nat) : Int) := by unfold wrap64; omega
      rw [w1]
      obtain ⟨z, h1, h2⟩ := idx_loop x b hx d k (i + 1) (by omega) (by omega)
      refine ⟨z, h1, ?_⟩
      rw [h2, List.contains_cons, Bool.eq_false_iff.2 hb]
      rfl
theorem contains_list (x : List Bool) (b : Bool) (hx : x.length ≤ 1000000) (k : Nat) (hk : x.length < k) : slices_Contains_bool_bool.f k x b = some (x.contains b) := by
  obtain ⟨z, h1, h2⟩ := idx_loop x b hx x.length k 0 (by omega) hk
  unfold slices_Contains_bool_bool.f slices_Index_bool_bool.f
  have h1' : slices_Index_bool_bool.l0 k x b (x.length : Int) 0 = some z := h1
  rw [h1']
  simp only [Option.bind_some]
  rw [h2]
  rfl
/-- Good, over what lies there (the last one ahead). -/
def goS : List S39 → List Bool → Bool
  | [], st => st == [true]
  | s :: l, st => if (tk s.f0 s.f1).1 < 0 ∨ (st.length : Int) < (tk s.f0 s.f1).1 then false else
      if (st.take (tk s.f0 s.f1).1.toNat).contains (!(tk s.f0 s.f1).2.1) = true then false else goS l ((tk s.f0 s.f1).2.2 :: st.drop (tk s.f0 s.f1).1.toNat)
theorem tk_le (a n : Int) : (tk a n).1 ≤ 2 := by
  unfold tk
  repeat' split
  all_goals (first | (show (0 : Int) ≤ 2; decide) | (show (-1 : Int) ≤ 2; decide) | (show (1 : Int) ≤ 2; decide) | (show (2 : Int) ≤ 2; decide))
set_option maxHeartbeats 1600000 in
theorem good_loop (l : List S39) (hl : l.length ≤ 100000) : ∀ (d i : Nat) (st : List Bool) (k : Nat), i + d = l.length → st.length ≤ i → 2 * d + 10 ≤ k → guard_Good.l0 k st.reverse l (l.length : Int) (i : Int) = some (goS (l.drop i) st)
 | 0, i, st, 0, _, _, hk => by omega
 | 0, i, st, k + 1, h, hs, hk => by
  obtain rfl : i = l.length := by omega
  simp only [guard_Good.l0]
  rw [if_neg (by omega), List.drop_length, List.length_reverse]
  match st with
  | [] => rfl
  | [b] => cases b <;> rfl
  | a :: b :: st =>
   rw [if_neg (by simp only [List.length_cons]; omega)]
   simp [goS]
 | d + 1, i, st, 0, _, _, hk => by omega
 | d + 1, i, st, 1, _, _, hk => by omega
 | d + 1, i, st, k + 2, h, hs, hk => by
  have hi : i < l.length := by omega
  have e : rd_T39 l (i : Int) = l[i] := by
   unfold rd_T39
   rw [Int.toNat_natCast, List.getD_eq_getElem?_getD, List.getElem?_eq_getElem hi]
   rfl
  obtain ⟨k6, rfl⟩ : ∃ k6, k = k6 + 5 := ⟨k - 5, by omega⟩
  have hfu : 2 * d + 10 ≤ k6 + 5 := by omega
  have hid : i + 1 + d = l.length := by omega
  have hst0 : ∀ m, (st.drop m).length + 1 ≤ i + 1 := fun m => by rw [List.length_drop]; exact Nat.succ_le_succ (Nat.le_trans (Nat.sub_le _ _) hs)
  have hsl : st.length ≤ 100000 := by omega
  have hsd : ∀ m, (st.drop m).reverse.length < 140737488355328 := fun m => by rw [List.length_reverse, List.length_drop]; omega
  have hw2 : wrap64 ((i : Int) + 1) = ((i + 1 : Nat) : Int) := by unfold wrap64; omega
  clear hk
  rw [List.drop_eq_getElem_cons hi]
  simp only [guard_Good.l0, goS]
  rw [if_pos (by omega), if_pos (by omega), if_pos (by omega), e, takes_tk k6]
  simp only [Option.bind_some]
  have h2 := tk_le l[i].f0 l[i].f1
  generalize tk l[i].f0 l[i].f1 = q at *
  obtain ⟨c, tr, is⟩ := q
  dsimp only at *
  by_cases hc : c < 0
  ·rw [if_pos hc, if_pos (Or.inl hc)]
   simp only [guard_Good.j1]
   rfl
  ·rw [if_neg hc, List.length_reverse]
   simp only [guard_Good.j1]
   by_cases hc2 : (st.length : Int) < c
   ·rw [decide_eq_true hc2, if_pos (Or.inr hc2)]
    rfl
   ·have w1 : wrap64 ((st.length : Int) - c) = ((st.length - c.toNat : Nat) : Int) := by unfold wrap64; omega
    rw [decide_eq_false hc2, if_neg (by decide), if_neg (show ¬ (c < 0 ∨ (st.length : Int) < c) by omega)]
    simp only [List.length_reverse]
    rw [w1, if_pos (by omega), if_pos (by omega), Int.toNat_natCast, List.drop_reverse, List.take_reverse]
    have e1 : st.length - (st.length - c.toNat) = c.toNat := by omega
    rw [e1, contains_list _ _ (by rw [List.length_reverse, List.length_take]; omega) _ (by rw [List.length_reverse, List.length_take]; omega)]
    simp only [Option.bind_some, List.contains_reverse]
    split
    ·rfl
    ·rw [if_pos (hsd _)]
     have e2 : (st.drop c.toNat).reverse ++ [is] = (is :: st.drop c.toNat).reverse := by simp
     rw [hw2, e2]
     exact good_loop l hl d (i + 1) (is :: st.drop c.toNat) (k6 + 5) hid (by rw [List.length_cons]; exact hst0 _) hfu
theorem good_goS (l : List S39) (hl : l.length ≤ 100000) (k : Nat) (hk : 2 * l.length + 10 ≤ k) : guard_Good.f k l = some (goS l []) := by
  have := good_loop l hl l.length 0 [] k (by omega) (Nat.le_refl _) hk
  rw [List.reverse_nil, List.drop_zero] at this
  unfold guard_Good.f
  exact this
end Go.Proofs.YtikbgoppmailjaaGreatDoor.Pure
/- What signs are read. -/
namespace Go.Proofs.YtikbgoppmailjaaGreatDoor.Pure
open Go.RowKit Go.Proofs.YtikbgoppmailjaaGreatDoor.H Go.Proofs.YtikbgoppmailjaaGreatDoorW.PrintWords Go.Proofs.YtikbgoppmailjaaGreatDoorW.PrintLast Go.Proofs.YtikbgoppmailjaaGreatDoorW.PrintMore
set_option linter.unusedVariables false
set_option linter.unusedSimpArgs false
theorem snoc_tok (x : List S39) (s : S39) (hx : ∀ s ∈ x, tok s) (hs : tok s) : ∀ t ∈ x ++ [s], tok t := by
  intro t ht
  rcases List.mem_append.1 ht with h | h
  · exact hx t h
  · obtain rfl := List.mem_singleton.1 h
    exact hs
theorem lexF_tok : ∀ (n : Nat) (l : List UInt8) (x y : List S39) (e : Int), l.length ≤ n → (∀ s ∈ x, tok s) → lexF l x = some (y, e) → (∀ s ∈ y, tok s) := by
  intro n
  induction n with
  | zero =>
    intro l x y e h hx h1
    obtain rfl : l = [] := List.eq_nil_of_length_eq_zero (by omega)
    have h2 : lexF [] x = some (x, 0) := rfl
    rw [h2] at h1
    obtain ⟨rfl, -⟩ := Prod.mk.inj (Option.some.inj h1)
    exact hx
  | succ n ih =>
    intro l x y e h hx h1
    cases l with
    | nil =>
      have h2 : lexF [] x = some (x, 0) := rfl
      rw [h2] at h1
      obtain ⟨rfl, -⟩ := Prod.mk.inj (Option.some.inj h1)
      exact hx
    | cons c t =>
      have hlt : t.length ≤ n := by rw [List.length_cons] at h; omega
      have hdr : ∀ m, 0 < m → ((c :: t).drop m).length ≤ n := fun m hm => by rw [List.length_drop, List.length_cons]; omega
      have herr : ∀ q : Int, (some ([], q) : Option (List S39 × Int)) = some (y, e) → (∀ s ∈ y, tok s) := fun q hq => by
        obtain ⟨rfl, -⟩ := Prod.mk.inj (Option.some.inj hq)
        exact fun s hs => absurd hs (by simp)
      by_cases h32 : c = 32
      · subst h32
        rw [lexF_blank] at h1
        exact ih t x y e hlt hx h1
      · cases hd : dg c
        · cases hw : lw c
          · obtain ⟨m, hm⟩ : ∃ m : Nat, m = 19 := ⟨19, rfl⟩
            rw [lexF_symN c t x h32 hd hw m hm] at h1
            rcases longL_ok (c :: t) m with h0 | ⟨q, q1, q2, h0, q3, _⟩
            · rw [h0, if_pos rfl] at h1
              exact herr _ h1
            · rw [h0, if_neg (by show ¬ ((lexT.getD q ⟨#[]⟩).size : Int) = 0; omega)] at h1
              refine ih _ _ y e (hdr _ (by show 0 < ((lexT.getD q ⟨#[]⟩).size : Int).toNat; omega)) (snoc_tok x _ hx ?_) h1
              refine ⟨fun e => ?_, fun e => ?_⟩
              · have e : ((q : Nat) : Int) = 1 := e
                omega
              · have e : ((q : Nat) : Int) = 2 := e
                omega
          · rw [lexF_low c t x hw] at h1
            have hc : 97 ≤ c.toNat ∧ c.toNat ≤ 122 := of_decide_eq_true hw
            refine ih t _ y e hlt (snoc_tok x _ hx ?_) h1
            refine ⟨fun e => (by cases e), fun _ => ?_⟩
            show (0 : Int) ≤ (c.toNat : Int) - 97 ∧ (c.toNat : Int) - 97 ≤ 25
            omega
        · rw [lexF_num c t x hd] at h1
          split at h1
          · exact herr _ h1
          · split at h1
            · exact herr _ h1
            · rename_i hv
              refine ih _ _ y e (hdr _ (tw_pos c t hd)) (snoc_tok x _ hx ?_) h1
              refine ⟨fun _ => ⟨?_, ?_⟩, fun e => by cases e⟩
              · dsimp only
                omega
              · dsimp only
                omega
end Go.Proofs.YtikbgoppmailjaaGreatDoor.Pure
/- Texts and their signs: joined by a blank, ahead of each other. -/
namespace Go.Proofs.YtikbgoppmailjaaGreatDoor.Pure
open Go.RowKit Go.Proofs.YtikbgoppmailjaaGreatDoor.H Go.Proofs.YtikbgoppmailjaaGreatDoorW.PrintWords Go.Proofs.YtikbgoppmailjaaGreatDoorW.PrintLast Go.Proofs.YtikbgoppmailjaaGreatDoorW.PrintMore
set_option linter.unusedVariables false
set_option linter.unusedSimpArgs false
/-- A text's signs. -/
def Lx (l : List UInt8) (y : List S39) : Prop := lexF l [] = some (y, 0)
theorem Lx.ahead {l : List UInt8} {y : List S39} (h : Lx l y) (x : List S39) : lexF l x = some (x ++ y, 0) := by
  rcases lex_acc _ l x (Nat.le_refl _) with ⟨y', h1, h2⟩ | ⟨e, he, h1, _⟩
  · rw [h] at h1
    obtain ⟨rfl, -⟩ := Prod.mk.inj (Option.some.inj h1)
    exact h2
  · rw [h] at h1
    exact absurd (Prod.mk.inj (Option.some.inj h1)).2.symm he
theorem Lx.tok {l : List UInt8} {y : List S39} (h : Lx l y) : ∀ s ∈ y, Pure.tok s := by
  exact lexF_tok _ l [] y 0 (Nat.le_refl _) (fun s hs => absurd hs (by simp)) h
theorem Lx.len {l : List UInt8} {y : List S39} (h : Lx l y) : y.length ≤ l.length := by
  have := lexF_len _ l [] y 0 (Nat.le_refl _) h
  simpa using this
/-- A text that is a guard, and how it lies behind. -/
def Gx (l : List UInt8) (o : List S39) : Prop := ∃ x, Lx l x ∧ Guard x o
theorem Gx.post {l : List UInt8} {o : List S39} (h : Gx l o) : Post true o := by
  obtain ⟨x, hx, hg⟩ := h
  exact guard_post hx.tok hg
end Go.Proofs.YtikbgoppmailjaaGreatDoor.Pure
-- Written by hp.py (a program of this session, over the kit's print.py), with hand-made contracts beside it.
namespace Go.Proofs.YtikbgoppmailjaaGreatDoor.H
open Go.RowKit Go.Proofs.YtikbgoppmailjaaGreatDoorW.PrintWords Go.Proofs.YtikbgoppmailjaaGreatDoorW.PrintLast Go.Proofs.YtikbgoppmailjaaGreatDoorW.PrintMore
attribute [local go_sem] max2_int min2_int max_two min_two max_three min_three max_four min_four   -- for this text's walks alone
set_option linter.unusedVariables false
set_option linter.unusedSimpArgs false

/-! ### guard_bracket: function 45 -/
mutual
def guard_bracket.j0 : Nat → Int → Int → Bool → Bool → Option (Int × Int)
  | 0, _, _, _, _ => none
  | k + 1, x0, x1, x2, x8 => if x8 = true then (guard_bracket.j1 k x0 x1 x2 x8) else (if x1 = 12 then (if x0 = 14 then (guard_bracket.j1 k x0 x1 x2 true) else (if x0 = 12 then (guard_bracket.j1 k x0 x1 x2 x2) else (guard_bracket.j1 k x0 x1 x2 false))) else (guard_bracket.j1 k x0 x1 x2 false))
def guard_bracket.j1 : Nat → Int → Int → Bool → Bool → Option (Int × Int)
  | 0, _, _, _, _ => none
  | k + 1, x0, x1, x2, x8 => if x8 = true then (some (15, 16)) else ((guard_sums.f x1).bind fun t125 => (if t125 = true then (if x0 = 5 then (guard_bracket.j2 k x0 x1 x2 true) else (if x0 = 19 then (guard_bracket.j2 k x0 x1 x2 true) else ((guard_sums.f x0).bind fun t126 => (if t126 = true then (guard_bracket.j2 k x0 x1 x2 x2) else (guard_bracket.j2 k x0 x1 x2 false))))) else (guard_bracket.j2 k x0 x1 x2 false)))
def guard_bracket.j2 : Nat → Int → Int → Bool → Bool → Option (Int × Int)
  | 0, _, _, _, _ => none
  | k + 1, x0, x1, x2, x39 => if x39 = true then (some (17, 18)) else (if x1 = 5 then (if x0 = 19 then (some (17, 18)) else (if x0 = 5 then (if x2 = true then (some (17, 18)) else (some (0, 0))) else (some (0, 0)))) else (some (0, 0)))
end
def guard_bracket.f (k : Nat) (a0 : Int) (a1 : Int) (a2 : Bool) : Option (Int × Int) := if a1 = 13 then (if a0 = 12 then (guard_bracket.j0 k a0 a1 a2 true) else (if a0 = 14 then (guard_bracket.j0 k a0 a1 a2 true) else (if a0 = 13 then (guard_bracket.j0 k a0 a1 a2 a2) else (guard_bracket.j0 k a0 a1 a2 false)))) else (guard_bracket.j0 k a0 a1 a2 false)
theorem guard_bracket.mono_l : ∀ k, (∀ y0 y1 y2 y3, LeO (guard_bracket.j0 k y0 y1 y2 y3) (guard_bracket.j0 (k + 1) y0 y1 y2 y3)) ∧ (∀ y0 y1 y2 y3, LeO (guard_bracket.j1 k y0 y1 y2 y3) (guard_bracket.j1 (k + 1) y0 y1 y2 y3)) ∧ (∀ y0 y1 y2 y3, LeO (guard_bracket.j2 k y0 y1 y2 y3) (guard_bracket.j2 (k + 1) y0 y1 y2 y3))
  | 0 => ⟨fun _ _ _ _ r h => by simp [guard_bracket.j0] at h, fun _ _ _ _ r h => by simp [guard_bracket.j1] at h, fun _ _ _ _ r h => by simp [guard_bracket.j2] at h⟩
  | k + 1 => by
    obtain ⟨ih0, ih1, ih2⟩ := guard_bracket.mono_l k
    refine ⟨?_, ?_, ?_⟩
    · intro y0 y1 y2 y3
      unfold guard_bracket.j0
      repeat' first
      | (with_reducible exact ih0 _ _ _ _)
      | (with_reducible exact ih1 _ _ _ _)
      | (with_reducible exact ih2 _ _ _ _)
      | (with_reducible exact LeO.refl _)
      | (with_reducible exact LeO.none _)
      | (with_reducible refine LeO.ite ?_ ?_)
      | (with_reducible refine LeO.bind ?_ (fun _ => ?_))
      | exact ih0 _ _ _ _
      | exact ih1 _ _ _ _
      | exact ih2 _ _ _ _
      | exact LeO.none _
      | refine LeO.ite ?_ ?_
      | refine LeO.bind ?_ (fun _ => ?_)
    · intro y0 y1 y2 y3
      unfold guard_bracket.j1
      repeat' first
      | (with_reducible exact ih0 _ _ _ _)
      | (with_reducible exact ih1 _ _ _ _)
      | (with_reducible exact ih2 _ _ _ _)
      | (with_reducible exact LeO.refl _)
      | (with_reducible exact LeO.none _)
      | (with_reducible refine LeO.ite ?_ ?_)
      | (with_reducible refine LeO.bind ?_ (fun _ => ?_))
      | exact ih0 _ _ _ _
      | exact ih1 _ _ _ _
      | exact ih2 _ _ _ _
      | exact LeO.none _
      | refine LeO.ite ?_ ?_
      | refine LeO.bind ?_ (fun _ => ?_)
    · intro y0 y1 y2 y3
      unfold guard_bracket.j2
      repeat' first
      | (with_reducible exact ih0 _ _ _ _)
      | (with_reducible exact ih1 _ _ _ _)
      | (with_reducible exact ih2 _ _ _ _)
      | (with_reducible exact LeO.refl _)
      | (with_reducible exact LeO.none _)
      | (with_reducible refine LeO.ite ?_ ?_)
      | (with_reducible refine LeO.bind ?_ (fun _ => ?_))
      | exact ih0 _ _ _ _
      | exact ih1 _ _ _ _
      | exact ih2 _ _ _ _
      | exact LeO.none _
      | refine LeO.ite ?_ ?_
      | refine LeO.bind ?_ (fun _ => ?_)
theorem guard_bracket.mono : ∀ a0 a1 a2 k, LeO (guard_bracket.f k a0 a1 a2) (guard_bracket.f (k + 1) a0 a1 a2) := by
  intro a0 a1 a2 k
  obtain ⟨ih0, ih1, ih2⟩ := guard_bracket.mono_l k
  unfold guard_bracket.f
  repeat' first
      | (with_reducible exact ih0 _ _ _ _)
      | (with_reducible exact ih1 _ _ _ _)
      | (with_reducible exact ih2 _ _ _ _)
      | (with_reducible exact LeO.refl _)
      | (with_reducible exact LeO.none _)
      | (with_reducible refine LeO.ite ?_ ?_)
      | (with_reducible refine LeO.bind ?_ (fun _ => ?_))
      | exact ih0 _ _ _ _
      | exact ih1 _ _ _ _
      | exact ih2 _ _ _ _
      | exact LeO.none _
      | refine LeO.ite ?_ ?_
      | refine LeO.bind ?_ (fun _ => ?_)
set_option maxHeartbeats 8000000 in
set_option maxRecDepth 100000 in
theorem guard_bracket.calls (k : Nat) (a0 : Int) (a1 : Int) (a2 : Bool) (r1 : Int) (r2 : Int) (w : World) (h : guard_bracket.f k a0 a1 a2 = some (r1, r2)) :
  Calls Tryz.prog 45 #[.int .i64 a0, .int .i64 a1, .bool a2] w fun e w' => e = .returned (.tuple #[.int .i64 r1, .int .i64 r2]) ∧ Drawn0 w w' := by
 have H : (if a1 = 13 then (if a0 = 12 then (guard_bracket.j0 k a0 a1 a2 true) else (if a0 = 14 then (guard_bracket.j0 k a0 a1 a2 true) else (if a0 = 13 then (guard_bracket.j0 k a0 a1 a2 a2) else (guard_bracket.j0 k a0 a1 a2 false)))) else (guard_bracket.j0 k a0 a1 a2 false)) = some (r1, r2) := h
 clear h
 have HC4 := Aside0.mk H
 clear H
 go_enter Tryz.func45, Tryz.ntmps45
 go_upto_region 1 with (fail)
 go_cut [8] (fun v8 wc => ∃ (kq : Nat) (x8_3 : Bool), v8 = .bool x8_3 ∧ Aside0 (guard_bracket.j0 kq a0 a1 a2 x8_3 = some (r1, r2)) ∧ Aside0 (kq ≤ k) ∧ Drawn0 w wc)
 case first =>
  have H := HC4.out
  clear HC4
  by_cases c5 : a1 = 13
  ·rw [if_pos c5] at H
   have c5b0 : (a1 == 13) = true := beq_iff_eq.mpr c5
   have c5b1 : (a1 != 13) = false := bne_eq_false_iff_eq.mpr c5
   clear c5
   (first | rw [c5b0] | (simp only [i64_w, i32_w]; rw [c5b0]) | skip)
   by_cases c6 : a0 = 12
   ·rw [if_pos c6] at H
    have c6b0 : (a0 == 12) = true := beq_iff_eq.mpr c6
    have c6b1 : (a0 != 12) = false := bne_eq_false_iff_eq.mpr c6
    clear c6
    have H' := Aside0.mk H
    clear H
    go_wp2
    go_meet
    case rel => exact ⟨_, (true), (by first | rfl | (simp; done) | (simp [*]; done)), H', ⟨by first | omega | exact Nat.le_refl _⟩, by repeat (first | exact Drawn0.refl _ | apply Drawn0.step)⟩
   ·rw [if_neg c6] at H
    have c6b0 : (a0 == 12) = false := beq_eq_false_iff_ne.mpr c6
    have c6b1 : (a0 != 12) = true := bne_iff_ne.mpr c6
    by_cases c7 : a0 = 14
    ·rw [if_pos c7] at H
     have c7b0 : (a0 == 14) = true := beq_iff_eq.mpr c7
     have c7b1 : (a0 != 14) = false := bne_eq_false_iff_eq.mpr c7
     clear c7
     have H' := Aside0.mk H
     clear H
     go_wp2
     go_meet
     case rel => exact ⟨_, (true), (by first | rfl | (simp; done) | (simp [*]; done)), H', ⟨by first | omega | exact Nat.le_refl _⟩, by repeat (first | exact Drawn0.refl _ | apply Drawn0.step)⟩
    ·rw [if_neg c7] at H
     have c7b0 : (a0 == 14) = false := beq_eq_false_iff_ne.mpr c7
     have c7b1 : (a0 != 14) = true := bne_iff_ne.mpr c7
     by_cases c8 : a0 = 13
     ·rw [if_pos c8] at H
      have c8b0 : (a0 == 13) = true := beq_iff_eq.mpr c8
      have c8b1 : (a0 != 13) = false := bne_eq_false_iff_eq.mpr c8
      clear c8
      have H' := Aside0.mk H
      clear H
      go_wp2
      go_meet
      case rel => exact ⟨_, (a2), (by first | rfl | (simp; done) | (simp [*]; done)), H', ⟨by first | omega | exact Nat.le_refl _⟩, by repeat (first | exact Drawn0.refl _ | apply Drawn0.step)⟩
     ·rw [if_neg c8] at H
      have c8b0 : (a0 == 13) = false := beq_eq_false_iff_ne.mpr c8
      have c8b1 : (a0 != 13) = true := bne_iff_ne.mpr c8
      have H' := Aside0.mk H
      clear H
      go_wp2
      go_meet
      case rel => exact ⟨_, (false), (by first | rfl | (simp; done) | (simp [*]; done)), H', ⟨by first | omega | exact Nat.le_refl _⟩, by repeat (first | exact Drawn0.refl _ | apply Drawn0.step)⟩
  ·rw [if_neg c5] at H
   have c5b0 : (a1 == 13) = false := beq_eq_false_iff_ne.mpr c5
   have c5b1 : (a1 != 13) = true := bne_iff_ne.mpr c5
   (first | rw [c5b0] | (simp only [i64_w, i32_w]; rw [c5b0]) | skip)
   have H' := Aside0.mk H
   clear H
   go_wp2
   go_meet
   case rel => exact ⟨_, (false), (by first | rfl | (simp; done) | (simp [*]; done)), H', ⟨by first | omega | exact Nat.le_refl _⟩, by repeat (first | exact Drawn0.refl _ | apply Drawn0.step)⟩
 case rest =>
  clear HC4
  try clear p2
  try clear c4
  try clear c5
  try clear c5b0
  try clear c5b1
  try clear c6
  try clear c6b0
  try clear c6b1
  try clear c7
  try clear c7b0
  try clear c7b1
  try clear c8
  try clear c8b0
  try clear c8b1
  obtain ⟨kq, x8_3, rfl, HA, HJ3, ⟨mc3, rfl⟩⟩ := hcut
  cases kq with
  | zero => exact absurd HA.out (by simp [guard_bracket.j0])
  | succ kj3 =>
   have H := HA.out
   clear HA
   simp only [guard_bracket.j0] at H
   have HC9 := Aside0.mk H
   clear H
   go_upto_if 8 with (fail)
   go_cut [8] (fun v8 wc => ∃ (kq : Nat) (x8_8 : Bool), v8 = .bool x8_8 ∧ Aside0 (guard_bracket.j1 kq a0 a1 a2 x8_8 = some (r1, r2)) ∧ Aside0 (kq ≤ kj3) ∧ Drawn0 w wc)
   case first =>
    have H := HC9.out
    clear HC9
    by_cases c10 : x8_3 = true
    ·subst c10
     have H1 : (guard_bracket.j1 kj3 a0 a1 a2 true) = some (r1, r2) := by rw [if_pos rfl] at H; exact H
     clear H
     have H := H1
     clear H1
     have H' := Aside0.mk H
     clear H
     go_wp2
     go_meet
     case rel => exact ⟨_, (true), (by first | rfl | (simp; done) | (simp [*]; done)), H', ⟨by have := HJ3.out; first | omega | exact Nat.le_refl _⟩, by repeat (first | exact Drawn0.refl _ | apply Drawn0.step)⟩
    ·replace c10 := Bool.eq_false_iff.mpr c10
     subst c10
     have H1 : (if a1 = 12 then (if a0 = 14 then (guard_bracket.j1 kj3 a0 a1 a2 true) else (if a0 = 12 then (guard_bracket.j1 kj3 a0 a1 a2 a2) else (guard_bracket.j1 kj3 a0 a1 a2 false))) else (guard_bracket.j1 kj3 a0 a1 a2 false)) = some (r1, r2) := by rw [if_neg (show ¬ (false = true) by decide)] at H; exact H
     clear H
     have H := H1
     clear H1
     by_cases c11 : a1 = 12
     ·rw [if_pos c11] at H
      have c11b0 : (a1 == 12) = true := beq_iff_eq.mpr c11
      have c11b1 : (a1 != 12) = false := bne_eq_false_iff_eq.mpr c11
      clear c11
      (first | rw [c11b0] | (simp only [i64_w, i32_w]; rw [c11b0]) | skip)
      by_cases c12 : a0 = 14
      ·rw [if_pos c12] at H
       have c12b0 : (a0 == 14) = true := beq_iff_eq.mpr c12
       have c12b1 : (a0 != 14) = false := bne_eq_false_iff_eq.mpr c12
       clear c12
       have H' := Aside0.mk H
       clear H
       go_wp2
       go_meet
       case rel => exact ⟨_, (true), (by first | rfl | (simp; done) | (simp [*]; done)), H', ⟨by have := HJ3.out; first | omega | exact Nat.le_refl _⟩, by repeat (first | exact Drawn0.refl _ | apply Drawn0.step)⟩
      ·rw [if_neg c12] at H
       have c12b0 : (a0 == 14) = false := beq_eq_false_iff_ne.mpr c12
       have c12b1 : (a0 != 14) = true := bne_iff_ne.mpr c12
       by_cases c13 : a0 = 12
       ·rw [if_pos c13] at H
        have c13b0 : (a0 == 12) = true := beq_iff_eq.mpr c13
        have c13b1 : (a0 != 12) = false := bne_eq_false_iff_eq.mpr c13
        clear c13
        have H' := Aside0.mk H
        clear H
        go_wp2
        go_meet
        case rel => exact ⟨_, (a2), (by first | rfl | (simp; done) | (simp [*]; done)), H', ⟨by have := HJ3.out; first | omega | exact Nat.le_refl _⟩, by repeat (first | exact Drawn0.refl _ | apply Drawn0.step)⟩
       ·rw [if_neg c13] at H
        have c13b0 : (a0 == 12) = false := beq_eq_false_iff_ne.mpr c13
        have c13b1 : (a0 != 12) = true := bne_iff_ne.mpr c13
        have H' := Aside0.mk H
        clear H
        go_wp2
        go_meet
        case rel => exact ⟨_, (false), (by first | rfl | (simp; done) | (simp [*]; done)), H', ⟨by have := HJ3.out; first | omega | exact Nat.le_refl _⟩, by repeat (first | exact Drawn0.refl _ | apply Drawn0.step)⟩
     ·rw [if_neg c11] at H
      have c11b0 : (a1 == 12) = false := beq_eq_false_iff_ne.mpr c11
      have c11b1 : (a1 != 12) = true := bne_iff_ne.mpr c11
      (first | rw [c11b0] | (simp only [i64_w, i32_w]; rw [c11b0]) | skip)
      have H' := Aside0.mk H
      clear H
      go_wp2
      go_meet
      case rel => exact ⟨_, (false), (by first | rfl | (simp; done) | (simp [*]; done)), H', ⟨by have := HJ3.out; first | omega | exact Nat.le_refl _⟩, by repeat (first | exact Drawn0.refl _ | apply Drawn0.step)⟩
   case rest =>
    clear HC9
    try clear c1
    try clear p2
    try clear c3
    try clear c4
    try clear c5
    try clear c5b0
    try clear c5b1
    try clear c6
    try clear c6b0
    try clear c6b1
    try clear c7
    try clear c7b0
    try clear c7b1
    try clear c8
    try clear c8b0
    try clear c8b1
    try clear c10
    try clear c11
    try clear c11b0
    try clear c11b1
    try clear c12
    try clear c12b0
    try clear c12b1
    try clear c13
    try clear c13b0
    try clear c13b1
    try clear p2
    obtain ⟨kq, x8_8, rfl, HA, HJ8, ⟨mc8, rfl⟩⟩ := hcut
    cases kq with
    | zero => exact absurd HA.out (by simp [guard_bracket.j1])
    | succ kj8 =>
     have H := HA.out
     clear HA
     simp only [guard_bracket.j1] at H
     by_cases c14 : x8_8 = true
     ·subst c14
      have H1 : (some (15, 16)) = some (r1, r2) := by rw [if_pos rfl] at H; exact H
      clear H
      have H := H1
      clear H1
      simp only [Option.some.injEq, Prod.mk.injEq] at H
      obtain ⟨rfl, rfl⟩ := H
      go_wp2
      go_ret2
      exact ⟨by first | rfl | (simp; done) | (simp [*]; done), by repeat (first | exact Drawn0.refl _ | apply Drawn0.step)⟩
     ·replace c14 := Bool.eq_false_iff.mpr c14
      subst c14
      have H1 : ((guard_sums.f a1).bind fun t125 => (if t125 = true then (if a0 = 5 then (guard_bracket.j2 kj8 a0 a1 a2 true) else (if a0 = 19 then (guard_bracket.j2 kj8 a0 a1 a2 true) else ((guard_sums.f a0).bind fun t126 => (if t126 = true then (guard_bracket.j2 kj8 a0 a1 a2 a2) else (guard_bracket.j2 kj8 a0 a1 a2 false))))) else (guard_bracket.j2 kj8 a0 a1 a2 false))) = some (r1, r2) := by rw [if_neg (show ¬ (false = true) by decide)] at H; exact H
      clear H
      have H := H1
      clear H1
      have HC15 := Aside0.mk H
      clear H
      go_upto_region 4 with (fail)
      go_cut [39] (fun v39 wc => ∃ (kq : Nat) (x39_14 : Bool), v39 = .bool x39_14 ∧ Aside0 (guard_bracket.j2 kq a0 a1 a2 x39_14 = some (r1, r2)) ∧ Aside0 (kq ≤ kj8) ∧ Drawn0 w wc)
      case first =>
       have H := HC15.out
       clear HC15
       replace H := Option.bind_eq_some_iff.mp H
       obtain ⟨t125, A160, H⟩ := H
       replace H : (if t125 = true then (if a0 = 5 then (guard_bracket.j2 kj8 a0 a1 a2 true) else (if a0 = 19 then (guard_bracket.j2 kj8 a0 a1 a2 true) else ((guard_sums.f a0).bind fun t126 => (if t126 = true then (guard_bracket.j2 kj8 a0 a1 a2 a2) else (guard_bracket.j2 kj8 a0 a1 a2 false))))) else (guard_bracket.j2 kj8 a0 a1 a2 false)) = some (r1, r2) := H
       have A16 := Aside0.mk A160
       clear A160
       by_cases c17 : t125 = true
       ·subst c17
        have H1 : (if a0 = 5 then (guard_bracket.j2 kj8 a0 a1 a2 true) else (if a0 = 19 then (guard_bracket.j2 kj8 a0 a1 a2 true) else ((guard_sums.f a0).bind fun t126 => (if t126 = true then (guard_bracket.j2 kj8 a0 a1 a2 a2) else (guard_bracket.j2 kj8 a0 a1 a2 false))))) = some (r1, r2) := by rw [if_pos rfl] at H; exact H
        clear H
        have H := H1
        clear H1
        by_cases c18 : a0 = 5
        ·rw [if_pos c18] at H
         have c18b0 : (a0 == 5) = true := beq_iff_eq.mpr c18
         have c18b1 : (a0 != 5) = false := bne_eq_false_iff_eq.mpr c18
         clear c18
         (first | rw [c18b0] | (simp only [i64_w, i32_w]; rw [c18b0]) | skip)
         have H' := Aside0.mk H
         clear H
         go_wp2_with (first | ((with_reducible refine gate_callee (f := 40) rfl ?_); refine goesL_ (some 41) rfl rfl Tryz.func40 (by kernel_rfl) rfl #[.int .i64 a1] rfl (by (try simp only [List.map_toArray, List.map_cons, List.map_nil]); first | done | rfl | (simp only [List.length_drop, List.length_take]; rfl)) ?_; (with_reducible refine (guard_sums.calls a1 true _ A16.out).mono ?_); rintro e w' ⟨rfl, ⟨nd, rfl⟩⟩; refine ⟨_, rfl, ?_⟩))
         go_meet
         case rel => exact ⟨_, (true), (by first | rfl | (simp; done) | (simp [*]; done)), H', ⟨by have := HJ3.out; have := HJ8.out; first | omega | exact Nat.le_refl _⟩, by repeat (first | exact Drawn0.refl _ | apply Drawn0.step)⟩
        ·rw [if_neg c18] at H
         have c18b0 : (a0 == 5) = false := beq_eq_false_iff_ne.mpr c18
         have c18b1 : (a0 != 5) = true := bne_iff_ne.mpr c18
         (first | rw [c18b0] | (simp only [i64_w, i32_w]; rw [c18b0]) | skip)
         by_cases c19 : a0 = 19
         ·rw [if_pos c19] at H
          have c19b0 : (a0 == 19) = true := beq_iff_eq.mpr c19
          have c19b1 : (a0 != 19) = false := bne_eq_false_iff_eq.mpr c19
          clear c19
          have H' := Aside0.mk H
          clear H
          go_wp2_with (first | ((with_reducible refine gate_callee (f := 40) rfl ?_); refine goesL_ (some 41) rfl rfl Tryz.func40 (by kernel_rfl) rfl #[.int .i64 a1] rfl (by (try simp only [List.map_toArray, List.map_cons, List.map_nil]); first | done | rfl | (simp only [List.length_drop, List.length_take]; rfl)) ?_; (with_reducible refine (guard_sums.calls a1 true _ A16.out).mono ?_); rintro e w' ⟨rfl, ⟨nd, rfl⟩⟩; refine ⟨_, rfl, ?_⟩))
          go_meet
          case rel => exact ⟨_, (true), (by first | rfl | (simp; done) | (simp [*]; done)), H', ⟨by have := HJ3.out; have := HJ8.out; first | omega | exact Nat.le_refl _⟩, by repeat (first | exact Drawn0.refl _ | apply Drawn0.step)⟩
         ·rw [if_neg c19] at H
          have c19b0 : (a0 == 19) = false := beq_eq_false_iff_ne.mpr c19
          have c19b1 : (a0 != 19) = true := bne_iff_ne.mpr c19
          replace H := Option.bind_eq_some_iff.mp H
          obtain ⟨t126, A200, H⟩ := H
          replace H : (if t126 = true then (guard_bracket.j2 kj8 a0 a1 a2 a2) else (guard_bracket.j2 kj8 a0 a1 a2 false)) = some (r1, r2) := H
          have A20 := Aside0.mk A200
          clear A200
          by_cases c21 : t126 = true
          ·subst c21
           have H1 : (guard_bracket.j2 kj8 a0 a1 a2 a2) = some (r1, r2) := by rw [if_pos rfl] at H; exact H
           clear H
           have H := H1
           clear H1
           have H' := Aside0.mk H
           clear H
           go_wp2_with (first | ((with_reducible refine gate_callee (f := 40) rfl ?_); refine goesL_ (some 41) rfl rfl Tryz.func40 (by kernel_rfl) rfl #[.int .i64 a1] rfl (by (try simp only [List.map_toArray, List.map_cons, List.map_nil]); first | done | rfl | (simp only [List.length_drop, List.length_take]; rfl)) ?_; (with_reducible refine (guard_sums.calls a1 true _ A16.out).mono ?_); rintro e w' ⟨rfl, ⟨nd, rfl⟩⟩; refine ⟨_, rfl, ?_⟩) | (go_at_call 40; (with_reducible refine (guard_sums.calls a0 true _ A20.out).mono ?_); rintro e w' ⟨rfl, ⟨nd, rfl⟩⟩))
           go_meet
           case rel => exact ⟨_, (a2), (by first | rfl | (simp; done) | (simp [*]; done)), H', ⟨by have := HJ3.out; have := HJ8.out; first | omega | exact Nat.le_refl _⟩, by repeat (first | exact Drawn0.refl _ | apply Drawn0.step)⟩
          ·replace c21 := Bool.eq_false_iff.mpr c21
           subst c21
           have H1 : (guard_bracket.j2 kj8 a0 a1 a2 false) = some (r1, r2) := by rw [if_neg (show ¬ (false = true) by decide)] at H; exact H
           clear H
           have H := H1
           clear H1
           have H' := Aside0.mk H
           clear H
           go_wp2_with (first | ((with_reducible refine gate_callee (f := 40) rfl ?_); refine goesL_ (some 41) rfl rfl Tryz.func40 (by kernel_rfl) rfl #[.int .i64 a1] rfl (by (try simp only [List.map_toArray, List.map_cons, List.map_nil]); first | done | rfl | (simp only [List.length_drop, List.length_take]; rfl)) ?_; (with_reducible refine (guard_sums.calls a1 true _ A16.out).mono ?_); rintro e w' ⟨rfl, ⟨nd, rfl⟩⟩; refine ⟨_, rfl, ?_⟩) | (go_at_call 40; (with_reducible refine (guard_sums.calls a0 false _ A20.out).mono ?_); rintro e w' ⟨rfl, ⟨nd, rfl⟩⟩))
           go_meet
           case rel => exact ⟨_, (false), (by first | rfl | (simp; done) | (simp [*]; done)), H', ⟨by have := HJ3.out; have := HJ8.out; first | omega | exact Nat.le_refl _⟩, by repeat (first | exact Drawn0.refl _ | apply Drawn0.step)⟩
       ·replace c17 := Bool.eq_false_iff.mpr c17
        subst c17
        have H1 : (guard_bracket.j2 kj8 a0 a1 a2 false) = some (r1, r2) := by rw [if_neg (show ¬ (false = true) by decide)] at H; exact H
        clear H
        have H := H1
        clear H1
        have H' := Aside0.mk H
        clear H
        go_wp2_with (first | ((with_reducible refine gate_callee (f := 40) rfl ?_); refine goesL_ (some 41) rfl rfl Tryz.func40 (by kernel_rfl) rfl #[.int .i64 a1] rfl (by (try simp only [List.map_toArray, List.map_cons, List.map_nil]); first | done | rfl | (simp only [List.length_drop, List.length_take]; rfl)) ?_; (with_reducible refine (guard_sums.calls a1 false _ A16.out).mono ?_); rintro e w' ⟨rfl, ⟨nd, rfl⟩⟩; refine ⟨_, rfl, ?_⟩))
        go_meet
        case rel => exact ⟨_, (false), (by first | rfl | (simp; done) | (simp [*]; done)), H', ⟨by have := HJ3.out; have := HJ8.out; first | omega | exact Nat.le_refl _⟩, by repeat (first | exact Drawn0.refl _ | apply Drawn0.step)⟩
      case rest =>
       clear HC15
       try clear c1
       try clear c2
       try clear p2
       try clear c3
       try clear c4
       try clear c5
       try clear c5b0
       try clear c5b1
       try clear c6
       try clear c6b0
       try clear c6b1
       try clear c7
       try clear c7b0
       try clear c7b1
       try clear c8
       try clear c8b0
       try clear c8b1
       try clear c10
       try clear c11
       try clear c11b0
       try clear c11b1
       try clear c12
       try clear c12b0
       try clear c12b1
       try clear c13
       try clear c13b0
       try clear c13b1
       try clear c14
       try clear c17
       try clear c18
       try clear c18b0
       try clear c18b1
       try clear c19
       try clear c19b0
       try clear c19b1
       try clear c21
       try clear p2
       obtain ⟨kq, x39_14, rfl, HA, HJ14, ⟨mc14, rfl⟩⟩ := hcut
       cases kq with
       | zero => exact absurd HA.out (by simp [guard_bracket.j2])
       | succ kj14 =>
        have H := HA.out
        clear HA
        simp only [guard_bracket.j2] at H
        by_cases c22 : x39_14 = true
        ·subst c22
         have H1 : (some (17, 18)) = some (r1, r2) := by rw [if_pos rfl] at H; exact H
         clear H
         have H := H1
         clear H1
         simp only [Option.some.injEq, Prod.mk.injEq] at H
         obtain ⟨rfl, rfl⟩ := H
         go_wp2
         go_ret2
         exact ⟨by first | rfl | (simp; done) | (simp [*]; done), by repeat (first | exact Drawn0.refl _ | apply Drawn0.step)⟩
        ·replace c22 := Bool.eq_false_iff.mpr c22
         subst c22
         have H1 : (if a1 = 5 then (if a0 = 19 then (some (17, 18)) else (if a0 = 5 then (if a2 = true then (some (17, 18)) else (some (0, 0))) else (some (0, 0)))) else (some (0, 0))) = some (r1, r2) := by rw [if_neg (show ¬ (false = true) by decide)] at H; exact H
         clear H
         have H := H1
         clear H1
         by_cases c23 : a1 = 5
         ·rw [if_pos c23] at H
          have c23b0 : (a1 == 5) = true := beq_iff_eq.mpr c23
          have c23b1 : (a1 != 5) = false := bne_eq_false_iff_eq.mpr c23
          clear c23
          by_cases c24 : a0 = 19
          ·rw [if_pos c24] at H
           have c24b0 : (a0 == 19) = true := beq_iff_eq.mpr c24
           have c24b1 : (a0 != 19) = false := bne_eq_false_iff_eq.mpr c24
           clear c24
           simp only [Option.some.injEq, Prod.mk.injEq] at H
           obtain ⟨rfl, rfl⟩ := H
           go_wp2
           go_ret2
           exact ⟨by first | rfl | (simp; done) | (simp [*]; done), by repeat (first | exact Drawn0.refl _ | apply Drawn0.step)⟩
          ·rw [if_neg c24] at H
           have c24b0 : (a0 == 19) = false := beq_eq_false_iff_ne.mpr c24
           have c24b1 : (a0 != 19) = true := bne_iff_ne.mpr c24
           by_cases c25 : a0 = 5
           ·rw [if_pos c25] at H
            have c25b0 : (a0 == 5) = true := beq_iff_eq.mpr c25
            have c25b1 : (a0 != 5) = false := bne_eq_false_iff_eq.mpr c25
            clear c25
            by_cases c26 : a2 = true
            ·subst c26
             have H1 : (some (17, 18)) = some (r1, r2) := by rw [if_pos rfl] at H; exact H
             clear H
             have H := H1
             clear H1
             simp only [Option.some.injEq, Prod.mk.injEq] at H
             obtain ⟨rfl, rfl⟩ := H
             go_wp2
             go_ret2
             exact ⟨by first | rfl | (simp; done) | (simp [*]; done), by repeat (first | exact Drawn0.refl _ | apply Drawn0.step)⟩
            ·replace c26 := Bool.eq_false_iff.mpr c26
             subst c26
             have H1 : (some (0, 0)) = some (r1, r2) := by rw [if_neg (show ¬ (false = true) by decide)] at H; exact H
             clear H
             have H := H1
             clear H1
             simp only [Option.some.injEq, Prod.mk.injEq] at H
             obtain ⟨rfl, rfl⟩ := H
             go_wp2
             go_ret2
             exact ⟨by first | rfl | (simp; done) | (simp [*]; done), by repeat (first | exact Drawn0.refl _ | apply Drawn0.step)⟩
           ·rw [if_neg c25] at H
            have c25b0 : (a0 == 5) = false := beq_eq_false_iff_ne.mpr c25
            have c25b1 : (a0 != 5) = true := bne_iff_ne.mpr c25
            simp only [Option.some.injEq, Prod.mk.injEq] at H
            obtain ⟨rfl, rfl⟩ := H
            go_wp2
            go_ret2
            exact ⟨by first | rfl | (simp; done) | (simp [*]; done), by repeat (first | exact Drawn0.refl _ | apply Drawn0.step)⟩
         ·rw [if_neg c23] at H
          have c23b0 : (a1 == 5) = false := beq_eq_false_iff_ne.mpr c23
          have c23b1 : (a1 != 5) = true := bne_iff_ne.mpr c23
          simp only [Option.some.injEq, Prod.mk.injEq] at H
          obtain ⟨rfl, rfl⟩ := H
          go_wp2
          go_ret2
          exact ⟨by first | rfl | (simp; done) | (simp [*]; done), by repeat (first | exact Drawn0.refl _ | apply Drawn0.step)⟩

end Go.Proofs.YtikbgoppmailjaaGreatDoor.H
-- Written by hp.py (a program of this session, over the kit's print.py), with hand-made contracts beside it.
namespace Go.Proofs.YtikbgoppmailjaaGreatDoor.H
open Go.RowKit Go.Proofs.YtikbgoppmailjaaGreatDoorW.PrintWords Go.Proofs.YtikbgoppmailjaaGreatDoorW.PrintLast Go.Proofs.YtikbgoppmailjaaGreatDoorW.PrintMore
attribute [local go_sem] max2_int min2_int max_two min_two max_three min_three max_four min_four   -- for this text's walks alone
set_option linter.unusedVariables false
set_option linter.unusedSimpArgs false

/-! ### lex_in: function 31 -/
def lex_in.f (a0 : Int) (a1 : Int) (a2 : Int) : Option (Bool) := if a0 ≥ a1 then (some (decide (a0 ≤ a2))) else (some false)
set_option maxHeartbeats 8000000 in
set_option maxRecDepth 100000 in
theorem lex_in.calls (a0 : Int) (a1 : Int) (a2 : Int) (r : Bool) (w : World) (h : lex_in.f a0 a1 a2 = some r) :
    Calls Tryz.prog 31 #[.int .i64 a0, .int .i64 a1, .int .i64 a2] w fun e w' => e = .returned (.bool r) ∧ Drawn0 w w' := by
  have H : (if a0 ≥ a1 then (some (decide (a0 ≤ a2))) else (some false)) = some r := h
  clear h
  by_cases c4 : a0 ≥ a1
  · rw [if_pos c4] at H
    have c4b0 : decide (a1 ≤ a0) = true := decide_eq_true c4
    clear c4
    obtain rfl := Option.some.inj H
    go_enter Tryz.func31, Tryz.ntmps31
    go_wp2
    go_ret
    exact ⟨by first | rfl | (simp; done) | (simp [*]; done), by repeat (first | exact Drawn0.refl _ | apply Drawn0.step)⟩
  · rw [if_neg c4] at H
    have c4b0 : decide (a1 ≤ a0) = false := decide_eq_false c4
    clear c4
    obtain rfl := Option.some.inj H
    go_enter Tryz.func31, Tryz.ntmps31
    go_wp2
    go_ret
    exact ⟨by first | rfl | (simp; done) | (simp [*]; done), by repeat (first | exact Drawn0.refl _ | apply Drawn0.step)⟩

/-! ### lex_Good: function 65 -/
def lex_Good.f (a0_0 : Int) (a0_1 : Int) : Option (Bool) := if a0_0 = 1 then ((lex_in.f a0_1 0 2147483647).bind fun t128 => (some t128)) else (if a0_0 = 2 then ((lex_in.f a0_1 0 25).bind fun t129 => (some t129)) else ((lex_in.f a0_0 3 18).bind fun t130 => (if t130 = true then (some (a0_1 == 0)) else (some false))))
set_option maxHeartbeats 8000000 in
set_option maxRecDepth 100000 in
theorem lex_Good.calls (a0_0 : Int) (a0_1 : Int) (r : Bool) (w : World) (h : lex_Good.f a0_0 a0_1 = some r) :
  Calls Tryz.prog 65 #[.agg #[.int .i64 a0_0, .int .i64 a0_1]] w fun e w' => e = .returned (.bool r) ∧ Below w.heap.size w w' := by
 have hu39 := Tryz.underlying39
 have HB := Aside0.mk (Below.refl w.heap.size w)
 have H : (if a0_0 = 1 then ((lex_in.f a0_1 0 2147483647).bind fun t128 => (some t128)) else (if a0_0 = 2 then ((lex_in.f a0_1 0 25).bind fun t129 => (some t129)) else ((lex_in.f a0_0 3 18).bind fun t130 => (if t130 = true then (some (a0_1 == 0)) else (some false))))) = some r := h
 clear h
 by_cases c2 : a0_0 = 1
 ·rw [if_pos c2] at H
  have c2b0 : (a0_0 == 1) = true := beq_iff_eq.mpr c2
  have c2b1 : (a0_0 != 1) = false := bne_eq_false_iff_eq.mpr c2
  clear c2
  replace H := Option.bind_eq_some_iff.mp H
  obtain ⟨t128, A30, H⟩ := H
  replace H : (some t128) = some r := H
  have A3 := Aside0.mk A30
  clear A30
  obtain rfl := Option.some.inj H
  go_enter Tryz.func65, Tryz.ntmps65
  go_wp2_with (first | ((with_reducible refine gate_dst (N := 1) rfl ?_); refine box_event ?hg (N := 1) ?hd (cs := #[.int .i64 a0_0, .int .i64 a0_1]) (t := 39) ?hr ?_; (case hd => rfl); (case hg => rfl); (case hr => first | (go_simp; done) | (go_simp; rfl)); intro gb127 hg w4 hbox hb; have n0_ := Aside0.mk (bsp (by repeat (first | (with_reducible first | exact HB.out | apply bal | apply pbN | apply bd1) | exact HB.out)) hb); have n1_ := Aside0.mk (hbox); have n2_ := Aside0.mk ((by rw [hg]; exact (bsz (by repeat (first | (with_reducible first | exact HB.out | apply bal | apply pbN | apply bd1) | exact HB.out))) : w.heap.size ≤ gb127)); have n3_ := Aside0.mk ((by rw [hg]; exact (bsz (by repeat (first | (with_reducible first | exact HB.out | apply bal | apply pbN | apply bd1) | exact HB.out))) : w.heap.size ≤ gb127)); clear HB; have HB := n0_; have BK127 := n1_; have GW127 := n2_; have GE127 := n3_; clear n0_ n1_ n2_ n3_; clear hb hbox hg; have hcz5_0 : w4.cell? ⟨gb127, 0, none⟩ = some (.int .i64 a0_0) := (bce BK127.out 0).trans rfl; have hcz5_1 : w4.cell? ⟨gb127, 1, none⟩ = some (.int .i64 a0_1) := (bce BK127.out 1).trans rfl; have hfz5_0 := bfz BK127.out 0; have hfz5_1 := bfz BK127.out 1) | ((with_reducible refine gate_callee (f := 31) rfl ?_); refine goesL_ (some 9) rfl rfl Tryz.func31 (by kernel_rfl) rfl #[.int .i64 a0_1, .int .i64 0, .int .i64 2147483647] rfl (by (try simp only [List.map_toArray, List.map_cons, List.map_nil]); first | done | rfl | (simp only [List.length_drop, List.length_take]; rfl)) ?_; (with_reducible refine (lex_in.calls a0_1 0 2147483647 t128 _ A3.out).mono ?_); rintro e w' ⟨rfl, ⟨nd, rfl⟩⟩; refine ⟨_, rfl, ?_⟩))
  go_ret
  exact ⟨by first | rfl | (simp [errW_none, errW_some] <;> rfl) | (simp [*, errW_none, errW_some] <;> rfl), by repeat (first | (with_reducible first | exact HB.out | apply bal | apply pbN | apply bd1 | refine bst ?_ GE127.out) | exact HB.out)⟩
 ·rw [if_neg c2] at H
  have c2b0 : (a0_0 == 1) = false := beq_eq_false_iff_ne.mpr c2
  have c2b1 : (a0_0 != 1) = true := bne_iff_ne.mpr c2
  by_cases c6 : a0_0 = 2
  ·rw [if_pos c6] at H
   have c6b0 : (a0_0 == 2) = true := beq_iff_eq.mpr c6
   have c6b1 : (a0_0 != 2) = false := bne_eq_false_iff_eq.mpr c6
   clear c6
   replace H := Option.bind_eq_some_iff.mp H
   obtain ⟨t129, A70, H⟩ := H
   replace H : (some t129) = some r := H
   have A7 := Aside0.mk A70
   clear A70
   obtain rfl := Option.some.inj H
   go_enter Tryz.func65, Tryz.ntmps65
   go_wp2_with (first | ((with_reducible refine gate_dst (N := 1) rfl ?_); refine box_event ?hg (N := 1) ?hd (cs := #[.int .i64 a0_0, .int .i64 a0_1]) (t := 39) ?hr ?_; (case hd => rfl); (case hg => rfl); (case hr => first | (go_simp; done) | (go_simp; rfl)); intro gb127 hg w8 hbox hb; have n0_ := Aside0.mk (bsp (by repeat (first | (with_reducible first | exact HB.out | apply bal | apply pbN | apply bd1) | exact HB.out)) hb); have n1_ := Aside0.mk (hbox); have n2_ := Aside0.mk ((by rw [hg]; exact (bsz (by repeat (first | (with_reducible first | exact HB.out | apply bal | apply pbN | apply bd1) | exact HB.out))) : w.heap.size ≤ gb127)); have n3_ := Aside0.mk ((by rw [hg]; exact (bsz (by repeat (first | (with_reducible first | exact HB.out | apply bal | apply pbN | apply bd1) | exact HB.out))) : w.heap.size ≤ gb127)); clear HB; have HB := n0_; have BK127 := n1_; have GW127 := n2_; have GE127 := n3_; clear n0_ n1_ n2_ n3_; clear hb hbox hg; have hcz9_0 : w8.cell? ⟨gb127, 0, none⟩ = some (.int .i64 a0_0) := (bce BK127.out 0).trans rfl; have hcz9_1 : w8.cell? ⟨gb127, 1, none⟩ = some (.int .i64 a0_1) := (bce BK127.out 1).trans rfl; have hfz9_0 := bfz BK127.out 0; have hfz9_1 := bfz BK127.out 1) | ((with_reducible refine gate_callee (f := 31) rfl ?_); refine goesL_ (some 14) rfl rfl Tryz.func31 (by kernel_rfl) rfl #[.int .i64 a0_1, .int .i64 0, .int .i64 25] rfl (by (try simp only [List.map_toArray, List.map_cons, List.map_nil]); first | done | rfl | (simp only [List.length_drop, List.length_take]; rfl)) ?_; (with_reducible refine (lex_in.calls a0_1 0 25 t129 _ A7.out).mono ?_); rintro e w' ⟨rfl, ⟨nd, rfl⟩⟩; refine ⟨_, rfl, ?_⟩))
   go_ret
   exact ⟨by first | rfl | (simp [errW_none, errW_some] <;> rfl) | (simp [*, errW_none, errW_some] <;> rfl), by repeat (first | (with_reducible first | exact HB.out | apply bal | apply pbN | apply bd1 | refine bst ?_ GE127.out) | exact HB.out)⟩
  ·rw [if_neg c6] at H
   have c6b0 : (a0_0 == 2) = false := beq_eq_false_iff_ne.mpr c6
   have c6b1 : (a0_0 != 2) = true := bne_iff_ne.mpr c6
   replace H := Option.bind_eq_some_iff.mp H
   obtain ⟨t130, A100, H⟩ := H
   replace H : (if t130 = true then (some (a0_1 == 0)) else (some false)) = some r := H
   have A10 := Aside0.mk A100
   clear A100
   by_cases c11 : t130 = true
   ·subst c11
    have H1 : (some (a0_1 == 0)) = some r := by rw [if_pos rfl] at H; exact H
    clear H
    have H := H1
    clear H1
    obtain rfl := Option.some.inj H
    go_enter Tryz.func65, Tryz.ntmps65
    go_wp2_with (first | ((with_reducible refine gate_dst (N := 1) rfl ?_); refine box_event ?hg (N := 1) ?hd (cs := #[.int .i64 a0_0, .int .i64 a0_1]) (t := 39) ?hr ?_; (case hd => rfl); (case hg => rfl); (case hr => first | (go_simp; done) | (go_simp; rfl)); intro gb127 hg w12 hbox hb; have n0_ := Aside0.mk (bsp (by repeat (first | (with_reducible first | exact HB.out | apply bal | apply pbN | apply bd1) | exact HB.out)) hb); have n1_ := Aside0.mk (hbox); have n2_ := Aside0.mk ((by rw [hg]; exact (bsz (by repeat (first | (with_reducible first | exact HB.out | apply bal | apply pbN | apply bd1) | exact HB.out))) : w.heap.size ≤ gb127)); have n3_ := Aside0.mk ((by rw [hg]; exact (bsz (by repeat (first | (with_reducible first | exact HB.out | apply bal | apply pbN | apply bd1) | exact HB.out))) : w.heap.size ≤ gb127)); clear HB; have HB := n0_; have BK127 := n1_; have GW127 := n2_; have GE127 := n3_; clear n0_ n1_ n2_ n3_; clear hb hbox hg; have hcz13_0 : w12.cell? ⟨gb127, 0, none⟩ = some (.int .i64 a0_0) := (bce BK127.out 0).trans rfl; have hcz13_1 : w12.cell? ⟨gb127, 1, none⟩ = some (.int .i64 a0_1) := (bce BK127.out 1).trans rfl; have hfz13_0 := bfz BK127.out 0; have hfz13_1 := bfz BK127.out 1) | ((with_reducible refine gate_callee (f := 31) rfl ?_); refine goesL_ (some 17) rfl rfl Tryz.func31 (by kernel_rfl) rfl #[.int .i64 a0_0, .int .i64 3, .int .i64 18] rfl (by (try simp only [List.map_toArray, List.map_cons, List.map_nil]); first | done | rfl | (simp only [List.length_drop, List.length_take]; rfl)) ?_; (with_reducible refine (lex_in.calls a0_0 3 18 true _ A10.out).mono ?_); rintro e w' ⟨rfl, ⟨nd, rfl⟩⟩; refine ⟨_, rfl, ?_⟩))
    go_ret
    exact ⟨by first | rfl | (simp [errW_none, errW_some] <;> rfl) | (simp [*, errW_none, errW_some] <;> rfl), by repeat (first | (with_reducible first | exact HB.out | apply bal | apply pbN | apply bd1 | refine bst ?_ GE127.out) | exact HB.out)⟩
   ·replace c11 := Bool.eq_false_iff.mpr c11
    subst c11
    have H1 : (some false) = some r := by rw [if_neg (show ¬ (false = true) by decide)] at H; exact H
    clear H
    have H := H1
    clear H1
    obtain rfl := Option.some.inj H
    go_enter Tryz.func65, Tryz.ntmps65
    go_wp2_with (first | ((with_reducible refine gate_dst (N := 1) rfl ?_); refine box_event ?hg (N := 1) ?hd (cs := #[.int .i64 a0_0, .int .i64 a0_1]) (t := 39) ?hr ?_; (case hd => rfl); (case hg => rfl); (case hr => first | (go_simp; done) | (go_simp; rfl)); intro gb127 hg w14 hbox hb; have n0_ := Aside0.mk (bsp (by repeat (first | (with_reducible first | exact HB.out | apply bal | apply pbN | apply bd1) | exact HB.out)) hb); have n1_ := Aside0.mk (hbox); have n2_ := Aside0.mk ((by rw [hg]; exact (bsz (by repeat (first | (with_reducible first | exact HB.out | apply bal | apply pbN | apply bd1) | exact HB.out))) : w.heap.size ≤ gb127)); have n3_ := Aside0.mk ((by rw [hg]; exact (bsz (by repeat (first | (with_reducible first | exact HB.out | apply bal | apply pbN | apply bd1) | exact HB.out))) : w.heap.size ≤ gb127)); clear HB; have HB := n0_; have BK127 := n1_; have GW127 := n2_; have GE127 := n3_; clear n0_ n1_ n2_ n3_; clear hb hbox hg; have hcz15_0 : w14.cell? ⟨gb127, 0, none⟩ = some (.int .i64 a0_0) := (bce BK127.out 0).trans rfl; have hcz15_1 : w14.cell? ⟨gb127, 1, none⟩ = some (.int .i64 a0_1) := (bce BK127.out 1).trans rfl; have hfz15_0 := bfz BK127.out 0; have hfz15_1 := bfz BK127.out 1) | ((with_reducible refine gate_callee (f := 31) rfl ?_); refine goesL_ (some 17) rfl rfl Tryz.func31 (by kernel_rfl) rfl #[.int .i64 a0_0, .int .i64 3, .int .i64 18] rfl (by (try simp only [List.map_toArray, List.map_cons, List.map_nil]); first | done | rfl | (simp only [List.length_drop, List.length_take]; rfl)) ?_; (with_reducible refine (lex_in.calls a0_0 3 18 false _ A10.out).mono ?_); rintro e w' ⟨rfl, ⟨nd, rfl⟩⟩; refine ⟨_, rfl, ?_⟩))
    go_ret
    exact ⟨by first | rfl | (simp [errW_none, errW_some] <;> rfl) | (simp [*, errW_none, errW_some] <;> rfl), by repeat (first | (with_reducible first | exact HB.out | apply bal | apply pbN | apply bd1 | refine bst ?_ GE127.out) | exact HB.out)⟩

end Go.Proofs.YtikbgoppmailjaaGreatDoor.H
-- Written by hp.py (a program of this session, over the kit's print.py), with hand-made contracts beside it.
namespace Go.Proofs.YtikbgoppmailjaaGreatDoor.H
open Go.RowKit Go.Proofs.YtikbgoppmailjaaGreatDoorW.PrintWords Go.Proofs.YtikbgoppmailjaaGreatDoorW.PrintLast Go.Proofs.YtikbgoppmailjaaGreatDoorW.PrintMore
attribute [local go_sem] max2_int min2_int max_two min_two max_three min_three max_four min_four   -- for this text's walks alone
set_option linter.unusedVariables false
set_option linter.unusedSimpArgs false

-- HANDMADE remontoir/lex.Text
/-! ### lex_Text: function 42 -/
open Go.HK
def goodB (k n : Int) : Bool := if k = 1 then decide (0 ≤ n ∧ n ≤ 2147483647) else if k = 2 then decide (0 ≤ n ∧ n ≤ 25) else (decide (3 ≤ k ∧ k ≤ 18) && n == 0)
theorem lexin_eq (a b c : Int) : lex_in.f a b c = some (decide (b ≤ a ∧ a ≤ c)) := by
  unfold lex_in.f
  by_cases h : a ≥ b
  · rw [if_pos h]; congr 1; rw [decide_eq_decide]; omega
  · rw [if_neg h]; congr 1; symm; rw [decide_eq_false_iff_not]; omega
theorem good_eq (k n : Int) : lex_Good.f k n = some (goodB k n) := by
  unfold lex_Good.f goodB
  simp only [lexin_eq, Option.bind_some]
  split
  · rfl
  · split
    · rfl
    · by_cases h : (3 ≤ k ∧ k ≤ 18)
      · simp [h]
      · simp [h]
def lex_Text.t (k n : Int) : ByteArray := if k = 1 then ⟨(itoaS n).toArray⟩ else if k = 2 then ⟨#[(97 + n).toNat.toUInt8]⟩ else lexT.getD k.toNat ⟨#[]⟩
def lex_Text.f (a0_0 a0_1 : Int) : Option (ByteArray × Bool) := some (if goodB a0_0 a0_1 = true then (lex_Text.t a0_0 a0_1, true) else (⟨#[]⟩, false))
theorem rune_str (n : Int) (h0 : 0 ≤ n) (h1 : n ≤ 25) (w : World) : (convert 21 9 (.int .i32 (97 + n))).run Tryz.prog w = .ok (.string ⟨#[(97 + n).toNat.toUInt8]⟩) w := by
  rcases (by omega : n = 0 ∨ n = 1 ∨ n = 2 ∨ n = 3 ∨ n = 4 ∨ n = 5 ∨ n = 6 ∨ n = 7 ∨ n = 8 ∨ n = 9 ∨ n = 10 ∨ n = 11 ∨ n = 12 ∨ n = 13 ∨ n = 14 ∨ n = 15 ∨ n = 16 ∨ n = 17 ∨ n = 18 ∨ n = 19 ∨ n = 20 ∨ n = 21 ∨ n = 22 ∨ n = 23 ∨ n = 24 ∨ n = 25) with rfl | rfl | rfl | rfl | rfl | rfl | rfl | rfl | rfl | rfl | rfl | rfl | rfl | rfl | rfl | rfl | rfl | rfl | rfl | rfl | rfl | rfl | rfl | rfl | rfl | rfl
  all_goals kernel_rfl
set_option maxRecDepth 100000 in
set_option maxHeartbeats 1000000 in
theorem lex_Text.calls (a0_0 a0_1 : Int) (r1 : ByteArray) (r2 : Bool) (w : World) (hT : Tabs w) (h : lex_Text.f a0_0 a0_1 = some (r1, r2)) :
    Calls Tryz.prog 42 #[.agg #[.int .i64 a0_0, .int .i64 a0_1]] w fun e w' => e = .returned (.tuple #[.string r1, .bool r2]) ∧ Below w.heap.size w w' := by
  have hb0 : Below w.heap.size w (w.alloc (.cells #[.int .i64 a0_0, .int .i64 a0_1] 39)) := (Below.refl _ _).alloc (Nat.le_refl _) _
  have hT1 : Tabs (w.alloc (.cells #[.int .i64 a0_0, .int .i64 a0_1] 39)) := hT.below hb0
  have HB0 := Aside0.mk hb0
  have HT := Aside0.mk hT1
  have hnot : ∀ (x : Bool) (w : World), (Op.unary .not (.bool x)).run Tryz.prog w = .ok (.bool (!x)) w := fun _ _ => rfl
  have hblk : (w.alloc (.cells #[.int .i64 a0_0, .int .i64 a0_1] 39)).heap[w.heap.size]? = some (.cells #[.int .i64 a0_0, .int .i64 a0_1] 39) := heap_alloc_last w _
  unfold lex_Text.f at h
  have hg := good_eq a0_0 a0_1
  clear hT hT1 hb0
  cases hG : goodB a0_0 a0_1
  · rw [hG] at h hg
    simp only [Bool.false_eq_true, if_false, Option.some.injEq, Prod.mk.injEq] at h
    obtain ⟨rfl, rfl⟩ := h
    have HG := Aside0.mk hg
    clear hg hG
    go_enter Tryz.func42, Tryz.ntmps42
    go_wp2_with (first | (go_at_call 65; refine (lex_Good.calls _ _ _ _ HG.out).mono ?_; rintro e w1 ⟨rfl, hb⟩; have HB := Aside0.mk (HB0.out.trans (hb.mono (HB0.out.size))); clear hb))
    go_ret2
    exact ⟨rfl, HB.out⟩
  · rw [hG] at h hg
    simp only [if_true, Option.some.injEq, Prod.mk.injEq] at h
    obtain ⟨rfl, rfl⟩ := h
    have HG := Aside0.mk hg
    unfold goodB at hG
    clear hg
    by_cases k1 : a0_0 = 1
    · subst k1
      rw [if_pos rfl] at hG
      have hn := of_decide_eq_true hG
      obtain ⟨n0, n1⟩ := hn
      clear hG
      go_enter Tryz.func42, Tryz.ntmps42
      go_wp2_with (first | (go_at_call 65; refine (lex_Good.calls _ _ _ _ HG.out).mono ?_; rintro e w1 ⟨rfl, hb⟩; have HB := Aside0.mk (HB0.out.trans (hb.mono (HB0.out.size))); have HT1 := Aside0.mk (HT.out.below hb); replace hblk := (hb.block _ (by simp)).trans hblk; clear hb HT; have hc1 := cell_of_row _ _ 0 _ _ _ hblk; have hc2 := cell_of_row _ _ 1 _ _ _ hblk) | (go_at_call 66; refine (itoaS_calls _ (by omega) (by omega) _ HT1.out).mono ?_; rintro e w2 ⟨rfl, hb⟩; have HB2 := Aside0.mk (HB.out.trans (hb.mono HB.out.size)); clear hb))
      go_ret2
      exact ⟨rfl, HB2.out⟩
    · rw [if_neg k1] at hG
      have k1b : (a0_0 == 1) = false := beq_eq_false_iff_ne.2 k1
      by_cases k2 : a0_0 = 2
      · subst k2
        rw [if_pos rfl] at hG
        have hn := of_decide_eq_true hG
        obtain ⟨n0, n1⟩ := hn
        have hr := rune_str a0_1 n0 n1
        clear hG k1
        go_enter Tryz.func42, Tryz.ntmps42
        go_wp2_with (first | (go_at_call 65; refine (lex_Good.calls _ _ _ _ HG.out).mono ?_; rintro e w1 ⟨rfl, hb⟩; have HB := Aside0.mk (HB0.out.trans (hb.mono (HB0.out.size))); replace hblk := (hb.block _ (by simp)).trans hblk; clear hb HT; have hc1 := cell_of_row _ _ 0 _ _ _ hblk; have hc2 := cell_of_row _ _ 1 _ _ _ hblk))
        go_ret2
        exact ⟨rfl, HB.out⟩
      · rw [if_neg k2] at hG
        have k2b : (a0_0 == 2) = false := beq_eq_false_iff_ne.2 k2
        obtain ⟨hk, hn⟩ := (Bool.and_eq_true _ _).mp hG
        obtain ⟨k3, k4⟩ := of_decide_eq_true hk
        obtain rfl : a0_1 = 0 := eq_of_beq hn
        obtain ⟨kn, rfl⟩ := Int.eq_ofNat_of_zero_le (show 0 ≤ a0_0 by omega)
        have hi := fun (W : World) => idxT W kn (by omega)
        have HR := Aside0.mk (show lex_Text.t (kn : Int) 0 = lexT.getD kn ⟨#[]⟩ by unfold lex_Text.t; rw [if_neg k1, if_neg k2]; rfl)
        generalize lexT.getD kn ⟨#[]⟩ = tx at *
        have HI := Aside0.mk hi
        clear hi hG hk hn k1 k2
        go_enter Tryz.func42, Tryz.ntmps42
        go_wp2_with (first | (go_at_call 65; refine (lex_Good.calls _ _ _ _ HG.out).mono ?_; rintro e w1 ⟨rfl, hb⟩; have HB := Aside0.mk (HB0.out.trans (hb.mono (HB0.out.size))); replace hblk := (hb.block _ (by simp)).trans hblk; clear hb HT; have hc1 := cell_of_row _ _ 0 _ _ _ hblk))
        have hi := HI.out
        have hlt := World.block_lt_of_cell? w1 _ hc1
        go_region_held3 (fun W => W.cell? ⟨w.heap.size, 0, none⟩ = some (.int .i64 kn) ∧ w.heap.size < W.heap.size)
          (first
            | go_keep
            | exact ⟨(hb3.cell hlt).trans hc1, Nat.lt_of_lt_of_le hlt hb3.size⟩)
          ((go_at_call 56; refine (lex_texts _).mono ?_; rintro e w3 ⟨rfl, hb3⟩))
        go_wp2
        go_ret2
        exact ⟨by rw [HR.out]; rfl, HB.out.trans (Below.trans (Below.drew (Below.refl _ _)) (Below.mono hb3 HB.out.size))⟩


end Go.Proofs.YtikbgoppmailjaaGreatDoor.H
-- Written by hp.py (a program of this session, over the kit's print.py), with hand-made contracts beside it.
namespace Go.Proofs.YtikbgoppmailjaaGreatDoor.H
open Go.RowKit Go.Proofs.YtikbgoppmailjaaGreatDoorW.PrintWords Go.Proofs.YtikbgoppmailjaaGreatDoorW.PrintLast Go.Proofs.YtikbgoppmailjaaGreatDoorW.PrintMore
attribute [local go_sem] max2_int min2_int max_two min_two max_three min_three max_four min_four   -- for this text's walks alone
set_option linter.unusedVariables false
set_option linter.unusedSimpArgs false

-- HANDMADE strings.Join
/-! ### strings_Join: function 43 -/
def strings_Join.f (l0 : List ByteArray) (a1 : ByteArray) : Option ByteArray :=
  if (Lib.join (l0.map (·.data.toList)) a1.data.toList).length ≤ 140737488355328 ∧ l0.length ≤ 140737488355328 then some ⟨(Lib.join (l0.map (·.data.toList)) a1.data.toList).toArray⟩ else none
theorem strings_Join.calls (A0 : Option Addr) (c0 : Nat) (l0 : List ByteArray) (a1 : ByteArray) (r : ByteArray) (w : World) (hr0 : Kd.C Kd.string w A0 l0.length l0) (hc0 : l0.length ≤ c0) (h : strings_Join.f l0 a1 = some r) :
    Calls Tryz.prog 43 #[.slice A0 l0.length c0, .string a1] w fun e w' => e = .returned (.string r) ∧ Below w.heap.size w w' := by
  unfold strings_Join.f at h
  by_cases hc : (Lib.join (l0.map (·.data.toList)) a1.data.toList).length ≤ 140737488355328 ∧ l0.length ≤ 140737488355328
  · rw [if_pos hc] at h
    obtain rfl := Option.some.inj h
    by_cases h0 : l0 = []
    · subst h0
      exact (Tryz.strings_Join_none A0 c0 a1 w).mono fun e w' ⟨he, hw⟩ => ⟨he, hw ▸ Below.refl _ _⟩
    · have hpos : 0 < l0.length := by cases l0 with | nil => exact absurd rfl h0 | cons a l => simp
      obtain ⟨ad, rfl, hcell⟩ := Kd.at_string hr0 0 (by omega) (by omega)
      obtain ⟨b, o, sp⟩ := ad
      have hsp : sp = none := by
        cases sp with
        | none => rfl
        | some q =>
          have : w.cell? ((⟨b, o, some q⟩ : Addr).add (0 : Int).toNat) = none := by
            show w.cell? ⟨b, o, some q⟩ = none
            unfold World.cell?
            split <;> simp
          rw [this] at hcell
          cases hcell
      subst hsp
      have hbk : b < w.heap.size := World.block_lt_of_cell? w _ hcell
      refine Tryz.strings_Join b o c0 l0 a1 w ?_ hbk hc.2 hc0 hc.1
      intro j x hx
      have hj : j < l0.length := by
        rcases Nat.lt_or_ge j l0.length with h1 | h1
        · exact h1
        · rw [List.getElem?_eq_none h1] at hx; cases hx
      obtain ⟨ad2, e2, hcell2⟩ := Kd.at_string hr0 (j : Int) (by omega) (by omega)
      obtain rfl := Option.some.inj e2
      have e3 : (⟨b, o, none⟩ : Addr).add ((j : Int)).toNat = ⟨b, o + j, none⟩ := by
        unfold Addr.add
        split
        · rename_i h2; simp at h2; subst h2; rfl
        · simp
      rw [e3] at hcell2
      rw [hcell2]
      simp [rdOf, List.getD, hx]
  · rw [if_neg hc] at h
    exact absurd h (by simp)


end Go.Proofs.YtikbgoppmailjaaGreatDoor.H
-- Written by hp.py (a program of this session, over the kit's print.py), with hand-made contracts beside it.
namespace Go.Proofs.YtikbgoppmailjaaGreatDoor.H
open Go.RowKit Go.Proofs.YtikbgoppmailjaaGreatDoorW.PrintWords Go.Proofs.YtikbgoppmailjaaGreatDoorW.PrintLast Go.Proofs.YtikbgoppmailjaaGreatDoorW.PrintMore
attribute [local go_sem] max2_int min2_int max_two min_two max_three min_three max_four min_four   -- for this text's walks alone
set_option linter.unusedVariables false
set_option linter.unusedSimpArgs false

/-! ### lex_Print: function 22 -/
def lex_Print.l0 : Nat → List ByteArray → List (S39) → Int → Int → Option (ByteArray × Bool)
  | 0, _, _, _, _ => none
  | k + 1, x4, x9, x10, x11 => if x11 < x10 then (if 0 ≤ x11 then (if x11 < (x9.length : Int) then ((lex_Text.f ((rd_T39 x9 x11).f0) ((rd_T39 x9 x11).f1)).bind fun bt133 => (if bt133.2 = true then (if x4.length < 8796093022208 then (lex_Print.l0 k (x4 ++ [bt133.1]) x9 x10 (wrap64 (x11 + 1))) else (none)) else (some ((⟨#[]⟩ : ByteArray), false)))) else (none)) else (none)) else ((strings_Join.f x4 (⟨#[32]⟩ : ByteArray)).bind fun t138 => (some (t138, true)))
def lex_Print.f (k : Nat) (l0 : List (S39)) : Option (ByteArray × Bool) := lex_Print.l0 k ([] : List ByteArray) l0 (l0.length : Int) 0
theorem lex_Print.mono_l : ∀ k, (∀ y0 y1 y2 y3, LeO (lex_Print.l0 k y0 y1 y2 y3) (lex_Print.l0 (k + 1) y0 y1 y2 y3))
  | 0 => fun _ _ _ _ r h => by simp [lex_Print.l0] at h
  | k + 1 => by
    have ih0 := lex_Print.mono_l k
    · intro y0 y1 y2 y3
      unfold lex_Print.l0
      repeat' first
      | (with_reducible exact ih0 _ _ _ _)
      | (with_reducible exact LeO.refl _)
      | (with_reducible exact LeO.none _)
      | (with_reducible refine LeO.ite ?_ ?_)
      | (with_reducible refine LeO.bind ?_ (fun _ => ?_))
      | exact ih0 _ _ _ _
      | exact LeO.none _
      | refine LeO.ite ?_ ?_
      | refine LeO.bind ?_ (fun _ => ?_)
theorem lex_Print.mono : ∀ a0 k, LeO (lex_Print.f k a0) (lex_Print.f (k + 1) a0) := by
  intro a0 k
  have ih0 := lex_Print.mono_l k
  unfold lex_Print.f
  repeat' first
      | (with_reducible exact ih0 _ _ _ _)
      | (with_reducible exact LeO.refl _)
      | (with_reducible exact LeO.none _)
      | (with_reducible refine LeO.ite ?_ ?_)
      | (with_reducible refine LeO.bind ?_ (fun _ => ?_))
      | exact ih0 _ _ _ _
      | exact LeO.none _
      | refine LeO.ite ?_ ?_
      | refine LeO.bind ?_ (fun _ => ?_)
set_option maxHeartbeats 8000000 in
set_option maxRecDepth 100000 in
theorem lex_Print.calls (k : Nat) (A0 : Option Addr) (c0 : Nat) (l0 : List (S39)) (r1 : ByteArray) (r2 : Bool) (w : World) (hr0 : Kd.C k39 w A0 l0.length l0) (hc0 : l0.length ≤ c0) (hT : Tabs w) (h : lex_Print.f k l0 = some (r1, r2)) :
  Calls Tryz.prog 22 #[.slice A0 l0.length c0] w fun e w' => e = .returned (.tuple #[.string r1, .bool r2]) ∧ Below w.heap.size w w' := by
 have hu39 := Tryz.underlying39
 have HR0 := Aside0.mk hr0
 have HC0 := Aside0.mk hc0
 clear hr0 hc0
 have HB := Aside0.mk (Below.refl w.heap.size w)
 have H : (lex_Print.l0 k ([] : List ByteArray) l0 (l0.length : Int) 0) = some (r1, r2) := h
 clear h
 have H' := Aside0.mk H
 clear H
 go_enter Tryz.func22, Tryz.ntmps22
 go_wp2
 go_loopg [4, 11] k (fun kq v4 v11 w' => ∃ (x4_1 : List ByteArray) (x11_1 : Int), v11 = .int .i64 x11_1 ∧ Aside0 (lex_Print.l0 kq x4_1 l0 (l0.length : Int) x11_1 = some (r1, r2)) ∧ Aside0 (kq ≤ k) ∧ Aside0 (Kd.R Kd.string 9 w' w.heap.size (fun _ => True) v4 x4_1) ∧ Aside0 (Below w.heap.size w w'))
 case atStart => exact ⟨(([] : List ByteArray)), (0), (by first | rfl | (simp; done) | (simp [*]; done)), H', ⟨Nat.le_refl _⟩, ⟨by first | exact Kd.R_nil _ _ _ _ _ | exact Kd.N_nil _ _ _ _ _ | exact Kd.V_nil _ _ _ _ _ | exact Kd.Q_nil _ _ _ _ _ | exact Kd.S_nil _ _ _ _ _⟩, ⟨by repeat (first | (with_reducible first | exact HB.out | apply bal | apply pbN | apply bd1) | exact HB.out)⟩⟩
 case round =>
  clear H'
  obtain ⟨x4_1, x11_1, rfl, HA, HK1, HO_4, HB⟩ := hrel
  cases gk with
  | zero => exact absurd HA.out (by simp [lex_Print.l0])
  | succ k1 =>
   have H := HA.out
   clear HA
   simp only [lex_Print.l0] at H
   by_cases c2 : x11_1 < (l0.length : Int)
   ·rw [if_pos c2] at H
    have c2b0 : decide (x11_1 < (l0.length : Int)) = true := decide_eq_true c2
    clear c2
    by_cases c3 : 0 ≤ x11_1
    ·rw [if_pos c3] at H
     have c3b0 : decide (0 ≤ x11_1) = true := decide_eq_true c3
     clear c3
     by_cases c4 : x11_1 < (l0.length : Int)
     ·rw [if_pos c4] at H
      have c4b0 : decide (x11_1 < (l0.length : Int)) = true := decide_eq_true c4
      clear c4
      replace H := Option.bind_eq_some_iff.mp H
      obtain ⟨⟨t133, t134⟩, A50, H⟩ := H
      replace H : (if t134 = true then (if x4_1.length < 8796093022208 then (lex_Print.l0 k1 (x4_1 ++ [t133]) l0 (l0.length : Int) (wrap64 (x11_1 + 1))) else (none)) else (some ((⟨#[]⟩ : ByteArray), false))) = some (r1, r2) := H
      have A5 := Aside0.mk A50
      clear A50
      by_cases c6 : t134 = true
      ·subst c6
       have H1 : (if x4_1.length < 8796093022208 then (lex_Print.l0 k1 (x4_1 ++ [t133]) l0 (l0.length : Int) (wrap64 (x11_1 + 1))) else (none)) = some (r1, r2) := by rw [if_pos rfl] at H; exact H
       clear H
       have H := H1
       clear H1
       by_cases c7 : x4_1.length < 8796093022208
       ·rw [if_pos c7] at H
        have LMc7 := Aside0.mk c7
        clear c7
        obtain ⟨y135, hy135⟩ : ∃ y_ : List ByteArray, y_ = (x4_1 ++ [t133]) := ⟨_, rfl⟩
        replace H : (lex_Print.l0 k1 y135 l0 (l0.length : Int) (wrap64 (x11_1 + 1))) = some (r1, r2) := by first | (rw [hy135]; with_reducible exact H) | (have H2_ := (Option.bind_some _ _).symm.trans H; rw [hy135]; with_reducible exact H2_) | (have H2_ := (Option.bind_some _ _).symm.trans H; with_reducible exact H2_) | with_reducible exact H | (rw [hy135]; exact H) | exact H
        have Ny135 := Aside0.mk hy135
        clear hy135
        have H' := Aside0.mk H
        clear H
        have p131 : 0 ≤ (x11_1 : Int) := of_decide_eq_true (by first | (with_reducible assumption) | assumption)
        have q131 : x11_1 < (l0.length : Int) := of_decide_eq_true (by first | (with_reducible assumption) | assumption)
        obtain ⟨ad131, e131, hx131_0, hx131_1⟩ := at_T39 HR0.out x11_1 p131 q131
        cases e131
        replace hx131_0 := (HB.out.cell (World.block_lt_of_cell? w _ hx131_0)).trans hx131_0
        replace hx131_1 := (HB.out.cell (World.block_lt_of_cell? w _ hx131_1)).trans hx131_1
        replace p131 := eq_true p131
        replace q131 := eq_true q131
        go_wp2_with (first | ((with_reducible refine gate_dst (N := 6) rfl ?_); refine box_event ?hg (N := 6) ?hd (cs := #[.int .i64 0, .int .i64 0]) (t := 39) ?hr ?_; (case hd => rfl); (case hg => rfl); (case hr => first | (go_simp; done) | (go_simp; rfl)); intro gb132 hg w8 hbox hb; have n0_ := Aside0.mk (Kd.R_below (by (with_reducible repeat (first | apply Kd.R_alloc | apply Kd.R_drewN | apply Kd.R_drew)); exact HO_4.out) hb); have n1_ := Aside0.mk (bsp (by repeat (first | (with_reducible first | exact HB.out | apply bal | apply pbN | apply bd1) | exact HB.out)) hb); have n2_ := Aside0.mk (hbox); have n3_ := Aside0.mk ((by rw [hg]; exact (bsz (by repeat (first | (with_reducible first | exact HB.out | apply bal | apply pbN | apply bd1) | exact HB.out))) : w.heap.size ≤ gb132)); have n4_ := Aside0.mk ((by rw [hg]; exact (bsz (by repeat (first | (with_reducible first | exact HB.out | apply bal | apply pbN | apply bd1) | exact HB.out))) : w.heap.size ≤ gb132)); clear HO_4; clear HB; have HO_4 := n0_; have HB := n1_; have BK132 := n2_; have GW132 := n3_; have GE132 := n4_; clear n0_ n1_ n2_ n3_ n4_; clear hb hbox hg; have hcz9_0 : w8.cell? ⟨gb132, 0, none⟩ = some (.int .i64 0) := (bce BK132.out 0).trans rfl; have hcz9_1 : w8.cell? ⟨gb132, 1, none⟩ = some (.int .i64 0) := (bce BK132.out 1).trans rfl; have hfz9_0 := bfz BK132.out 0; have hfz9_1 := bfz BK132.out 1) | ((with_reducible refine gate_callee (f := 42) rfl ?_); refine goesL_ (some 17) rfl rfl Tryz.func42 (by kernel_rfl) rfl #[.agg #[.int .i64 ((rd_T39 l0 x11_1).f0), .int .i64 ((rd_T39 l0 x11_1).f1)]] rfl (by (try simp only [List.map_toArray, List.map_cons, List.map_nil]); first | done | rfl | (simp only [List.length_drop, List.length_take]; rfl)) ?_; (with_reducible refine (lex_Text.calls ((rd_T39 l0 x11_1).f0) ((rd_T39 l0 x11_1).f1) t133 true _ (Tabs.below hT (by repeat (first | (with_reducible first | exact HB.out | apply bal | apply pbN | apply bd1 | refine bst ?_ GE132.out) | exact HB.out))) A5.out).mono ?_); rintro e w10 ⟨rfl, hb⟩; refine ⟨_, rfl, ?_⟩; have n0_ := Aside0.mk (Kd.R_below (by (with_reducible repeat (first | apply Kd.R_alloc | apply Kd.R_drewN | apply Kd.R_drew)); exact (Kd.R_mono (Kd.R_far (p := ⟨gb132, 1, none⟩) (Kd.R_far (p := ⟨gb132, 0, none⟩) (Kd.R_types HO_4.out BK132.out (by decide)) (fun _ hk => hk.2) (.int .i64 ((rd_T39 l0 x11_1).f0))) (fun _ hk => hk.2) (.int .i64 ((rd_T39 l0 x11_1).f1))) (fun _ h_ => h_.1))) hb); have n1_ := Aside0.mk (bbe (g := gb132) (o := .cells #[.int .i64 ((rd_T39 l0 x11_1).f0), .int .i64 ((rd_T39 l0 x11_1).f1)] 39 (0, 0)) (by (with_reducible repeat (first | refine bkn ?_ _ | refine bkd ?_ | refine bka ?_ _)); refine blk_put (cs := #[.int .i64 ((rd_T39 l0 x11_1).f0), .int .i64 0]) ?_ 1 _ rfl; (with_reducible repeat (first | refine bkn ?_ _ | refine bkd ?_ | refine bka ?_ _)); refine blk_put (cs := #[.int .i64 0, .int .i64 0]) ?_ 0 _ rfl; (with_reducible repeat (first | refine bkn ?_ _ | refine bkd ?_ | refine bka ?_ _)); exact BK132.out) hb); have n2_ := Aside0.mk (bsp (by repeat (first | (with_reducible first | exact HB.out | apply bal | apply pbN | apply bd1 | refine bst ?_ GE132.out) | exact HB.out)) hb); clear HO_4; clear BK132; clear HB; have HO_4 := n0_; have BK132 := n1_; have HB := n2_; clear n0_ n1_ n2_; (try clear hb); (try clear hb2); (try clear hk); (try clear hi)) | ((with_reducible refine gate_builtin (b := .append) (xs := #[.tmp 22, .tmp 24]) rfl ?_); at_builtin; refine Kd.R_append Kd.string (w0 := w) w.heap.size rfl (.tmp 22) (.tmp 24) 72 9 (.string ⟨#[]⟩) 16 rfl Tryz.underlying72 info9 rfl (by decide) (by omega) u4 x4_1 t133 [.string t133] (fun _ => True) (fun _ => False) rfl rfl ?aP (fun _ hk => hk.elim) ?aF ?aO ?aB ?aS ?aL ?_; (case aP => exact rfl); (case aB => exact (by repeat (first | (with_reducible first | exact HB.out | apply bal | apply pbN | apply bd1 | refine bst ?_ GE132.out) | exact HB.out))); (case aF => exact (fun _ _ => trivial)); (case aO => exact (by (with_reducible repeat (first | apply Kd.R_alloc | apply Kd.R_drewN | apply Kd.R_drew)); exact HO_4.out)); (case aS => exact (bsz (by repeat (first | (with_reducible first | exact HB.out | apply bal | apply pbN | apply bd1 | refine bst ?_ GE132.out) | exact HB.out)))); (case aL => have := LMc7.out; omega); intro v136 w11 ho hb hg hat; rw [← Ny135.out] at ho; have n0_ := Aside0.mk (blk_grown (g := gb132) (o := .cells #[.int .i64 ((rd_T39 l0 x11_1).f0), .int .i64 ((rd_T39 l0 x11_1).f1)] 39 (0, 0)) (by (with_reducible repeat (first | refine bkn ?_ _ | refine bkd ?_ | refine bka ?_ _)); exact BK132.out) hg (Kd.R_ne HO_4.out BK132.out (by decide))); have n1_ := Aside0.mk (hb); have n2_ := Aside0.mk (ho); clear BK132; clear HB; clear HO_4; have BK132 := n0_; have HB := n1_; have HO137 := n2_; clear n0_ n1_ n2_; clear ho hb hg hat))
        go_roundg k1
        case measure => have := HK1.out; omega
        case rel => exact ⟨(y135), (wrap64 (x11_1 + 1)), (by first | rfl | (simp; done) | (simp [*]; done)), H', ⟨by have := HK1.out; omega⟩, ⟨by (with_reducible repeat (first | apply Kd.R_alloc | apply Kd.R_drewN | apply Kd.R_drew)); exact HO137.out⟩, ⟨by repeat (first | (with_reducible first | exact HB.out | apply bal | apply pbN | apply bd1 | refine bst ?_ GE132.out) | exact HB.out)⟩⟩
       ·rw [if_neg c7] at H
        exact absurd H (by simp)
      ·replace c6 := Bool.eq_false_iff.mpr c6
       subst c6
       have H1 : (some ((⟨#[]⟩ : ByteArray), false)) = some (r1, r2) := by rw [if_neg (show ¬ (false = true) by decide)] at H; exact H
       clear H
       have H := H1
       clear H1
       simp only [Option.some.injEq, Prod.mk.injEq] at H
       obtain ⟨rfl, rfl⟩ := H
       have p131 : 0 ≤ (x11_1 : Int) := of_decide_eq_true (by first | (with_reducible assumption) | assumption)
       have q131 : x11_1 < (l0.length : Int) := of_decide_eq_true (by first | (with_reducible assumption) | assumption)
       obtain ⟨ad131, e131, hx131_0, hx131_1⟩ := at_T39 HR0.out x11_1 p131 q131
       cases e131
       replace hx131_0 := (HB.out.cell (World.block_lt_of_cell? w _ hx131_0)).trans hx131_0
       replace hx131_1 := (HB.out.cell (World.block_lt_of_cell? w _ hx131_1)).trans hx131_1
       replace p131 := eq_true p131
       replace q131 := eq_true q131
       go_wp2_with (first | ((with_reducible refine gate_dst (N := 6) rfl ?_); refine box_event ?hg (N := 6) ?hd (cs := #[.int .i64 0, .int .i64 0]) (t := 39) ?hr ?_; (case hd => rfl); (case hg => rfl); (case hr => first | (go_simp; done) | (go_simp; rfl)); intro gb132 hg w12 hbox hb; have n0_ := Aside0.mk (Kd.R_below (by (with_reducible repeat (first | apply Kd.R_alloc | apply Kd.R_drewN | apply Kd.R_drew)); exact HO_4.out) hb); have n1_ := Aside0.mk (bsp (by repeat (first | (with_reducible first | exact HB.out | apply bal | apply pbN | apply bd1) | exact HB.out)) hb); have n2_ := Aside0.mk (hbox); have n3_ := Aside0.mk ((by rw [hg]; exact (bsz (by repeat (first | (with_reducible first | exact HB.out | apply bal | apply pbN | apply bd1) | exact HB.out))) : w.heap.size ≤ gb132)); have n4_ := Aside0.mk ((by rw [hg]; exact (bsz (by repeat (first | (with_reducible first | exact HB.out | apply bal | apply pbN | apply bd1) | exact HB.out))) : w.heap.size ≤ gb132)); clear HO_4; clear HB; have HO_4 := n0_; have HB := n1_; have BK132 := n2_; have GW132 := n3_; have GE132 := n4_; clear n0_ n1_ n2_ n3_ n4_; clear hb hbox hg; have hcz13_0 : w12.cell? ⟨gb132, 0, none⟩ = some (.int .i64 0) := (bce BK132.out 0).trans rfl; have hcz13_1 : w12.cell? ⟨gb132, 1, none⟩ = some (.int .i64 0) := (bce BK132.out 1).trans rfl; have hfz13_0 := bfz BK132.out 0; have hfz13_1 := bfz BK132.out 1) | ((with_reducible refine gate_callee (f := 42) rfl ?_); refine goesL_ (some 17) rfl rfl Tryz.func42 (by kernel_rfl) rfl #[.agg #[.int .i64 ((rd_T39 l0 x11_1).f0), .int .i64 ((rd_T39 l0 x11_1).f1)]] rfl (by (try simp only [List.map_toArray, List.map_cons, List.map_nil]); first | done | rfl | (simp only [List.length_drop, List.length_take]; rfl)) ?_; (with_reducible refine (lex_Text.calls ((rd_T39 l0 x11_1).f0) ((rd_T39 l0 x11_1).f1) t133 false _ (Tabs.below hT (by repeat (first | (with_reducible first | exact HB.out | apply bal | apply pbN | apply bd1 | refine bst ?_ GE132.out) | exact HB.out))) A5.out).mono ?_); rintro e w14 ⟨rfl, hb⟩; refine ⟨_, rfl, ?_⟩; have n0_ := Aside0.mk (Kd.R_below (by (with_reducible repeat (first | apply Kd.R_alloc | apply Kd.R_drewN | apply Kd.R_drew)); exact (Kd.R_mono (Kd.R_far (p := ⟨gb132, 1, none⟩) (Kd.R_far (p := ⟨gb132, 0, none⟩) (Kd.R_types HO_4.out BK132.out (by decide)) (fun _ hk => hk.2) (.int .i64 ((rd_T39 l0 x11_1).f0))) (fun _ hk => hk.2) (.int .i64 ((rd_T39 l0 x11_1).f1))) (fun _ h_ => h_.1))) hb); have n1_ := Aside0.mk (bbe (g := gb132) (o := .cells #[.int .i64 ((rd_T39 l0 x11_1).f0), .int .i64 ((rd_T39 l0 x11_1).f1)] 39 (0, 0)) (by (with_reducible repeat (first | refine bkn ?_ _ | refine bkd ?_ | refine bka ?_ _)); refine blk_put (cs := #[.int .i64 ((rd_T39 l0 x11_1).f0), .int .i64 0]) ?_ 1 _ rfl; (with_reducible repeat (first | refine bkn ?_ _ | refine bkd ?_ | refine bka ?_ _)); refine blk_put (cs := #[.int .i64 0, .int .i64 0]) ?_ 0 _ rfl; (with_reducible repeat (first | refine bkn ?_ _ | refine bkd ?_ | refine bka ?_ _)); exact BK132.out) hb); have n2_ := Aside0.mk (bsp (by repeat (first | (with_reducible first | exact HB.out | apply bal | apply pbN | apply bd1 | refine bst ?_ GE132.out) | exact HB.out)) hb); clear HO_4; clear BK132; clear HB; have HO_4 := n0_; have BK132 := n1_; have HB := n2_; clear n0_ n1_ n2_; (try clear hb); (try clear hb2); (try clear hk); (try clear hi)))
       go_ret2
       exact ⟨by first | rfl | (simp [errW_none, errW_some] <;> rfl) | (simp [*, errW_none, errW_some] <;> rfl), by repeat (first | (with_reducible first | exact HB.out | apply bal | apply pbN | apply bd1 | refine bst ?_ GE132.out) | exact HB.out)⟩
     ·rw [if_neg c4] at H
      exact absurd H (by simp)
    ·rw [if_neg c3] at H
     exact absurd H (by simp)
   ·rw [if_neg c2] at H
    have c2b0 : decide (x11_1 < (l0.length : Int)) = false := decide_eq_false c2
    clear c2
    replace H := Option.bind_eq_some_iff.mp H
    obtain ⟨t138, A150, H⟩ := H
    replace H : (some (t138, true)) = some (r1, r2) := H
    have A15 := Aside0.mk A150
    clear A150
    simp only [Option.some.injEq, Prod.mk.injEq] at H
    obtain ⟨rfl, rfl⟩ := H
    obtain ⟨Ao16, co16, eo16⟩ := Kd.R_slice HO_4.out
    subst eo16
    go_wp2_with (first | ((with_reducible refine gate_callee (f := 43) rfl ?_); refine goesL_ (some 28) rfl rfl Tryz.func43 (by kernel_rfl) rfl #[.slice Ao16 x4_1.length co16, .string (⟨#[32]⟩ : ByteArray)] rfl (by (try simp only [List.map_toArray, List.map_cons, List.map_nil]); first | done | rfl | (simp only [List.length_drop, List.length_take]; rfl)) ?_; (with_reducible refine (strings_Join.calls _ _ x4_1 (⟨#[32]⟩ : ByteArray) t138 _ ?side1 ?side2 A15.out).mono ?_); (case side1 => repeat (first | exact (Kd.R_reads' HO_4.out).2.2 | (with_reducible refine Kd.C_alloc ?_ _) | (with_reducible refine Kd.C_drewN ?_ _) | (with_reducible refine Kd.C_drew ?_))); (case side2 => exact (Kd.R_reads' HO_4.out).2.1); rintro e w17 ⟨rfl, hb⟩; refine ⟨_, rfl, ?_⟩; have n0_ := Aside0.mk (Kd.R_below (by (with_reducible repeat (first | apply Kd.R_alloc | apply Kd.R_drewN | apply Kd.R_drew)); exact HO_4.out) hb); have n1_ := Aside0.mk (bsp (by repeat (first | (with_reducible first | exact HB.out | apply bal | apply pbN | apply bd1) | exact HB.out)) hb); clear HO_4; clear HB; have HO_4 := n0_; have HB := n1_; clear n0_ n1_; (try clear hb); (try clear hb2); (try clear hk); (try clear hi)))
    go_ret2
    exact ⟨by first | rfl | (simp [errW_none, errW_some] <;> rfl) | (simp [*, errW_none, errW_some] <;> rfl), by repeat (first | (with_reducible first | exact HB.out | apply bal | apply pbN | apply bd1) | exact HB.out)⟩

end Go.Proofs.YtikbgoppmailjaaGreatDoor.H
