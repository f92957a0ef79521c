import Derived.Test.YtojfdekiponccaaDoorTHx4
import Derived.Test.YtojfdekiponccaaDoorTPG
import Derived.Test.YtojfdekiponccaaDoorTPA
/- guard.Good, as a plain function; the signs it takes are those that lie behind a guard. -/
namespace Go.Proofs.YtojfdekiponccaaDoor.Pure
open Go.RowKit Go.Proofs.YtojfdekiponccaaDoor.H Go.Proofs.YtojfdekiponccaaDoorW.PrintWords Go.Proofs.YtojfdekiponccaaDoorW.PrintLast Go.Proofs.YtojfdekiponccaaDoorW.PrintMore
set_option linter.unusedVariables false
set_option linter.unusedSimpArgs false
def tk (a n : Int) : Int × Bool × Bool :=
  if a = 1 then (if 0 ≤ n ∧ n ≤ 2147483647 then (0, false, false) else (-1, false, false))
  else if a = 2 then (if 0 ≤ n ∧ n < 26 then (0, false, false) else (-1, false, false))
  else if n ≠ 0 then (-1, false, false)
  else if a = 19 then (1, false, false)
  else if a = 3 ∨ a = 4 ∨ a = 5 then (2, false, false)
  else if 6 ≤ a ∧ a ≤ 11 then (2, false, true)
  else if a = 12 ∨ a = 13 then (2, true, true)
  else if a = 14 then (1, true, true) else (-1, false, false)
theorem takes_tk (k : Nat) (a n : Int) : guard_takes.f (k + 6) a n = some (tk a n) := by
  unfold guard_takes.f tk
  by_cases h1 : a = 1
  · subst h1
    rw [if_pos rfl, if_pos rfl]
    by_cases h2 : n ≥ 0
    · rw [if_pos h2]
      by_cases h3 : n ≤ 2147483647
      · rw [decide_eq_true h3, if_pos ⟨h2, h3⟩]
        rfl
      · rw [decide_eq_false h3, if_neg (fun q => h3 q.2)]
        rfl
    · rw [if_neg h2, if_neg (fun q => h2 q.1)]
      rfl
  · rw [if_neg h1, if_neg h1]
    by_cases h2 : a = 2
    · subst h2
      rw [if_pos rfl]
      have e : guard_takes.j0 (k + 6) false 2 n = if n ≥ 0 then guard_takes.j1 (k + 5) (decide (n < 26)) 2 n else guard_takes.j1 (k + 5) false 2 n := rfl
      rw [e]
      by_cases h3 : n ≥ 0
      · rw [if_pos h3]
        by_cases h4 : n < 26
        · rw [if_pos ⟨h3, h4⟩, decide_eq_true h4]
          rfl
        · rw [if_neg (fun q => h4 q.2), decide_eq_false h4]
          rfl
      · rw [if_neg h3, if_neg (fun q => h3 q.1)]
        rfl
    · rw [if_neg h2]
      have e0 : guard_takes.j0 (k + 6) false a n = if a = 2 then (if n ≥ 0 then guard_takes.j1 (k + 5) (decide (n < 26)) a n else guard_takes.j1 (k + 5) false a n) else guard_takes.j1 (k + 5) false a n := rfl
      have e1 : guard_takes.j1 (k + 5) false a n = if a = 1 then guard_takes.j2 (k + 4) (a == 1) a n else if a = 2 then guard_takes.j2 (k + 4) (a == 2) a n else guard_takes.j2 (k + 4) (n != 0) a n := rfl
      rw [e0, if_neg h2, e1, if_neg h1, if_neg h2]
      by_cases h3 : n = 0
      · rw [if_neg (fun q => q h3)]
        simp only [guard_takes.j2]
        rw [if_neg (by simp [h3])]
        by_cases h4 : a = 19
        · rw [if_pos h4, if_pos h4]
        · rw [if_neg h4, if_neg h4]
          unfold guard_sums.f
          by_cases h5 : a = 3
          · subst h5
            rfl
          · rw [if_neg h5]
            simp only [Option.bind_some]
            by_cases h6 : a = 4
            · subst h6
              rfl
            · rw [if_neg (by simp [h6])]
              simp only [guard_takes.j3]
              by_cases h7 : a = 5
              · subst h7
                rfl
              · rw [if_neg (show ¬ ((a == 5) = true) by simp [h7]), if_neg (show ¬ (a = 3 ∨ a = 4 ∨ a = 5) by omega)]
                unfold guard_compares.f
                by_cases h8 : 6 ≤ a ∧ a ≤ 11
                · rw [if_pos h8.1, if_pos h8, decide_eq_true h8.2]
                  rfl
                · rw [if_neg h8]
                  have e : (if a ≥ 6 then (some (decide (a ≤ 11))) else (some false)) = some false := by
                    split
                    · rw [decide_eq_false (by omega)]
                    · rfl
                  rw [e]
                  simp only [Option.bind_some]
                  rw [if_neg (by decide)]
                  by_cases h9 : a = 12
                  · subst h9
                    rfl
                  · rw [if_neg h9]
                    simp only [guard_takes.j4]
                    by_cases h10 : a = 13
                    · subst h10
                      rfl
                    · rw [if_neg (show ¬ ((a == 13) = true) by simp [h10]), if_neg (show ¬ (a = 12 ∨ a = 13) by omega)]
                      split <;> rfl
      · rw [if_pos h3]
        simp only [guard_takes.j2]
        rw [if_pos (by simp [h3])]
theorem idx_loop (x : List Bool) (b : Bool) (hx : x.length ≤ 1000000) : ∀ (d k i : Nat), i + d = x.length → d < k → ∃ z : Int, slices_Index_bool_bool.l0 k x b (x.length : Int) (i : Int) = some z ∧ decide (z ≥ 0) = (x.drop i).contains b
  | _, 0, _, _, hk => by omega
  | 0, k + 1, i, h, _ => by
    obtain rfl : i = x.length := by omega
    refine ⟨-1, ?_, ?_⟩
    · simp only [slices_Index_bool_bool.l0]
      rw [if_neg (by omega)]
    · rw [List.drop_length]
      rfl
  | d + 1, k + 1, i, h, hk => by
    have hi : i < x.length := by omega
    have e : rdOf false x (i : Int) = x[i] := by
      unfold rdOf
      rw [Int.toNat_natCast, List.getD_eq_getElem?_getD, List.getElem?_eq_getElem hi]
      rfl
    simp only [slices_Index_bool_bool.l0]
    rw [if_pos (by omega), if_pos (by omega), if_pos (by omega), e, List.drop_eq_getElem_cons hi]
    by_cases hb : (b == x[i]) = true
    · rw [if_pos hb]
      refine ⟨_, rfl, ?_⟩
      rw [decide_eq_true (by omega), List.contains_cons, hb]
      rfl
    · rw [if_neg hb]
      have w1 : wrap64 ((i : Int) + 1) = ((i + 1 : Nat) : Int) := by unfold wrap64; omega
      rw [w1]
      obtain ⟨z, h1, h2⟩ := idx_loop x b hx d k (i + 1) (by omega) (by omega)
      refine ⟨z, h1, ?_⟩
      rw [h2, List.contains_cons, Bool.eq_false_iff.2 hb]
      rfl
theorem contains_list (x : List Bool) (b : Bool) (hx : x.length ≤ 1000000) (k : Nat) (hk : x.length < k) : slices_Contains_bool_bool.f k x b = some (x.contains b) := by
  obtain ⟨z, h1, h2⟩ := idx_loop x b hx x.length k 0 (by omega) hk
  unfold slices_Contains_bool_bool.f slices_Index_bool_bool.f
  have h1' : slices_Index_bool_bool.l0 k x b (x.length : Int) 0 = some z := h1
  rw [h1']
  simp only [Option.bind_some]
  rw [h2]
  rfl
/-- Good, over what lies there (the last one ahead). -/
def goS : List S35 → List Bool → Bool
  | [], st => st == [true]
  | s :: l, st => if (tk s.f0 s.f1).1 < 0 ∨ (st.length : Int) < (tk s.f0 s.f1).1 then false else
      if (st.take (tk s.f0 s.f1).1.toNat).contains (!(tk s.f0 s.f1).2.1) = true then false else goS l ((tk s.f0 s.f1).2.2 :: st.drop (tk s.f0 s.f1).1.toNat)
theorem tk_le (a n : Int) : (tk a n).1 ≤ 2 := by
  unfold tk
  repeat' split
  all_goals (first | (show (0 : Int) ≤ 2; decide) | (show (-1 : Int) ≤ 2; decide) | (show (1 : Int) ≤ 2; decide) | (show (2 : Int) ≤ 2; decide))
set_option maxHeartbeats 1600000 in
theorem good_loop (l : List S35) (hl : l.length ≤ 100000) : ∀ (d i : Nat) (st : List Bool) (k : Nat), i + d = l.length → st.length ≤ i → 2 * d + 10 ≤ k → guard_Good.l0 k st.reverse l (l.length : Int) (i : Int) = some (goS (l.drop i) st)
  | 0, i, st, 0, _, _, hk => by omega
  | 0, i, st, k + 1, h, hs, hk => by
    obtain rfl : i = l.length := by omega
    simp only [guard_Good.l0]
    rw [if_neg (by omega), List.drop_length, List.length_reverse]
    match st with
    | [] => rfl
    | [b] => cases b <;> rfl
    | a :: b :: st =>
      rw [if_neg (by simp only [List.length_cons]; omega)]
      simp [goS]
  | d + 1, i, st, 0, _, _, hk => by omega
  | d + 1, i, st, 1, _, _, hk => by omega
  | d + 1, i, st, k + 2, h, hs, hk => by
    have hi : i < l.length := by omega
    have e : rd_T35 l (i : Int) = l[i] := by
      unfold rd_T35
      rw [Int.toNat_natCast, List.getD_eq_getElem?_getD, List.getElem?_eq_getElem hi]
      rfl
    obtain ⟨k6, rfl⟩ : ∃ k6, k = k6 + 5 := ⟨k - 5, by omega⟩
    have hfu : 2 * d + 10 ≤ k6 + 5 := by omega
    have hid : i + 1 + d = l.length := by omega
    have hst0 : ∀ m, (st.drop m).length + 1 ≤ i + 1 := fun m => by rw [List.length_drop]; exact Nat.succ_le_succ (Nat.le_trans (Nat.sub_le _ _) hs)
    have hsl : st.length ≤ 100000 := by omega
    have hsd : ∀ m, (st.drop m).reverse.length < 140737488355328 := fun m => by rw [List.length_reverse, List.length_drop]; omega
    have hw2 : wrap64 ((i : Int) + 1) = ((i + 1 : Nat) : Int) := by unfold wrap64; omega
    clear hk
    rw [List.drop_eq_getElem_cons hi]
    simp only [guard_Good.l0, goS]
    rw [if_pos (by omega), if_pos (by omega), if_pos (by omega), e, takes_tk k6]
    simp only [Option.bind_some]
    have h2 := tk_le l[i].f0 l[i].f1
    generalize tk l[i].f0 l[i].f1 = q at *
    obtain ⟨c, tr, is⟩ := q
    dsimp only at *
    by_cases hc : c < 0
    · rw [if_pos hc, if_pos (Or.inl hc)]
      simp only [guard_Good.j1]
      rfl
    · rw [if_neg hc, List.length_reverse]
      simp only [guard_Good.j1]
      by_cases hc2 : (st.length : Int) < c
      · rw [decide_eq_true hc2, if_pos (Or.inr hc2)]
        rfl
      · have w1 : wrap64 ((st.length : Int) - c) = ((st.length - c.toNat : Nat) : Int) := by unfold wrap64; omega
        rw [decide_eq_false hc2, if_neg (by decide), if_neg (show ¬ (c < 0 ∨ (st.length : Int) < c) by omega)]
        simp only [List.length_reverse]
        rw [w1, if_pos (by omega), if_pos (by omega), Int.toNat_natCast, List.drop_reverse, List.take_reverse]
        have e1 : st.length - (st.length - c.toNat) = c.toNat := by omega
        rw [e1, contains_list _ _ (by rw [List.length_reverse, List.length_take]; omega) _ (by rw [List.length_reverse, List.length_take]; omega)]
        simp only [Option.bind_some, List.contains_reverse]
        split
        · rfl
        · rw [if_pos (hsd _)]
          have e2 : (st.drop c.toNat).reverse ++ [is] = (is :: st.drop c.toNat).reverse := by simp
          rw [hw2, e2]
          exact good_loop l hl d (i + 1) (is :: st.drop c.toNat) (k6 + 5) hid (by rw [List.length_cons]; exact hst0 _) hfu
theorem good_goS (l : List S35) (hl : l.length ≤ 100000) (k : Nat) (hk : 2 * l.length + 10 ≤ k) : guard_Good.f k l = some (goS l []) := by
  have := good_loop l hl l.length 0 [] k (by omega) (Nat.le_refl _) hk
  rw [List.reverse_nil, List.drop_zero] at this
  unfold guard_Good.f
  exact this
theorem goS_post {b : Bool} {p : List S35} (h : Post b p) : ∀ t st, goS (p ++ t) st = goS t (b :: st) := by
  induction h with
  | num n h0 h1 =>
    intro t st
    have e : tk 1 n = (0, false, false) := by unfold tk; rw [if_pos rfl, if_pos ⟨h0, h1⟩]
    show goS ((⟨1, n⟩ : S35) :: t) st = _
    simp [goS, e]
  | name n h0 h1 =>
    intro t st
    have e : tk 2 n = (0, false, false) := by unfold tk; rw [if_neg (by decide), if_pos rfl, if_pos ⟨h0, h1⟩]
    show goS ((⟨2, n⟩ : S35) :: t) st = _
    simp [goS, e]
  | neg hp ih =>
    intro t st
    rw [List.append_assoc, ih]
    have e : tk 19 0 = (1, false, false) := by decide
    show goS ((⟨19, 0⟩ : S35) :: t) _ = _
    simp [goS, e]
    omega
  | op k h3 h5 hp hq ihp ihq =>
    intro t st
    rw [List.append_assoc, List.append_assoc, ihp, ihq]
    have e : tk k 0 = (2, false, false) := by unfold tk; rw [if_neg (by omega), if_neg (by omega), if_neg (by decide), if_neg (by omega), if_pos (by omega)]
    show goS ((⟨k, 0⟩ : S35) :: t) _ = _
    simp [goS, e]
    omega
  | cmp k h3 h5 hp hq ihp ihq =>
    intro t st
    rw [List.append_assoc, List.append_assoc, ihp, ihq]
    have e : tk k 0 = (2, false, true) := by unfold tk; rw [if_neg (by omega), if_neg (by omega), if_neg (by decide), if_neg (by omega), if_neg (by omega), if_pos (by omega)]
    show goS ((⟨k, 0⟩ : S35) :: t) _ = _
    simp [goS, e]
    omega
  | con k h3 hp hq ihp ihq =>
    intro t st
    rw [List.append_assoc, List.append_assoc, ihp, ihq]
    have e : tk k 0 = (2, true, true) := by unfold tk; rw [if_neg (by omega), if_neg (by omega), if_neg (by decide), if_neg (by omega), if_neg (by omega), if_neg (by omega), if_pos (by omega)]
    show goS ((⟨k, 0⟩ : S35) :: t) _ = _
    simp [goS, e]
    omega
  | nt hp ih =>
    intro t st
    rw [List.append_assoc, ih]
    have e : tk 14 0 = (1, true, true) := by decide
    show goS ((⟨14, 0⟩ : S35) :: t) _ = _
    simp [goS, e]
    omega
theorem good_post {p : List S35} (h : Post true p) (hl : p.length ≤ 100000) (k : Nat) (hk : 2 * p.length + 10 ≤ k) : guard_Good.f k p = some true := by
  rw [good_goS p hl k hk]
  have := goS_post h [] []
  rw [List.append_nil] at this
  rw [this]
  rfl
end Go.Proofs.YtojfdekiponccaaDoor.Pure
/- What signs are read. -/
namespace Go.Proofs.YtojfdekiponccaaDoor.Pure
open Go.RowKit Go.Proofs.YtojfdekiponccaaDoor.H Go.Proofs.YtojfdekiponccaaDoorW.PrintWords Go.Proofs.YtojfdekiponccaaDoorW.PrintLast Go.Proofs.YtojfdekiponccaaDoorW.PrintMore
set_option linter.unusedVariables false
set_option linter.unusedSimpArgs false
theorem snoc_tok (x : List S35) (s : S35) (hx : ∀ s ∈ x, tok s) (hs : tok s) : ∀ t ∈ x ++ [s], tok t := by
  intro t ht
  rcases List.mem_append.1 ht with h | h
  · exact hx t h
  · obtain rfl := List.mem_singleton.1 h
    exact hs
theorem lexF_tok : ∀ (n : Nat) (l : List UInt8) (x y : List S35) (e : Int), l.length ≤ n → (∀ s ∈ x, tok s) → lexF l x = some (y, e) → (∀ s ∈ y, tok s) := by
  intro n
  induction n with
  | zero =>
    intro l x y e h hx h1
    obtain rfl : l = [] := List.eq_nil_of_length_eq_zero (by omega)
    have h2 : lexF [] x = some (x, 0) := rfl
    rw [h2] at h1
    obtain ⟨rfl, -⟩ := Prod.mk.inj (Option.some.inj h1)
    exact hx
  | succ n ih =>
    intro l x y e h hx h1
    cases l with
    | nil =>
      have h2 : lexF [] x = some (x, 0) := rfl
      rw [h2] at h1
      obtain ⟨rfl, -⟩ := Prod.mk.inj (Option.some.inj h1)
      exact hx
    | cons c t =>
      have hlt : t.length ≤ n := by rw [List.length_cons] at h; omega
      have hdr : ∀ m, 0 < m → ((c :: t).drop m).length ≤ n := fun m hm => by rw [List.length_drop, List.length_cons]; omega
      have herr : ∀ q : Int, (some ([], q) : Option (List S35 × Int)) = some (y, e) → (∀ s ∈ y, tok s) := fun q hq => by
        obtain ⟨rfl, -⟩ := Prod.mk.inj (Option.some.inj hq)
        exact fun s hs => absurd hs (by simp)
      by_cases h32 : c = 32
      · subst h32
        rw [lexF_blank] at h1
        exact ih t x y e hlt hx h1
      · cases hd : dg c
        · cases hw : lw c
          · obtain ⟨m, hm⟩ : ∃ m : Nat, m = 19 := ⟨19, rfl⟩
            rw [lexF_symN c t x h32 hd hw m hm] at h1
            rcases longL_ok (c :: t) m with h0 | ⟨q, q1, q2, h0, q3, _⟩
            · rw [h0, if_pos rfl] at h1
              exact herr _ h1
            · rw [h0, if_neg (by show ¬ ((lexT.getD q ⟨#[]⟩).size : Int) = 0; omega)] at h1
              refine ih _ _ y e (hdr _ (by show 0 < ((lexT.getD q ⟨#[]⟩).size : Int).toNat; omega)) (snoc_tok x _ hx ?_) h1
              refine ⟨fun e => ?_, fun e => ?_⟩
              · have e : ((q : Nat) : Int) = 1 := e
                omega
              · have e : ((q : Nat) : Int) = 2 := e
                omega
          · rw [lexF_low c t x hw] at h1
            have hc : 97 ≤ c.toNat ∧ c.toNat ≤ 122 := of_decide_eq_true hw
            refine ih t _ y e hlt (snoc_tok x _ hx ?_) h1
            refine ⟨fun e => (by cases e), fun _ => ?_⟩
            show (0 : Int) ≤ (c.toNat : Int) - 97 ∧ (c.toNat : Int) - 97 ≤ 25
            omega
        · rw [lexF_num c t x hd] at h1
          split at h1
          · exact herr _ h1
          · split at h1
            · exact herr _ h1
            · rename_i hv
              refine ih _ _ y e (hdr _ (tw_pos c t hd)) (snoc_tok x _ hx ?_) h1
              refine ⟨fun _ => ⟨?_, ?_⟩, fun e => by cases e⟩
              · dsimp only
                omega
              · dsimp only
                omega
end Go.Proofs.YtojfdekiponccaaDoor.Pure
/- Texts and their signs: joined by a blank, ahead of each other. -/
namespace Go.Proofs.YtojfdekiponccaaDoor.Pure
open Go.RowKit Go.Proofs.YtojfdekiponccaaDoor.H Go.Proofs.YtojfdekiponccaaDoorW.PrintWords Go.Proofs.YtojfdekiponccaaDoorW.PrintLast Go.Proofs.YtojfdekiponccaaDoorW.PrintMore
set_option linter.unusedVariables false
set_option linter.unusedSimpArgs false
/-- A text's signs. -/
def Lx (l : List UInt8) (y : List S35) : Prop := lexF l [] = some (y, 0)
theorem Lx.ahead {l : List UInt8} {y : List S35} (h : Lx l y) (x : List S35) : lexF l x = some (x ++ y, 0) := by
  rcases lex_acc _ l x (Nat.le_refl _) with ⟨y', h1, h2⟩ | ⟨e, he, h1, _⟩
  · rw [h] at h1
    obtain ⟨rfl, -⟩ := Prod.mk.inj (Option.some.inj h1)
    exact h2
  · rw [h] at h1
    exact absurd (Prod.mk.inj (Option.some.inj h1)).2.symm he
theorem Lx.tok {l : List UInt8} {y : List S35} (h : Lx l y) : ∀ s ∈ y, Pure.tok s := by
  exact lexF_tok _ l [] y 0 (Nat.le_refl _) (fun s hs => absurd hs (by simp)) h
theorem Lx.len {l : List UInt8} {y : List S35} (h : Lx l y) : y.length ≤ l.length := by
  have := lexF_len _ l [] y 0 (Nat.le_refl _) h
  simpa using this
/-- A text that is a guard, and how it lies behind. -/
def Gx (l : List UInt8) (o : List S35) : Prop := ∃ x, Lx l x ∧ Guard x o
theorem Gx.post {l : List UInt8} {o : List S35} (h : Gx l o) : Post true o := by
  obtain ⟨x, hx, hg⟩ := h
  exact guard_post hx.tok hg
end Go.Proofs.YtojfdekiponccaaDoor.Pure
