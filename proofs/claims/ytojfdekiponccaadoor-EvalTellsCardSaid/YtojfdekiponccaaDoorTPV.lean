import Derived.Test.YtojfdekiponccaaDoorTHx11
import Derived.Test.YtojfdekiponccaaDoorTPGC
import Derived.Test.YtojfdekiponccaaDoorTHx12
/- The document's Good of chapter 14 is guard.Good's. -/
namespace Go.Proofs.YtojfdekiponccaaDoor.Pure
open Go.RowKit Go.Proofs.YtojfdekiponccaaDoor.H Go.Proofs.YtojfdekiponccaaDoorW.PrintWords Go.Proofs.YtojfdekiponccaaDoorW.PrintLast Go.Proofs.YtojfdekiponccaaDoorW.PrintMore
set_option linter.unusedVariables false
set_option linter.unusedSimpArgs false
theorem top1 (a : Bool) (st : List Bool) (h : st.length ≤ 100000) : wrap64 (((a :: st).reverse.length : Int) - 1) = (st.length : Int) ∧ rdOf false (a :: st).reverse (st.length : Int) = a := by
  constructor
  · simp only [List.length_reverse, List.length_cons]
    unfold wrap64
    omega
  · unfold rdOf
    rw [Int.toNat_natCast, List.getD_eq_getElem?_getD, List.reverse_cons, List.getElem?_append_right (by simp), List.length_reverse, Nat.sub_self]
    rfl
theorem top2 (a b : Bool) (st : List Bool) (h : st.length ≤ 100000) : wrap64 (((a :: b :: st).reverse.length : Int) - 2) = (st.length : Int) ∧ rdOf false (a :: b :: st).reverse (st.length : Int) = b := by
  constructor
  · simp only [List.length_reverse, List.length_cons]
    unfold wrap64
    omega
  · unfold rdOf
    rw [Int.toNat_natCast, List.getD_eq_getElem?_getD, List.reverse_cons, List.reverse_cons, List.append_assoc, List.getElem?_append_right (by simp), List.length_reverse, Nat.sub_self]
    rfl
theorem cut1 (a : Bool) (st : List Bool) : (a :: st).reverse.take st.length = st.reverse := by
  rw [List.reverse_cons, List.take_append_of_le_length (by simp), List.take_of_length_le (by simp)]
theorem cut2 (a b : Bool) (st : List Bool) : (a :: b :: st).reverse.take st.length = st.reverse := by
  rw [List.reverse_cons, List.reverse_cons, List.append_assoc, List.take_append_of_le_length (by simp), List.take_of_length_le (by simp)]
theorem g13_1 (c : Int) : remontoirref13_Good.f 1 c = some (decide (0 ≤ c ∧ c ≤ 2147483647)) := by
  unfold remontoirref13_Good.f
  rw [if_pos rfl]
  by_cases h : c ≥ 0
  · rw [if_pos h]
    by_cases h2 : c ≤ 2147483647
    · rw [decide_eq_true h2, decide_eq_true ⟨h, h2⟩]
    · rw [decide_eq_false h2, decide_eq_false (fun q => h2 q.2)]
  · rw [if_neg h, decide_eq_false (fun q => h q.1)]
theorem g13_2 (c : Int) : remontoirref13_Good.f 2 c = some (decide (0 ≤ c ∧ c < 26)) := by
  unfold remontoirref13_Good.f
  rw [if_neg (by omega), if_pos rfl]
  by_cases h : c ≥ 0
  · rw [if_pos h]
    by_cases h2 : c < 26
    · rw [decide_eq_true h2, decide_eq_true ⟨h, h2⟩]
    · rw [decide_eq_false h2, decide_eq_false (fun q => h2 q.2)]
  · rw [if_neg h, decide_eq_false (fun q => h q.1)]
theorem tk_1 (c : Int) : tk 1 c = (if 0 ≤ c ∧ c ≤ 2147483647 then 0 else -1, false, false) := by
  unfold tk
  rw [if_pos rfl]
  split <;> rfl
theorem tk_2 (c : Int) : tk 2 c = (if 0 ≤ c ∧ c < 26 then 0 else -1, false, false) := by
  unfold tk
  rw [if_neg (by omega), if_pos rfl]
  split <;> rfl
set_option maxHeartbeats 1600000 in
/-- One sign, in the document's loop. -/
theorem step14 (l : List S35) (hl : l.length ≤ 100000) (k i : Nat) (st : List Bool) (hi : i < l.length) (hs : st.length ≤ i) (r : Option Bool)
    (next : ∀ st', st'.length ≤ i + 1 → ∀ m, k ≤ m → remontoirref14_Good.l0 m l st'.reverse ((i + 1 : Nat) : Int) = some (goS (l.drop (i + 1)) st')) :
    ∀ m, k + 5 ≤ m → remontoirref14_Good.l0 (m + 1) l st.reverse (i : Int) = some (goS (l.drop i) st) := by
  intro m hm
  obtain ⟨n, rfl⟩ : ∃ n, m = n + 4 := ⟨m - 4, by omega⟩
  have e : rd_T35 l (i : Int) = l[i] := by
    unfold rd_T35
    rw [Int.toNat_natCast, List.getD_eq_getElem?_getD, List.getElem?_eq_getElem hi]
    rfl
  have w2 : wrap64 ((i : Int) + 1) = ((i + 1 : Nat) : Int) := by unfold wrap64; omega
  have i0 : (0 : Int) ≤ (i : Int) := by omega
  have i1 : (i : Int) < (l.length : Int) := by omega
  have hst : st.length < 140737488355328 := by omega
  rw [List.drop_eq_getElem_cons hi]
  have nx := fun st' hst' j (hj : k ≤ j) => next st' hst' j hj
  generalize l.drop (i + 1) = rest at *
  generalize hse : l[i] = s at *
  obtain ⟨a, c⟩ := s
  simp only [remontoirref14_Good.l0, goS]
  rw [if_pos i1, if_pos i0, e]
  dsimp only
  by_cases h1 : a = 1
  · subst h1
    rw [if_pos rfl]
    simp only [remontoirref14_Good.j1, if_true]
    rw [if_pos i0, if_pos i1, e]
    rw [g13_1, tk_1]
    by_cases h2 : 0 ≤ c ∧ c ≤ 2147483647
    · rw [decide_eq_true h2, if_pos h2]
      simp only [Option.bind_some, if_true]
      have q := nx (false :: st) (by simp only [List.length_cons]; omega) (n + 3) (by omega)
      rw [List.reverse_cons] at q
      rw [if_pos (by rw [List.length_reverse]; exact hst), w2, q]
      simp
    · rw [decide_eq_false h2, if_neg h2]
      simp
  · rw [if_neg h1]
    by_cases h2 : a = 2
    · subst h2
      simp only [remontoirref14_Good.j1, beq_self_eq_true, if_true]
      rw [if_pos i0, if_pos i1, e]
      rw [g13_2, tk_2]
      by_cases h3 : 0 ≤ c ∧ c < 26
      · rw [decide_eq_true h3, if_pos h3]
        simp only [Option.bind_some, if_true]
        have q := nx (false :: st) (by simp only [List.length_cons]; omega) (n + 3) (by omega)
        rw [List.reverse_cons] at q
        rw [if_pos (by rw [List.length_reverse]; exact hst), w2, q]
        simp
      · rw [decide_eq_false h3, if_neg h3]
        simp
    · have hb2 : (a == 2) = false := beq_eq_false_iff_ne.2 h2
      rw [hb2]
      simp only [remontoirref14_Good.j1, Bool.false_eq_true, if_false]
      rw [if_pos i0, if_pos i1, e]
      dsimp only
      have htk : tk a c = if c ≠ 0 then (-1, false, false) else if a = 19 then (1, false, false) else if a = 3 ∨ a = 4 ∨ a = 5 then (2, false, false) else if 6 ≤ a ∧ a ≤ 11 then (2, false, true) else if a = 12 ∨ a = 13 then (2, true, true) else if a = 14 then (1, true, true) else (-1, false, false) := by
        unfold tk
        rw [if_neg h1, if_neg h2]
      by_cases hc : c = 0
      · rw [if_pos hc]
        have htk0 := htk.trans (if_neg (show ¬ (c ≠ 0) from fun q => q hc))
        have hst2 : st.length ≤ 100000 := by omega
        by_cases h19 : a = 19
        · rw [show tk a c = (1, false, false) from htk0.trans (if_pos h19), if_pos h19]
          dsimp only
          cases st with
          | nil => rfl
          | cons t st =>
            obtain ⟨q1, q2⟩ := top1 t st (by simp only [List.length_cons] at hst2; omega)
            have q := nx (t :: st) (by omega) (n + 3) (by omega)
            rw [if_neg (by simp only [List.length_reverse, List.length_cons]; omega), q1, if_pos (by omega), if_pos (by simp only [List.length_reverse, List.length_cons]; omega), q2, w2, q]
            cases t <;> (first | (simp; done) | (simp; omega))
        · rw [if_neg h19]
          by_cases h14 : a = 14
          · rw [show tk a c = (1, true, true) by rw [htk0, if_neg h19, if_neg (by omega), if_neg (by omega), if_neg (by omega), if_pos h14], if_pos h14]
            dsimp only
            cases st with
            | nil => rfl
            | cons t st =>
              obtain ⟨q1, q2⟩ := top1 t st (by simp only [List.length_cons] at hst2; omega)
              have q := nx (t :: st) (by omega) (n + 3) (by omega)
              rw [if_neg (by simp only [List.length_reverse, List.length_cons]; omega), q1, if_pos (by omega), if_pos (by simp only [List.length_reverse, List.length_cons]; omega), q2, w2, q]
              cases t <;> (first | (simp; done) | (simp; omega))
          · rw [if_neg h14]
            have two : ∀ (x y : Bool) (tl : List Bool), tl.length + 2 ≤ i → wrap64 (((x :: y :: tl).reverse.length : Int) - 1) = ((tl.length + 1 : Nat) : Int) ∧ rdOf false (x :: y :: tl).reverse ((tl.length + 1 : Nat) : Int) = x ∧ wrap64 (((x :: y :: tl).reverse.length : Int) - 2) = (tl.length : Int) ∧ rdOf false (x :: y :: tl).reverse (tl.length : Int) = y := by
              intro x y tl htl
              obtain ⟨q1, q2⟩ := top1 x (y :: tl) (by simp only [List.length_cons]; omega)
              obtain ⟨q3, q4⟩ := top2 x y tl (by omega)
              exact ⟨q1, q2, q3, q4⟩
            by_cases h345 : a = 3 ∨ a = 4 ∨ a = 5
            · rw [show tk a c = (2, false, false) by rw [htk0, if_neg h19, if_pos h345]]
              dsimp only
              have e5 : ∀ z : Option Bool, (if a = 3 then remontoirref14_Good.j2 (n + 3) l st.reverse (↑i) a (↑st.reverse.length) true else if a = 4 then remontoirref14_Good.j2 (n + 3) l st.reverse (↑i) a (↑st.reverse.length) true else remontoirref14_Good.j2 (n + 3) l st.reverse (↑i) a (↑st.reverse.length) (a == 5)) = remontoirref14_Good.j2 (n + 3) l st.reverse (↑i) a (↑st.reverse.length) true := by
                intro _
                by_cases g3 : a = 3
                · rw [if_pos g3]
                · rw [if_neg g3]
                  by_cases g4 : a = 4
                  · rw [if_pos g4]
                  · rw [if_neg g4]
                    have g5 : a = 5 := by omega
                    rw [g5]
                    rfl
              rw [e5 none]
              simp only [remontoirref14_Good.j2, if_true]
              match st, hs with
              | [], _ => rfl
              | [x], _ => cases x <;> rfl
              | x :: y :: tl, hs =>
                obtain ⟨q1, q2, q3, q4⟩ := two x y tl (by simpa using hs)
                have q := nx (y :: tl) (by simp only [List.length_cons] at hs ⊢; omega) (n + 2) (by omega)
                have ct : (x :: y :: tl).reverse.take (tl.length + 1) = (y :: tl).reverse := cut1 x (y :: tl)
                rw [if_neg (by simp only [List.length_reverse, List.length_cons]; omega), q1, if_pos (by omega), if_pos (by simp only [List.length_reverse, List.length_cons]; omega), q2]
                cases x with
                | true =>
                  rw [if_pos (show (true = true) from rfl)]
                  (first | (simp; done) | (simp; omega))
                | false =>
                  rw [if_neg (show ¬ (false = true) by decide), q3, if_pos (by omega), if_pos (by simp only [List.length_reverse, List.length_cons]; omega), q4]
                  cases y with
                  | true =>
                    rw [if_pos (show (true = true) from rfl)]
                    (first | (simp; done) | (simp; omega))
                  | false =>
                    rw [if_neg (show ¬ (false = true) by decide), if_pos (by simp only [List.length_reverse, List.length_cons]; omega), Int.toNat_natCast, ct]
                    rw [w2, q]
                    (first | (simp; done) | (simp; omega))
            · rw [if_neg (show ¬ a = 3 by omega), if_neg (show ¬ a = 4 by omega)]
              have hb5 : (a == 5) = false := beq_eq_false_iff_ne.2 (by omega)
              rw [hb5]
              simp only [remontoirref14_Good.j2, Bool.false_eq_true, if_false]
              have e3 : (if a ≥ 6 then remontoirref14_Good.j3 (n + 2) l st.reverse (↑i) a (↑st.reverse.length) (decide (a ≤ 11)) else remontoirref14_Good.j3 (n + 2) l st.reverse (↑i) a (↑st.reverse.length) false) = remontoirref14_Good.j3 (n + 2) l st.reverse (↑i) a (↑st.reverse.length) (decide (6 ≤ a ∧ a ≤ 11)) := by
                by_cases g : a ≥ 6
                · rw [if_pos g]
                  have : (decide (a ≤ 11)) = decide (6 ≤ a ∧ a ≤ 11) := by
                    by_cases g2 : a ≤ 11
                    · rw [decide_eq_true g2, decide_eq_true ⟨g, g2⟩]
                    · rw [decide_eq_false g2, decide_eq_false (fun q => g2 q.2)]
                  rw [this]
                · rw [if_neg g, decide_eq_false (fun q => g q.1)]
              rw [e3]
              by_cases h611 : 6 ≤ a ∧ a ≤ 11
              · rw [show tk a c = (2, false, true) by rw [htk0, if_neg h19, if_neg h345, if_pos h611], decide_eq_true h611]
                dsimp only
                simp only [remontoirref14_Good.j3, if_true]
                match st, hs with
                | [], _ => rfl
                | [x], _ => cases x <;> rfl
                | x :: y :: tl, hs =>
                  obtain ⟨q1, q2, q3, q4⟩ := two x y tl (by simpa using hs)
                  have q := nx (true :: tl) (by simp only [List.length_cons] at hs ⊢; omega) (n + 1) (by omega)
                  rw [List.reverse_cons] at q
                  have ct : (x :: y :: tl).reverse.take tl.length = tl.reverse := cut2 x y tl
                  rw [if_neg (by simp only [List.length_reverse, List.length_cons]; omega), q1, if_pos (by omega), if_pos (by simp only [List.length_reverse, List.length_cons]; omega), q2]
                  cases x with
                  | true =>
                    rw [if_pos (show (true = true) from rfl)]
                    (first | (simp; done) | (simp; omega))
                  | false =>
                    rw [if_neg (show ¬ (false = true) by decide), q3, if_pos (by omega), if_pos (by simp only [List.length_reverse, List.length_cons]; omega), q4]
                    cases y with
                    | true =>
                      rw [if_pos (show (true = true) from rfl)]
                      (first | (simp; done) | (simp; omega))
                    | false =>
                      rw [if_neg (show ¬ (false = true) by decide), if_pos (by simp only [List.length_reverse, List.length_cons]; omega), Int.toNat_natCast, ct]
                      simp only [Option.bind_some]
                      rw [if_pos (by rw [List.length_reverse]; simp only [List.length_cons] at hst2; omega), w2, q]
                      (first | (simp; done) | (simp; omega))
              · rw [decide_eq_false h611]
                simp only [remontoirref14_Good.j3, Bool.false_eq_true, if_false]
                have e4 : (if a = 12 then remontoirref14_Good.j4 (n + 1) l st.reverse (↑i) (↑st.reverse.length) true else remontoirref14_Good.j4 (n + 1) l st.reverse (↑i) (↑st.reverse.length) (a == 13)) = remontoirref14_Good.j4 (n + 1) l st.reverse (↑i) (↑st.reverse.length) (decide (a = 12 ∨ a = 13)) := by
                  by_cases g : a = 12
                  · rw [if_pos g, decide_eq_true (Or.inl g)]
                  · rw [if_neg g]
                    by_cases g2 : a = 13
                    · rw [decide_eq_true (Or.inr g2), g2]
                      rfl
                    · rw [beq_eq_false_iff_ne.2 g2, decide_eq_false (by omega)]
                rw [e4]
                by_cases h12 : a = 12 ∨ a = 13
                · rw [show tk a c = (2, true, true) by rw [htk0, if_neg h19, if_neg h345, if_neg h611, if_pos h12], decide_eq_true h12]
                  dsimp only
                  simp only [remontoirref14_Good.j4, if_true]
                  match st, hs with
                  | [], _ => rfl
                  | [x], _ => cases x <;> rfl
                  | x :: y :: tl, hs =>
                    obtain ⟨q1, q2, q3, q4⟩ := two x y tl (by simpa using hs)
                    have q := nx (y :: tl) (by simp only [List.length_cons] at hs ⊢; omega) n (by omega)
                    have ct : (x :: y :: tl).reverse.take (tl.length + 1) = (y :: tl).reverse := cut1 x (y :: tl)
                    rw [if_neg (by simp only [List.length_reverse, List.length_cons]; omega), q1, if_pos (by omega), if_pos (by simp only [List.length_reverse, List.length_cons]; omega), q2]
                    cases x with
                    | false =>
                      rw [if_neg (show ¬ (false = true) by decide)]
                      (first | (simp; done) | (simp; omega))
                    | true =>
                      rw [if_pos (show (true = true) from rfl), q3, if_pos (by omega), if_pos (by simp only [List.length_reverse, List.length_cons]; omega), q4]
                      cases y with
                      | false =>
                        rw [if_neg (show ¬ (false = true) by decide)]
                        (first | (simp; done) | (simp; omega))
                      | true =>
                        rw [if_pos (show (true = true) from rfl), if_pos (by simp only [List.length_reverse, List.length_cons]; omega), Int.toNat_natCast, ct]
                        rw [w2, q]
                        (first | (simp; done) | (simp; omega))
                · rw [show tk a c = (-1, false, false) by rw [htk0, if_neg h19, if_neg h345, if_neg h611, if_neg h12, if_neg h14], decide_eq_false h12]
                  simp only [remontoirref14_Good.j4, Bool.false_eq_true, if_false]
                  simp
      · rw [if_neg hc, show tk a c = (-1, false, false) from htk.trans (if_pos hc)]
        simp
theorem good14_loop (l : List S35) (hl : l.length ≤ 100000) : ∀ (d i : Nat) (st : List Bool), i + d = l.length → st.length ≤ i → ∀ k, 6 * d + 10 ≤ k → remontoirref14_Good.l0 k l st.reverse (i : Int) = some (goS (l.drop i) st)
  | 0, i, st, h, hs, 0, hk => by omega
  | 0, i, st, h, hs, k + 1, hk => by
    obtain rfl : i = l.length := by omega
    simp only [remontoirref14_Good.l0]
    rw [if_neg (by omega), List.drop_length, List.length_reverse]
    match st with
    | [] => rfl
    | [b] => cases b <;> rfl
    | a :: b :: st =>
      rw [if_neg (by simp only [List.length_cons]; omega)]
      simp [goS]
  | d + 1, i, st, h, hs, 0, hk => by omega
  | d + 1, i, st, h, hs, k + 1, hk => step14 l hl (6 * d + 10) i st (by omega) hs none (fun st' hst' m hm => good14_loop l hl d (i + 1) st' (by omega) hst' m hm) k (by omega)
theorem good14 (l : List S35) (hl : l.length ≤ 100000) (k : Nat) (hk : 6 * l.length + 10 ≤ k) : remontoirref14_Good.f k l = some (goS l []) := by
  have := good14_loop l hl l.length 0 [] (by omega) (Nat.le_refl _) k hk
  rw [List.reverse_nil, List.drop_zero] at this
  unfold remontoirref14_Good.f
  exact this
end Go.Proofs.YtojfdekiponccaaDoor.Pure
/- The signs that Good takes are a guard, behind. -/
namespace Go.Proofs.YtojfdekiponccaaDoor.Pure
open Go.RowKit Go.Proofs.YtojfdekiponccaaDoor.H Go.Proofs.YtojfdekiponccaaDoorW.PrintWords Go.Proofs.YtojfdekiponccaaDoorW.PrintLast Go.Proofs.YtojfdekiponccaaDoorW.PrintMore
set_option linter.unusedVariables false
set_option linter.unusedSimpArgs false
/-- What lies there, laid out. -/
def flat : List (Bool × List S35) → List S35
  | [] => []
  | x :: ps => flat ps ++ x.2
theorem tk_sym (a c : Int) (h1 : ¬ a = 1) (h2 : ¬ a = 2) : tk a c = if c ≠ 0 then (-1, false, false) else if a = 19 then (1, false, false) else if a = 3 ∨ a = 4 ∨ a = 5 then (2, false, false) else if 6 ≤ a ∧ a ≤ 11 then (2, false, true) else if a = 12 ∨ a = 13 then (2, true, true) else if a = 14 then (1, true, true) else (-1, false, false) := by
  unfold tk
  rw [if_neg h1, if_neg h2]
theorem goS_next {s : S35} {l : List S35} {st : List Bool} {c : Int} {tr is : Bool} (ht : tk s.f0 s.f1 = (c, tr, is)) (h : goS (s :: l) st = true) : 0 ≤ c ∧ c ≤ st.length ∧ (st.take c.toNat).contains (!tr) = false ∧ goS l (is :: st.drop c.toNat) = true := by
  simp only [goS] at h
  rw [ht] at h
  dsimp only at h
  split at h
  · cases h
  · rename_i q
    split at h
    · cases h
    · rename_i q2
      exact ⟨by omega, by omega, Bool.eq_false_iff.2 q2, h⟩
theorem post_inv : ∀ (l : List S35) (ps : List (Bool × List S35)), (∀ x ∈ ps, Post x.1 x.2) → goS l (ps.map (·.1)) = true → Post true (flat ps ++ l)
  | [], ps, hp, h => by
    have h : (ps.map (·.1) == [true]) = true := h
    have e := beq_iff_eq.1 h
    cases ps with
    | nil => cases e
    | cons x ps =>
      have e' : x.1 :: ps.map (·.1) = [true] := e
      have e1 : x.1 = true := (List.cons.inj e').1
      have e2 : ps = [] := List.map_eq_nil_iff.1 (List.cons.inj e').2
      subst e2
      have q := hp x (by simp)
      rw [e1] at q
      simpa [flat] using q
  | s :: l, ps, hp, h => by
    have one : ∀ (tr is : Bool), tk s.f0 s.f1 = (1, tr, is) → (∀ p, Post tr p → Post is (p ++ [s])) → Post true (flat ps ++ s :: l) := by
      intro tr is ht hmk
      obtain ⟨_, h2, h3, h4⟩ := goS_next ht h
      match ps, hp, h2, h3, h4 with
      | [], _, h2, _, _ => exact absurd h2 (by simp)
      | (b, p) :: ps, hp, _, h3, h4 =>
        have hb : b = tr := by
          have : ([b] : List Bool).contains (!tr) = false := h3
          cases b <;> cases tr <;> first | rfl | (exact absurd this (by decide))
        subst hb
        have q := post_inv l ((is, p ++ [s]) :: ps) (fun x hx => by
          rcases List.mem_cons.1 hx with rfl | hx
          · exact hmk p (hp (b, p) (by simp))
          · exact hp x (by simp [hx])) h4
        simpa [flat] using q
    have two : ∀ (tr is : Bool), tk s.f0 s.f1 = (2, tr, is) → (∀ p q, Post tr p → Post tr q → Post is (p ++ q ++ [s])) → Post true (flat ps ++ s :: l) := by
      intro tr is ht hmk
      obtain ⟨_, h2, h3, h4⟩ := goS_next ht h
      match ps, hp, h2, h3, h4 with
      | [], _, h2, _, _ => exact absurd h2 (by simp)
      | [x], _, h2, _, _ => exact absurd h2 (by simp)
      | (b, q) :: (d, p) :: ps, hp, _, h3, h4 =>
        have hb : b = tr ∧ d = tr := by
          have : ([b, d] : List Bool).contains (!tr) = false := h3
          cases b <;> cases d <;> cases tr <;> first | exact ⟨rfl, rfl⟩ | (exact absurd this (by decide))
        obtain ⟨rfl, rfl⟩ := hb
        have r := post_inv l ((is, p ++ q ++ [s]) :: ps) (fun x hx => by
          rcases List.mem_cons.1 hx with rfl | hx
          · exact hmk p q (hp (d, p) (by simp)) (hp (d, q) (by simp))
          · exact hp x (by simp [hx])) h4
        simpa [flat] using r
    have zero : tk s.f0 s.f1 = (0, false, false) → Post false [s] → Post true (flat ps ++ s :: l) := by
      intro ht hmk
      obtain ⟨_, _, _, h4⟩ := goS_next ht h
      have q := post_inv l ((false, [s]) :: ps) (fun x hx => by
        rcases List.mem_cons.1 hx with rfl | hx
        · exact hmk
        · exact hp x hx) (by simpa using h4)
      simpa [flat] using q
    have neg : ∀ (tr is : Bool), tk s.f0 s.f1 = (-1, tr, is) → Post true (flat ps ++ s :: l) := by
      intro tr is ht
      obtain ⟨h1, _⟩ := goS_next ht h
      omega
    obtain ⟨a, c⟩ := s
    dsimp only at *
    by_cases h1 : a = 1
    · subst h1
      by_cases hc : 0 ≤ c ∧ c ≤ 2147483647
      · exact zero (by rw [tk_1, if_pos hc]) (Post.num c hc.1 hc.2)
      · exact neg false false (by rw [tk_1, if_neg hc])
    · by_cases h2 : a = 2
      · subst h2
        by_cases hc : 0 ≤ c ∧ c < 26
        · exact zero (by rw [tk_2, if_pos hc]) (Post.name c hc.1 hc.2)
        · exact neg false false (by rw [tk_2, if_neg hc])
      · have ht := tk_sym a c h1 h2
        by_cases hc : c = 0
        · subst hc
          rw [if_neg (show ¬ ((0 : Int) ≠ 0) by simp)] at ht
          by_cases h19 : a = 19
          · rw [if_pos h19] at ht
            subst h19
            exact one false false ht (fun p hp => Post.neg hp)
          · rw [if_neg h19] at ht
            by_cases h3 : a = 3 ∨ a = 4 ∨ a = 5
            · rw [if_pos h3] at ht
              exact two false false ht (fun p q hp hq => Post.op a (by omega) (by omega) hp hq)
            · rw [if_neg h3] at ht
              by_cases h6 : 6 ≤ a ∧ a ≤ 11
              · rw [if_pos h6] at ht
                exact two false true ht (fun p q hp hq => Post.cmp a h6.1 h6.2 hp hq)
              · rw [if_neg h6] at ht
                by_cases h12 : a = 12 ∨ a = 13
                · rw [if_pos h12] at ht
                  exact two true true ht (fun p q hp hq => Post.con a h12 hp hq)
                · rw [if_neg h12] at ht
                  by_cases h14 : a = 14
                  · rw [if_pos h14] at ht
                    subst h14
                    exact one true true ht (fun p hp => Post.nt hp)
                  · rw [if_neg h14] at ht
                    exact neg false false ht
        · rw [if_pos hc] at ht
          exact neg false false ht
theorem goS_iff (l : List S35) : goS l [] = true ↔ Post true l := by
  constructor
  · intro h
    have := post_inv l [] (fun x hx => absurd hx (by simp)) h
    simpa [flat] using this
  · intro h
    have := goS_post h [] []
    rw [List.append_nil] at this
    rw [this]
    rfl
end Go.Proofs.YtojfdekiponccaaDoor.Pure
/- Where a part of a guard begins. -/
namespace Go.Proofs.YtojfdekiponccaaDoor.Pure
open Go.RowKit Go.Proofs.YtojfdekiponccaaDoor.H Go.Proofs.YtojfdekiponccaaDoorW.PrintWords Go.Proofs.YtojfdekiponccaaDoorW.PrintLast Go.Proofs.YtojfdekiponccaaDoorW.PrintMore
set_option linter.unusedVariables false
set_option linter.unusedSimpArgs false
theorem rd_nat (l : List S35) (i : Nat) (hi : i < l.length) : rd_T35 l (i : Int) = l[i] := by
  unfold rd_T35
  rw [Int.toNat_natCast, List.getD_eq_getElem?_getD, List.getElem?_eq_getElem hi]
  rfl
theorem begin_leaf (L : List S35) (i want k : Nat) (hi : i < L.length) (hl : L.length ≤ 100000) (hk : L[i].f0 = 1 ∨ L[i].f0 = 2) (hw : want ≤ 100000) :
    remontoirref15_begin.l0 (k + 2) L ((want + 1 : Nat) : Int) (i : Int) = if want = 0 then some (i : Int) else remontoirref15_begin.l0 k L (want : Int) ((i : Int) - 1) := by
  have w1 : wrap64 (((want + 1 : Nat) : Int) - 1) = (want : Int) := by unfold wrap64; omega
  have w2 : wrap64 ((i : Int) - 1) = (i : Int) - 1 := by unfold wrap64; omega
  simp only [remontoirref15_begin.l0]
  rw [if_pos (by omega), if_pos (by omega), rd_nat L i hi]
  have e : (if L[i].f0 = 1 then remontoirref15_begin.j1 (k + 1) L ((want + 1 : Nat) : Int) (i : Int) L[i].f0 true else remontoirref15_begin.j1 (k + 1) L ((want + 1 : Nat) : Int) (i : Int) L[i].f0 (L[i].f0 == 2)) = remontoirref15_begin.j1 (k + 1) L ((want + 1 : Nat) : Int) (i : Int) L[i].f0 true := by
    rcases hk with h | h
    · rw [if_pos h]
    · rw [if_neg (by omega), h]
      rfl
  rw [e]
  simp only [remontoirref15_begin.j1, if_true]
  rw [w1, w2]
  by_cases h : want = 0
  · rw [if_pos (by omega), if_pos h]
  · rw [if_neg (by omega), if_neg h]
theorem begin_un (L : List S35) (i want k : Nat) (hi : i < L.length) (hl : L.length ≤ 100000) (hk : L[i].f0 = 19 ∨ L[i].f0 = 14) (hw : want ≤ 100000) :
    remontoirref15_begin.l0 (k + 3) L ((want + 1 : Nat) : Int) (i : Int) = remontoirref15_begin.l0 k L ((want + 1 : Nat) : Int) ((i : Int) - 1) := by
  have w2 : wrap64 ((i : Int) - 1) = (i : Int) - 1 := by unfold wrap64; omega
  simp only [remontoirref15_begin.l0]
  rw [if_pos (by omega), if_pos (by omega), rd_nat L i hi, if_neg (by omega), beq_eq_false_iff_ne.2 (show L[i].f0 ≠ 2 by omega)]
  simp only [remontoirref15_begin.j1, Bool.false_eq_true, if_false]
  have e : (if L[i].f0 = 19 then remontoirref15_begin.j2 (k + 1) L ((want + 1 : Nat) : Int) (i : Int) false else remontoirref15_begin.j2 (k + 1) L ((want + 1 : Nat) : Int) (i : Int) (L[i].f0 != 14)) = remontoirref15_begin.j2 (k + 1) L ((want + 1 : Nat) : Int) (i : Int) false := by
    rcases hk with h | h
    · rw [if_pos h]
    · rw [if_neg (by omega), h]
      rfl
  rw [e]
  simp only [remontoirref15_begin.j2, Bool.false_eq_true, if_false]
  rw [if_neg (by omega), w2]
theorem begin_bin (L : List S35) (i want k : Nat) (hi : i < L.length) (hl : L.length ≤ 100000) (hk : 3 ≤ L[i].f0 ∧ L[i].f0 ≤ 13) (hw : want ≤ 100000) :
    remontoirref15_begin.l0 (k + 3) L ((want + 1 : Nat) : Int) (i : Int) = remontoirref15_begin.l0 k L ((want + 1 + 1 : Nat) : Int) ((i : Int) - 1) := by
  have w1 : wrap64 (((want + 1 : Nat) : Int) + 1) = ((want + 1 + 1 : Nat) : Int) := by unfold wrap64; omega
  have w2 : wrap64 ((i : Int) - 1) = (i : Int) - 1 := by unfold wrap64; omega
  simp only [remontoirref15_begin.l0]
  rw [if_pos (by omega), if_pos (by omega), rd_nat L i hi, if_neg (by omega), beq_eq_false_iff_ne.2 (show L[i].f0 ≠ 2 by omega)]
  simp only [remontoirref15_begin.j1, Bool.false_eq_true, if_false]
  rw [if_neg (by omega), bne_iff_ne.2 (show L[i].f0 ≠ 14 by omega)]
  simp only [remontoirref15_begin.j2, if_true]
  rw [w1, w2, if_neg (by omega)]
theorem at_mid (pre : List S35) (s : S35) (post : List S35) (h : pre.length < (pre ++ s :: post).length) : (pre ++ s :: post)[pre.length] = s := by simp
theorem begin_post {b : Bool} {p : List S35} (h : Post b p) : ∀ (L pre post : List S35) (want : Nat) (r : Int), L = pre ++ p ++ post → L.length ≤ 100000 → want + p.length ≤ 100000 →
    (if want = 0 then r = (pre.length : Int) else ∃ k, remontoirref15_begin.l0 k L (want : Int) ((pre.length : Int) - 1) = some r) → ∃ k, remontoirref15_begin.l0 k L ((want + 1 : Nat) : Int) ((pre.length : Int) + (p.length : Int) - 1) = some r := by
  have leaf : ∀ (s : S35) (L pre post : List S35) (want : Nat) (r : Int), (s.f0 = 1 ∨ s.f0 = 2) → L = pre ++ [s] ++ post → L.length ≤ 100000 → want + 1 ≤ 100000 →
      (if want = 0 then r = (pre.length : Int) else ∃ k, remontoirref15_begin.l0 k L (want : Int) ((pre.length : Int) - 1) = some r) → ∃ k, remontoirref15_begin.l0 k L ((want + 1 : Nat) : Int) ((pre.length : Int) + (([s] : List S35).length : Int) - 1) = some r := by
    intro s L pre post want r hs hL hl hw hr
    have hL2 : L = pre ++ s :: post := by rw [hL]; simp
    subst hL2
    have hi : pre.length < (pre ++ s :: post).length := by simp
    have e : (pre.length : Int) + (([s] : List S35).length : Int) - 1 = (pre.length : Int) := by simp
    rw [e]
    by_cases h0 : want = 0
    · rw [if_pos h0] at hr
      exact ⟨2, by rw [begin_leaf _ pre.length want 0 hi hl (by rw [at_mid pre s post hi]; exact hs) (by omega), if_pos h0, hr]⟩
    · rw [if_neg h0] at hr
      obtain ⟨k, hk⟩ := hr
      exact ⟨k + 2, by rw [begin_leaf _ pre.length want k hi hl (by rw [at_mid pre s post hi]; exact hs) (by omega), if_neg h0, hk]⟩
  have un : ∀ (p : List S35) (s : S35), (s.f0 = 19 ∨ s.f0 = 14) → (∀ (L pre post : List S35) (want : Nat) (r : Int), L = pre ++ p ++ post → L.length ≤ 100000 → want + p.length ≤ 100000 → (if want = 0 then r = (pre.length : Int) else ∃ k, remontoirref15_begin.l0 k L (want : Int) ((pre.length : Int) - 1) = some r) → ∃ k, remontoirref15_begin.l0 k L ((want + 1 : Nat) : Int) ((pre.length : Int) + (p.length : Int) - 1) = some r) →
      ∀ (L pre post : List S35) (want : Nat) (r : Int), L = pre ++ (p ++ [s]) ++ post → L.length ≤ 100000 → want + (p ++ [s]).length ≤ 100000 → (if want = 0 then r = (pre.length : Int) else ∃ k, remontoirref15_begin.l0 k L (want : Int) ((pre.length : Int) - 1) = some r) → ∃ k, remontoirref15_begin.l0 k L ((want + 1 : Nat) : Int) ((pre.length : Int) + ((p ++ [s]).length : Int) - 1) = some r := by
    intro p s hs ih L pre post want r hL hl hw hr
    rw [List.length_append] at hw
    have hw : want + (p.length + 1) ≤ 100000 := hw
    obtain ⟨k, hk⟩ := ih L pre (s :: post) want r (by rw [hL]; simp) hl (by omega) hr
    have hL2 : L = (pre ++ p) ++ s :: post := by rw [hL]; simp
    have hi : (pre ++ p).length < L.length := by rw [hL2]; simp
    have hat : L[(pre ++ p).length] = s := by subst hL2; exact at_mid (pre ++ p) s post hi
    refine ⟨k + 3, ?_⟩
    have e : (pre.length : Int) + ((p ++ [s]).length : Int) - 1 = ((pre ++ p).length : Int) := by simp only [List.length_append, List.length_cons, List.length_nil]; omega
    rw [e, begin_un L _ want k hi hl (by rw [hat]; exact hs) (by omega), ← hk]
    congr 1
    simp only [List.length_append]
    omega
  have bin : ∀ (p q : List S35) (s : S35), (3 ≤ s.f0 ∧ s.f0 ≤ 13) → (∀ (L pre post : List S35) (want : Nat) (r : Int), L = pre ++ p ++ post → L.length ≤ 100000 → want + p.length ≤ 100000 → (if want = 0 then r = (pre.length : Int) else ∃ k, remontoirref15_begin.l0 k L (want : Int) ((pre.length : Int) - 1) = some r) → ∃ k, remontoirref15_begin.l0 k L ((want + 1 : Nat) : Int) ((pre.length : Int) + (p.length : Int) - 1) = some r) →
      (∀ (L pre post : List S35) (want : Nat) (r : Int), L = pre ++ q ++ post → L.length ≤ 100000 → want + q.length ≤ 100000 → (if want = 0 then r = (pre.length : Int) else ∃ k, remontoirref15_begin.l0 k L (want : Int) ((pre.length : Int) - 1) = some r) → ∃ k, remontoirref15_begin.l0 k L ((want + 1 : Nat) : Int) ((pre.length : Int) + (q.length : Int) - 1) = some r) →
      ∀ (L pre post : List S35) (want : Nat) (r : Int), L = pre ++ (p ++ q ++ [s]) ++ post → L.length ≤ 100000 → want + (p ++ q ++ [s]).length ≤ 100000 → (if want = 0 then r = (pre.length : Int) else ∃ k, remontoirref15_begin.l0 k L (want : Int) ((pre.length : Int) - 1) = some r) → ∃ k, remontoirref15_begin.l0 k L ((want + 1 : Nat) : Int) ((pre.length : Int) + ((p ++ q ++ [s]).length : Int) - 1) = some r := by
    intro p q s hs ihp ihq L pre post want r hL hl hw hr
    rw [List.length_append, List.length_append] at hw
    have hw : want + (p.length + q.length + 1) ≤ 100000 := hw
    obtain ⟨k1, hk1⟩ := ihp L pre (q ++ s :: post) want r (by rw [hL]; simp) hl (by omega) hr
    obtain ⟨k, hk⟩ := ihq L (pre ++ p) (s :: post) (want + 1) r (by rw [hL]; simp) hl (by omega) (by
      rw [if_neg (by omega)]
      refine ⟨k1, ?_⟩
      rw [← hk1]
      congr 1
      simp only [List.length_append]
      omega)
    have hL2 : L = (pre ++ p ++ q) ++ s :: post := by rw [hL]; simp
    have hi : (pre ++ p ++ q).length < L.length := by rw [hL2]; simp
    have hat : L[(pre ++ p ++ q).length] = s := by subst hL2; exact at_mid (pre ++ p ++ q) s post hi
    refine ⟨k + 3, ?_⟩
    have e : (pre.length : Int) + ((p ++ q ++ [s]).length : Int) - 1 = ((pre ++ p ++ q).length : Int) := by simp only [List.length_append, List.length_cons, List.length_nil]; omega
    rw [e, begin_bin L _ want k hi hl (by rw [hat]; exact hs) (by omega), ← hk]
    congr 1
    simp only [List.length_append]
    omega
  induction h with
  | num n h0 h1 => exact fun L pre post want r => leaf ⟨1, n⟩ L pre post want r (Or.inl rfl)
  | name n h0 h1 => exact fun L pre post want r => leaf ⟨2, n⟩ L pre post want r (Or.inr rfl)
  | neg hp ih => exact un _ ⟨19, 0⟩ (Or.inl rfl) ih
  | op k h3 h5 hp hq ihp ihq => exact bin _ _ ⟨k, 0⟩ ⟨h3, by show k ≤ 13; omega⟩ ihp ihq
  | cmp k h3 h5 hp hq ihp ihq => exact bin _ _ ⟨k, 0⟩ ⟨by show 3 ≤ k; omega, by show k ≤ 13; omega⟩ ihp ihq
  | con k h3 hp hq ihp ihq => exact bin _ _ ⟨k, 0⟩ ⟨by show 3 ≤ k; omega, by show k ≤ 13; omega⟩ ihp ihq
  | nt hp ih => exact un _ ⟨14, 0⟩ (Or.inr rfl) ih
theorem begin_at {b : Bool} {p : List S35} (h : Post b p) (L pre post : List S35) (hL : L = pre ++ p ++ post) (hl : L.length ≤ 100000) : ∃ k, remontoirref15_begin.f k L ((pre.length : Int) + (p.length : Int) - 1) = some (pre.length : Int) := by
  have hpl : p.length ≤ L.length := by rw [hL]; simp only [List.length_append]; omega
  obtain ⟨k, hk⟩ := begin_post h L pre post 0 (pre.length : Int) hL hl (by omega) (by rw [if_pos rfl])
  exact ⟨k, hk⟩
end Go.Proofs.YtojfdekiponccaaDoor.Pure
