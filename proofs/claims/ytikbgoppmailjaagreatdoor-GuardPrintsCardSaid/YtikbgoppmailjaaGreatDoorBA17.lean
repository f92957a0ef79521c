/- Parts of the proof of LawGuardPrints: words, contracts of the functions, plain laws. -/
import Derived.Test.YtikbgoppmailjaaGreatDoorBA04
import Derived.Test.YtikbgoppmailjaaGreatDoorBA16
import Derived.Test.YtikbgoppmailjaaGreatDoorBA07
import Derived.Test.YtikbgoppmailjaaGreatDoorBA06
import Derived.KernelRfl
import Derived.Test.YtikbgoppmailjaaGreatDoorBA05
import Derived.Test.YtikbgoppmailjaaGreatDoorBA03
import Derived.Test.YtikbgoppmailjaaGreatDoorRows
import Derived.LaidMore
import Derived.Lay
import Derived.Stop.LaidErr
import Derived.Stop.Joined
import Derived.MakeChecks
import Derived.Lib.LaidTab
/- What lex.Print says of signs. -/
namespace Go.Proofs.YtikbgoppmailjaaGreatDoor.Pure
open Go.RowKit Go.Proofs.YtikbgoppmailjaaGreatDoor.H Go.Proofs.YtikbgoppmailjaaGreatDoorW.PrintWords Go.Proofs.YtikbgoppmailjaaGreatDoorW.PrintLast Go.Proofs.YtikbgoppmailjaaGreatDoorW.PrintMore
set_option linter.unusedVariables false
set_option linter.unusedSimpArgs false
theorem rd_at (l : List S39) (i : Nat) (h : i < l.length) : rd_T39 l (i : Int) = l[i] := by
  unfold rd_T39
  rw [Int.toNat_natCast, List.getD_eq_getElem?_getD, List.getElem?_eq_getElem h]
  rfl
theorem good_take (l : List S39) (i : Nat) (h : i < l.length) (hg : goodAll (l.take i) = true) : goodAll (l.take (i + 1)) = goodB l[i].f0 l[i].f1 := by
  rw [take_snoc l i h]
  unfold goodAll at hg ⊢
  rw [List.all_append, hg]
  simp
theorem good_all_false (l : List S39) (i : Nat) (h : i < l.length) (hb : goodB l[i].f0 l[i].f1 = false) : goodAll l = false := by
  unfold goodAll
  rw [List.all_eq_false]
  exact ⟨l[i], List.getElem_mem h, by simp [hb]⟩
theorem impl_loop (l : List S39) (hl : l.length ≤ 400) : ∀ (d i k : Nat), i + d = l.length → d < k → goodAll (l.take i) = true →
    lex_Print.l0 k ((l.take i).map fun s => lex_Text.t s.f0 s.f1) l (l.length : Int) (i : Int) = some (prS l) := by
  intro d
  induction d with
  | zero =>
    intro i k hi hk hg
    obtain ⟨k, rfl⟩ : ∃ m, k = m + 1 := ⟨k - 1, by omega⟩
    simp only [lex_Print.l0]
    rw [if_neg (by omega)]
    have hti : l.take i = l := List.take_of_length_le (by omega)
    rw [hti] at hg ⊢
    have hj : Lib.join ((l.map fun s => lex_Text.t s.f0 s.f1).map (·.data.toList)) (⟨#[32]⟩ : ByteArray).data.toList = prL l := by
      unfold prL txts
      rw [List.map_map]
      rfl
    have hlen := prL_len l l.length (Nat.le_refl _)
    rw [List.take_length] at hlen
    unfold strings_Join.f
    rw [hj, if_pos ⟨by omega, by rw [List.length_map]; omega⟩]
    unfold prS
    rw [if_pos hg]
    rfl
  | succ d ih =>
    intro i k hi hk hg
    obtain ⟨k, rfl⟩ : ∃ m, k = m + 1 := ⟨k - 1, by omega⟩
    have hil : i < l.length := by omega
    simp only [lex_Print.l0]
    rw [if_pos (by omega), if_pos (by omega), if_pos (by omega), rd_at l i hil]
    unfold lex_Text.f
    simp only [Option.bind_some]
    cases hb : goodB l[i].f0 l[i].f1
    · simp only [Bool.false_eq_true, if_false]
      unfold prS
      rw [good_all_false l i hil hb]
      rfl
    · simp only [if_true]
      rw [if_pos (by rw [List.length_map, List.length_take]; omega)]
      have e1 : wrap64 ((i : Int) + 1) = ((i + 1 : Nat) : Int) := by unfold wrap64; omega
      rw [e1]
      have := ih (i + 1) k (by omega) (by omega) (by rw [good_take l i hil hg]; exact hb)
      rw [take_snoc l i hil, List.map_append] at this
      exact this
theorem impl_print (l : List S39) (hl : l.length ≤ 400) (k : Nat) (hk : 401 ≤ k) : lex_Print.f k l = some (prS l) := by
  unfold lex_Print.f
  exact impl_loop l hl l.length 0 k (by omega) (by omega) rfl
end Go.Proofs.YtikbgoppmailjaaGreatDoor.Pure
/- A sign's text: the document's and the program's are one. -/
namespace Go.Proofs.YtikbgoppmailjaaGreatDoor.Pure
open Go.RowKit Go.Proofs.YtikbgoppmailjaaGreatDoor.H Go.Proofs.YtikbgoppmailjaaGreatDoorW.PrintWords Go.Proofs.YtikbgoppmailjaaGreatDoorW.PrintLast Go.Proofs.YtikbgoppmailjaaGreatDoorW.PrintMore
set_option linter.unusedVariables false
set_option linter.unusedSimpArgs false
theorem ofL (i : Nat) (h1 : 3 ≤ i) (h2 : i ≤ 18) : remontoirref13_of.f (i : Int) = some (lexT.getD i ⟨#[]⟩) := by
  rcases (by omega : i = 3 ∨ i = 4 ∨ i = 5 ∨ i = 6 ∨ i = 7 ∨ i = 8 ∨ i = 9 ∨ i = 10 ∨ i = 11 ∨ i = 12 ∨ i = 13 ∨ i = 14 ∨ i = 15 ∨ i = 16 ∨ i = 17 ∨ i = 18) with rfl | rfl | rfl | rfl | rfl | rfl | rfl | rfl | rfl | rfl | rfl | rfl | rfl | rfl | rfl | rfl
  all_goals kernel_rfl
theorem refGood (k n : Int) : remontoirref13_Good.f k n = some (goodB k n) := by
  unfold remontoirref13_Good.f goodB
  by_cases h1 : k = 1
  · rw [if_pos h1, if_pos h1]
    by_cases h : n ≥ 0
    · rw [if_pos h]; congr 1; rw [decide_eq_decide]; omega
    · rw [if_neg h]; congr 1; symm; rw [decide_eq_false_iff_not]; omega
  · rw [if_neg h1, if_neg h1]
    by_cases h2 : k = 2
    · rw [if_pos h2, if_pos h2]
      by_cases h : n ≥ 0
      · rw [if_pos h]; congr 1; rw [decide_eq_decide]; omega
      · rw [if_neg h]; congr 1; symm; rw [decide_eq_false_iff_not]; omega
    · rw [if_neg h2, if_neg h2]
      by_cases h3 : k ≥ 3
      · rw [if_pos h3]
        by_cases h4 : k ≤ 18
        · rw [if_pos h4, decide_eq_true (show 3 ≤ k ∧ k ≤ 18 from ⟨h3, h4⟩)]; rfl
        · rw [if_neg h4, decide_eq_false (show ¬ (3 ≤ k ∧ k ≤ 18) from fun h => h4 h.2)]; rfl
      · rw [if_neg h3, decide_eq_false (show ¬ (3 ≤ k ∧ k ≤ 18) from fun h => h3 h.1)]; rfl
theorem strOf_one (x : Int) : strOfNums [x] = ⟨#[UInt8.ofNat x.toNat]⟩ := rfl
theorem refDigits : ∀ (f u k : Nat), u < 10 ^ f → u < 18446744073709551616 → f ≤ 20 → f ≤ k → 0 < f → remontoirref02_Digits.f k (u : Int) = some ⟨(digS f u).toArray⟩ ∧ (digS f u).length ≤ f
  | 0, _, _, _, _, _, _, h => absurd h (by omega)
  | f + 1, u, k, hu, hu2, hf, hk, _ => by
    obtain ⟨k, rfl⟩ : ∃ m, k = m + 1 := ⟨k - 1, by omega⟩
    unfold digS
    simp only [remontoirref02_Digits.f]
    by_cases h : u < 10
    · rw [if_pos (by omega), if_pos h]
      refine ⟨?_, by simp⟩
      have e : (IntKind.u64.wrap (48 + (u : Int))) % 256 = ((48 + u : Nat) : Int) := by rw [IntKind.wrap_u64]; omega
      rw [e, strOf_one, Int.toNat_natCast]
    · rw [if_neg (by omega), if_neg h]
      have e1 : IntKind.u64.wrap (Int.tdiv (u : Int) 10) = ((u / 10 : Nat) : Int) := by
        rw [IntKind.wrap_u64]
        have : Int.tdiv (u : Int) 10 = ((u / 10 : Nat) : Int) := rfl
        rw [this]; omega
      have e2 : (IntKind.u64.wrap (48 + (Int.tmod (u : Int) 10))) % 256 = ((48 + u % 10 : Nat) : Int) := by
        rw [IntKind.wrap_u64]
        have : Int.tmod (u : Int) 10 = ((u % 10 : Nat) : Int) := rfl
        rw [this]; omega
      have hf0 : 0 < f := by
        rcases Nat.eq_zero_or_pos f with rfl | h1
        · simp at hu; omega
        · exact h1
      have hu' : u / 10 < 10 ^ f := by rw [Nat.pow_succ] at hu; omega
      obtain ⟨h1, h2⟩ := refDigits f (u / 10) k hu' (by omega) (by omega) (by omega) hf0
      rw [e1, h1, e2]
      simp only [Option.bind_some]
      have hsz : (⟨(digS f (u / 10)).toArray⟩ : ByteArray).size = (digS f (u / 10)).length := by rw [← data_len]
      have h1s : (⟨#[UInt8.ofNat (48 + u % 10)]⟩ : ByteArray).size = 1 := rfl
      refine ⟨?_, by rw [List.length_append]; simp; omega⟩
      rw [strOf_one, Int.toNat_natCast, if_pos (by rw [hsz, h1s]; omega)]
      congr 1
theorem refText_eq (k n : Int) (hg : goodB k n = true) (r : Nat) (hr : 20 ≤ r) : remontoirref13_Text.f r k n = some (lex_Text.t k n) := by
  unfold remontoirref13_Text.f
  rw [refGood, hg]
  simp only [Option.bind_some, if_true]
  unfold goodB at hg
  unfold lex_Text.t
  by_cases h1 : k = 1
  · rw [if_pos h1] at hg ⊢
    rw [if_pos h1]
    have hn := of_decide_eq_true hg
    obtain ⟨u, rfl⟩ : ∃ u : Nat, n = (u : Int) := ⟨n.toNat, by omega⟩
    have ew : IntKind.u64.wrap (u : Int) = (u : Int) := by rw [IntKind.wrap_u64]; omega
    have e20 : (10 : Nat) ^ 20 = 100000000000000000000 := by decide
    rw [ew, (refDigits 20 u r (by rw [e20]; omega) (by omega) (by omega) hr (by omega)).1]
    simp only [Option.bind_some]
    unfold itoaS
    rw [Int.toNat_natCast]
  · rw [if_neg h1] at hg ⊢
    rw [if_neg h1]
    by_cases h2 : k = 2
    · rw [if_pos h2] at hg ⊢
      rw [if_pos h2]
      have hn := of_decide_eq_true hg
      have e : (wrap64 (97 + n)) % 256 = 97 + n := by unfold wrap64; omega
      rw [e, strOf_one]
    · rw [if_neg h2] at hg ⊢
      rw [if_neg h2]
      obtain ⟨hk, _⟩ := (Bool.and_eq_true _ _).mp hg
      have hk := of_decide_eq_true hk
      obtain ⟨i, rfl⟩ : ∃ i : Nat, k = (i : Int) := ⟨k.toNat, by omega⟩
      rw [ofL i (by omega) (by omega), Int.toNat_natCast]
      rfl
end Go.Proofs.YtikbgoppmailjaaGreatDoor.Pure
/- The document's text of signs is the program's. -/
namespace Go.Proofs.YtikbgoppmailjaaGreatDoor.Pure
open Go.RowKit Go.Proofs.YtikbgoppmailjaaGreatDoor.H Go.Proofs.YtikbgoppmailjaaGreatDoorW.PrintWords Go.Proofs.YtikbgoppmailjaaGreatDoorW.PrintLast Go.Proofs.YtikbgoppmailjaaGreatDoorW.PrintMore
set_option linter.unusedVariables false
set_option linter.unusedSimpArgs false
theorem ref_loop (l : List S39) (hl : l.length ≤ 400) : ∀ (d i k : Nat), i + d = l.length → d + 21 ≤ k → goodAll (l.take i) = true →
    remontoirref13_Print.l0 k l ⟨(prL (l.take i)).toArray⟩ (i : Int) = some (prS l) := by
  intro d
  induction d with
  | zero =>
    intro i k hi hk hg
    obtain ⟨k, rfl⟩ : ∃ m, k = m + 1 := ⟨k - 1, by omega⟩
    simp only [remontoirref13_Print.l0]
    rw [if_neg (by omega)]
    have hti : l.take i = l := List.take_of_length_le (by omega)
    rw [hti] at hg ⊢
    unfold prS
    rw [if_pos hg]
  | succ d ih =>
    intro i k hi hk hg
    obtain ⟨k, rfl⟩ : ∃ m, k = m + 1 := ⟨k - 1, by omega⟩
    have hil : i < l.length := by omega
    simp only [remontoirref13_Print.l0]
    rw [if_pos (by omega), if_pos (by omega), rd_at l i hil, refGood]
    simp only [Option.bind_some]
    cases hb : goodB l[i].f0 l[i].f1
    · simp only [Bool.false_eq_true, if_false]
      unfold prS
      rw [good_all_false l i hil hb]
      rfl
    · simp only [if_true]
      have e1 : wrap64 ((i : Int) + 1) = ((i + 1 : Nat) : Int) := by unfold wrap64; omega
      have hn := ih (i + 1) k (by omega) (by omega) (by rw [good_take l i hil hg]; exact hb)
      rw [take_snoc l i hil, prL_snoc] at hn
      have ht := text_size l[i].f0 l[i].f1
      have hp := prL_len l i (by omega)
      rw [refText_eq _ _ hb k (by omega), e1]
      simp only [Option.bind_some]
      have hs0 : (⟨(prL (l.take i)).toArray⟩ : ByteArray).size = (prL (l.take i)).length := by rw [← data_len]
      have h32 : (⟨#[32]⟩ : ByteArray).size = 1 := rfl
      by_cases h0 : i = 0
      · subst h0
        rw [if_neg (by omega), if_pos (by rw [hs0]; omega)]
        rw [if_pos (by simp)] at hn
        refine Eq.trans (congrArg (fun z => remontoirref13_Print.l0 k l z ((0 + 1 : Nat) : Int)) ?_) hn
        apply ByteArray.ext
        apply Array.toList_inj.1
        simp [prL, txts, Lib.join, List.intercalate]
      · rw [if_pos (by omega), if_pos (by rw [hs0]; omega), if_pos (by rw [ByteArray.size_append, hs0, h32]; omega)]
        rw [if_neg (by
          intro h
          have h9 : (l.take i).length = 0 := by rw [h]; rfl
          rw [List.length_take] at h9
          omega)] at hn
        refine Eq.trans (congrArg (fun z => remontoirref13_Print.l0 k l z ((i + 1 : Nat) : Int)) ?_) hn
        apply ByteArray.ext
        apply Array.toList_inj.1
        simp
theorem ref_print (l : List S39) (hl : l.length ≤ 400) (k : Nat) (hk : 430 ≤ k) : remontoirref13_Print.f k l = some (prS l) := by
  unfold remontoirref13_Print.f
  have := ref_loop l hl l.length 0 k (by omega) (by omega) rfl
  rw [← this]
  rfl
end Go.Proofs.YtikbgoppmailjaaGreatDoor.Pure
/- What guard.Print says of signs; what guard.Parse says of that. -/
namespace Go.Proofs.YtikbgoppmailjaaGreatDoor.Pure
open Go.RowKit Go.Proofs.YtikbgoppmailjaaGreatDoor.H Go.Proofs.YtikbgoppmailjaaGreatDoorW.PrintWords Go.Proofs.YtikbgoppmailjaaGreatDoorW.PrintLast Go.Proofs.YtikbgoppmailjaaGreatDoorW.PrintMore
set_option linter.unusedVariables false
set_option linter.unusedSimpArgs false
theorem good_app (x y : List S39) : goodAll (x ++ y) = (goodAll x && goodAll y) := by unfold goodAll; exact List.all_append
theorem good_one (k n : Int) : goodAll [⟨k, n⟩] = goodB k n := by unfold goodAll; simp
theorem good_cons (s : S39) (x : List S39) : goodAll (s :: x) = (goodB s.f0 s.f1 && goodAll x) := by unfold goodAll; exact List.all_cons
theorem good_sym (k : Int) (h : 3 ≤ k ∧ k ≤ 18) : goodB k 0 = true := by
  unfold goodB
  rw [if_neg (by omega), if_neg (by omega), decide_eq_true h]
  rfl
theorem good_wr (of kind : Int) (sec : Bool) (x : List S39) (h : goodAll x = true) : goodAll (wr of kind sec x) = true := by
  unfold wr
  split
  · exact h
  · rename_i q
    have hv : brk of kind sec = (15, 16) ∨ brk of kind sec = (17, 18) := by
      revert q
      unfold brk
      split
      · exact fun _ => .inl rfl
      · split
        · exact fun _ => .inr rfl
        · exact fun q => absurd rfl q
    rcases hv with e | e
    · rw [e, good_cons, good_app, h, good_one]; rfl
    · rw [e, good_cons, good_app, h, good_one]; rfl
theorem sh_good {b : Bool} {t : Tr} (h : Wf b t) : goodAll t.sh = true := by
  have two : ∀ (k : Int) (a c : Tr), (3 ≤ k ∧ k ≤ 13) → goodAll a.sh = true → goodAll c.sh = true → goodAll (Tr.bi k a c).sh = true := by
    intro k a c hk ha hc
    simp only [Tr.sh]
    rw [good_app, good_cons, good_wr _ _ _ _ ha, good_wr _ _ _ _ hc, good_sym k (by omega)]
    rfl
  induction h with
  | num n h0 h1 =>
    simp only [Tr.sh]
    rw [good_one]
    unfold goodB
    rw [if_pos rfl]
    exact decide_eq_true ⟨h0, h1⟩
  | name n h0 h1 =>
    simp only [Tr.sh]
    rw [good_one]
    unfold goodB
    rw [if_neg (by decide), if_pos rfl]
    exact decide_eq_true ⟨h0, by omega⟩
  | neg _ ih =>
    simp only [Tr.sh, if_true]
    rw [good_cons, good_wr _ _ _ _ ih]
    rfl
  | op k h3 h5 _ _ i1 i2 => exact two k _ _ (by omega) i1 i2
  | cmp k h3 h5 _ _ i1 i2 => exact two k _ _ (by omega) i1 i2
  | con k hk _ _ i1 i2 => exact two k _ _ (by omega) i1 i2
  | nt _ ih =>
    simp only [Tr.sh]
    rw [good_cons, good_wr _ _ _ _ ih, if_neg (by decide)]
    rfl
theorem print_any (l : List S39) (hl : l.length ≤ 60) : (goS l [] = true ∧ ∃ t, Wf true t ∧ t.post = l ∧ shOf l = t.sh ∧ goodAll t.sh = true ∧ Guard t.sh l ∧ t.sh.length ≤ 180 ∧ ∀ k, 401 ≤ k → guard_Print.f k l = some (⟨(prL t.sh).toArray⟩, true)) ∨ (goS l [] = false ∧ ∀ k, guard_Print.f k l = some (⟨#[]⟩, false)) := by
  cases hg : goS l [] with
  | true =>
    obtain ⟨t, e1, wt, e3⟩ := tree_whole hg
    have hs := shOf_tree e1
    have hgood := sh_good wt
    have hlen := sh_len wt
    rw [e3] at hlen
    have hguard := show_guard wt
    rw [e3] at hguard
    refine .inl ⟨rfl, t, wt, e3, hs, hgood, hguard, by omega, fun k hk => ?_⟩
    unfold guard_Print.f
    rw [if_pos (by omega), if_pos hg, hs, impl_print t.sh (by omega) k hk]
    unfold prS
    rw [if_pos hgood]
  | false =>
    refine .inr ⟨rfl, fun k => ?_⟩
    unfold guard_Print.f
    rw [if_pos (by omega), hg, if_neg (by decide)]
end Go.Proofs.YtikbgoppmailjaaGreatDoor.Pure
/- The examples of chapter 14. -/
namespace Go.Proofs.YtikbgoppmailjaaGreatDoor.Pure
open Go.RowKit Go.Proofs.YtikbgoppmailjaaGreatDoor.H Go.Proofs.YtikbgoppmailjaaGreatDoorW.PrintWords Go.Proofs.YtikbgoppmailjaaGreatDoorW.PrintLast
theorem wakes14_50 : remontoirlaw14_wakes.f 50 = some true := by kernel_rfl
theorem wakes14 (k : Nat) (hk : 50 ≤ k) : remontoirlaw14_wakes.f k = some true := at_rounds (remontoirlaw14_wakes.mono) hk wakes14_50
end Go.Proofs.YtikbgoppmailjaaGreatDoor.Pure
/- GuardPrints: of at most 60 signs: whether they may be a guard, how it stands between, and the names in them, as the document says. -/
namespace Go.Proofs.YtikbgoppmailjaaGreatDoor.Pure
open Go.RowKit Go.Proofs.YtikbgoppmailjaaGreatDoor.H Go.Proofs.YtikbgoppmailjaaGreatDoorW.PrintWords Go.Proofs.YtikbgoppmailjaaGreatDoorW.PrintLast Go.Proofs.YtikbgoppmailjaaGreatDoorW.PrintMore
set_option linter.unusedVariables false
set_option linter.unusedSimpArgs false
theorem ints_loop (l : List Int) (hl : l.length ≤ 4611686018427387904) : ∀ (d k : Nat) (i : Nat), i + d = l.length → d < k → remontoirkeep_Ints.l0 k l l (i : Int) = some true := by
  intro d
  induction d with
  | zero =>
    intro k i h hk
    obtain ⟨k, rfl⟩ : ∃ m, k = m + 1 := ⟨k - 1, by omega⟩
    simp only [remontoirkeep_Ints.l0]
    rw [if_neg (by omega)]
  | succ d ih =>
    intro k i h hk
    obtain ⟨k, rfl⟩ : ∃ m, k = m + 1 := ⟨k - 1, by omega⟩
    simp only [remontoirkeep_Ints.l0]
    rw [if_pos (by omega), if_pos (by omega), if_pos (by omega), if_pos trivial]
    have e : wrap64 ((i : Int) + 1) = ((i + 1 : Nat) : Int) := by unfold wrap64; omega
    rw [e]
    exact ih k (i + 1) (by omega) (by omega)
theorem ints_same (l : List Int) (hl : l.length ≤ 4611686018427387904) (k : Nat) (hk : l.length < k) : remontoirkeep_Ints.f k l l = some true := by
  unfold remontoirkeep_Ints.f
  rw [if_pos rfl]
  exact ints_loop l hl l.length k 0 (by omega) hk
theorem uses_len (l : List S39) : (jset (names l)).length ≤ l.length := by
  unfold jset
  have h1 := compact_len ((names l).mergeSort fun x y => decide (x ≤ y))
  rw [List.length_mergeSort] at h1
  exact Nat.le_trans h1 (names_len l)
theorem GuardPrints (l : List S39) (_ : l.length ≤ maxLen) (_ : ∀ x ∈ l, (Lit.int .i64 x.f0).wf = true ∧ (Lit.int .i64 x.f1).wf = true) : ∃ k, remontoirlaw14_GuardPrints.f k l = some true := by
  refine ⟨1000, ?_⟩
  unfold remontoirlaw14_GuardPrints.f
  by_cases h3 : (l.length : Int) > 60
  · rw [if_pos h3, wakes14 _ (by omega)]
    rfl
  · have hl : l.length ≤ 60 := by omega
    have hu : guard_Uses.f l = some (jset (names l)) := by unfold guard_Uses.f; rw [if_pos hl]
    have hv : remontoirref14_Uses.f l = some (jset (names l)) := by unfold remontoirref14_Uses.f; rw [if_pos hl]
    have hG := good_goS l (by omega) 1000 (by omega)
    have hH := good14 l (by omega) 1000 (by omega)
    have hI := ints_same (jset (names l)) (by have := uses_len l; omega) 1000 (by have := uses_len l; omega)
    have hW := wakes14 1000 (by omega)
    obtain ⟨s, ok, p1, p2⟩ : ∃ s ok, guard_Print.f 1000 l = some (s, ok) ∧ remontoirref14_Print.f 1000 l = some (s, ok) := by
      rcases print_any l hl with ⟨hgood, t, wt, e3, hs, hgd, hgu, hlen, hp⟩ | ⟨hf, hp⟩
      · refine ⟨_, _, hp 1000 (by omega), ?_⟩
        have hi : wrap64 ((l.length : Int) - 1) = (l.length : Int) - 1 := by unfold wrap64; omega
        unfold remontoirref14_Print.f
        rw [hH, hgood]
        simp only [Option.bind_some, if_true]
        rw [hi]
        unfold remontoirref14_show.f
        rw [if_pos ⟨hl, hgood, rfl⟩, hs]
        simp only [Option.bind_some]
        rw [ref_print t.sh (by omega) 1000 (by omega)]
        unfold prS
        rw [if_pos hgd]
        rfl
      · refine ⟨_, _, hp 1000, ?_⟩
        unfold remontoirref14_Print.f
        rw [hH, hf]
        rfl
    rw [if_neg h3, p1]
    simp only [Option.bind_some]
    rw [p2]
    simp only [Option.bind_some]
    rw [hG]
    simp only [Option.bind_some]
    rw [hH]
    simp only [Option.bind_some, beq_self_eq_true, if_true]
    rw [hu]
    simp only [Option.bind_some]
    rw [hv]
    simp only [Option.bind_some]
    rw [hI]
    simp only [Option.bind_some, if_true]
    rw [hW]
    rfl
end Go.Proofs.YtikbgoppmailjaaGreatDoor.Pure
/- What the laid variables of a Guard row give: the power table and guard's own error. -/
namespace Go.Proofs.YtikbgoppmailjaaGreatDoor.H
open Go.RowKit
theorem star_eq : "*" ++ "errors.errorString" = "*errors.errorString" := by decide
theorem tabs2_of {W : World} (h : laidMetH Tryz.prog Rows.guardParsesRow.laid W) : Tabs2 W := by
  rw [MakeChecks.laidMetH_plain _ _ _ (by kernel_rfl)] at h
  have h1 : laidMet Tryz.prog ((_, Lib.tabData .u64 Lib.pow10Tab) :: _) W := laidMet.tail (laidMet.tail h)
  have h2 : laidMet Tryz.prog (("remontoir/guard.wrong", .iface "*errors.errorString" (.ptr (.agg [.lit (.string _)]))) :: _) W := laidMet.tail (laidMet.tail (laidMet.tail (laidMet.tail (laidMet.tail (laidMet.tail h)))))
  have ht : Tabs W := ⟨Lib.tabIs_of_head tabs_glob (by kernel_rfl) (n := 20) (t := 163) (e := 102) (by kernel_rfl) (by kernel_rfl) (by kernel_rfl) (by kernel_rfl) h1⟩
  obtain ⟨a, s, hv, _⟩ := laid_sentinel (g := 0) (ti := 44) (tp := 155) (te := 157) (ts := 9) h2 (by kernel_rfl) (by kernel_rfl) Tryz.underlying44 (by
    intro u hu
    exact typeName_ptr_named (nm := "errors.errorString") (by rw [star_eq]; kernel_rfl) (by kernel_rfl) (by decide) u (by rw [star_eq]; exact hu)) Tryz.underlying155 Tryz.underlying157 rfl rfl (by kernel_rfl) (by kernel_rfl) (by kernel_rfl)
  exact ⟨ht, _, _, World.var?_cell (by kernel_rfl) hv 0⟩
end Go.Proofs.YtikbgoppmailjaaGreatDoor.H
