/- Parts of the proof of LawGuardPrints: words, contracts of the functions, plain laws. -/
import Derived.Test.YtikbgoppmailjaaGreatDoorBA02
import Derived.Test.YtikbgoppmailjaaGreatDoorBA03
import Derived.Test.YtikbgoppmailjaaGreatDoorBA04
/- Guards as trees; how they stand between; what stands between is read as it was. -/
namespace Go.Proofs.YtikbgoppmailjaaGreatDoor.Pure
open Go.Proofs.YtikbgoppmailjaaGreatDoor.H
set_option linter.unusedVariables false
set_option linter.unusedSimpArgs false
inductive Tr
  | lf (k n : Int)
  | un (k : Int) (a : Tr)
  | bi (k : Int) (a b : Tr)
namespace Tr
def kind : Tr → Int
  | lf k _ => k
  | un k _ => k
  | bi k _ _ => k
def post : Tr → List S39
  | lf k n => [⟨k, n⟩]
  | un k a => a.post ++ [⟨k, 0⟩]
  | bi k a b => a.post ++ b.post ++ [⟨k, 0⟩]
end Tr
/-- The brackets about a thing of a kind, in one of another: none, ( ), [ ]. -/
def brk (of kind : Int) (sec : Bool) : Int × Int :=
  if (kind = 13 ∧ (of = 12 ∨ of = 14 ∨ (of = 13 ∧ sec = true))) ∨ (kind = 12 ∧ (of = 14 ∨ (of = 12 ∧ sec = true))) then (15, 16)
  else if ((kind = 3 ∨ kind = 4) ∧ (of = 5 ∨ of = 19 ∨ ((of = 3 ∨ of = 4) ∧ sec = true))) ∨ (kind = 5 ∧ (of = 19 ∨ (of = 5 ∧ sec = true))) then (17, 18)
  else (0, 0)
def wr (of kind : Int) (sec : Bool) (x : List S39) : List S39 :=
  if (brk of kind sec).1 = 0 then x else ⟨(brk of kind sec).1, 0⟩ :: (x ++ [⟨(brk of kind sec).2, 0⟩])
def Tr.sh : Tr → List S39
  | .lf k n => [⟨k, n⟩]
  | .un k a => ⟨if k = 19 then 4 else k, 0⟩ :: wr k a.kind false a.sh
  | .bi k a b => wr k a.kind false a.sh ++ ⟨k, 0⟩ :: wr k b.kind true b.sh
inductive Wf : Bool → Tr → Prop
  | num (n : Int) : 0 ≤ n → n ≤ 2147483647 → Wf false (.lf 1 n)
  | name (n : Int) : 0 ≤ n → n < 26 → Wf false (.lf 2 n)
  | neg {a} : Wf false a → Wf false (.un 19 a)
  | op {a b} (k : Int) : 3 ≤ k → k ≤ 5 → Wf false a → Wf false b → Wf false (.bi k a b)
  | cmp {a b} (k : Int) : 6 ≤ k → k ≤ 11 → Wf false a → Wf false b → Wf true (.bi k a b)
  | con {a b} (k : Int) : (k = 12 ∨ k = 13) → Wf true a → Wf true b → Wf true (.bi k a b)
  | nt {a} : Wf true a → Wf true (.un 14 a)
theorem tree_post {b : Bool} {t : Tr} (h : Wf b t) : Post b t.post := by
  induction h with
  | num n h0 h1 => exact .num n h0 h1
  | name n h0 h1 => exact .name n h0 h1
  | neg _ ih => exact .neg ih
  | op k h3 h5 _ _ i1 i2 => exact .op k h3 h5 i1 i2
  | cmp k h3 h5 _ _ i1 i2 => exact .cmp k h3 h5 i1 i2
  | con k hk _ _ i1 i2 => exact .con k hk i1 i2
  | nt _ ih => exact .nt ih
theorem wf_kind {b : Bool} {t : Tr} (h : Wf b t) : (b = false ∧ (t.kind = 1 ∨ t.kind = 2 ∨ t.kind = 19 ∨ (3 ≤ t.kind ∧ t.kind ≤ 5))) ∨ (b = true ∧ ((6 ≤ t.kind ∧ t.kind ≤ 11) ∨ t.kind = 12 ∨ t.kind = 13 ∨ t.kind = 14)) := by
  cases h with
  | num n => exact .inl ⟨rfl, .inl rfl⟩
  | name n => exact .inl ⟨rfl, .inr (.inl rfl)⟩
  | neg h => exact .inl ⟨rfl, .inr (.inr (.inl rfl))⟩
  | op k h3 h5 => exact .inl ⟨rfl, .inr (.inr (.inr ⟨h3, h5⟩))⟩
  | cmp k h3 h5 => exact .inr ⟨rfl, .inl ⟨h3, h5⟩⟩
  | con k hk => exact .inr ⟨rfl, by rcases hk with e | e <;> simp [Tr.kind, e]⟩
  | nt h => exact .inr ⟨rfl, .inr (.inr (.inr rfl))⟩
/-- Signs that are read whole at a level, and how they lie behind then. -/
def Rd (lev : Nat) (x p : List S39) : Prop := ∃ k, PF k lev (x, []) = some (some ([], p))
theorem Rd.up {lev lev2 : Nat} {ks : List Int} (hs : ∀ k st, PF (k + 1) lev st = rowF (PF k lev2) ks k st) {x p : List S39} (h : Rd lev2 x p) : Rd lev x p := up_end hs h
theorem Rd.ahead {lev : Nat} {x p : List S39} (h : Rd lev x p) (q : List S39) : ∃ k, PF k lev (x, q) = some (some ([], q ++ p)) := by
  obtain ⟨k, hk⟩ := h
  have := acc q k lev x [] _ hk
  rw [List.append_nil] at this
  exact ⟨k, this⟩
theorem Rd.then_ {lev : Nat} {x p : List S39} (h : Rd lev x p) (c : S39) (hc : OKc lev c.f0) (r q : List S39) : ∃ k, PF k lev (x ++ c :: r, q) = some (some (c :: r, q ++ p)) := by
  obtain ⟨k, hk⟩ := h
  have h1 := ext c r k lev x [] [] p hk (fun _ => hc)
  have := acc q k lev _ [] _ h1
  rw [List.append_nil] at this
  exact ⟨k, this⟩
theorem Rd.br {x p : List S39} (h : Rd 0 x p) : Rd 2 (⟨15, 0⟩ :: (x ++ [⟨16, 0⟩])) p := by
  have := Pure.br (x := x) (o := p) h [] [] 0 0
  rw [List.nil_append] at this
  exact this
theorem ok18 : OKc 3 18 := ⟨fun _ => by decide, fun _ => by decide, fun _ => by decide, fun _ => by decide⟩
theorem Rd.sq {x p : List S39} (h : Rd 3 x p) : Rd 5 (⟨17, 0⟩ :: (x ++ [⟨18, 0⟩])) p := by
  obtain ⟨k, hk⟩ := h.then_ (⟨18, 0⟩ : S39) ok18 [] []
  refine ⟨k + 1, ?_⟩
  rw [PF_succ, step5]
  dsimp only
  rw [if_neg (by decide), if_neg (by decide), if_pos rfl]
  rw [bnd_mk hk]
  unfold takeF
  rw [if_pos (show seesF 18 _ = true by show ((18 : Int) == 18) = true; decide)]
  simp
/-- Over one sign of a row's, behind what may be such a row already. -/
theorem Rd.join {lev lev2 : Nat} {ks : List Int} (hs : ∀ k st, PF (k + 1) lev st = rowF (PF k lev2) ks k st) {x p y q : List S39} {c : Int} (hc : ks.contains c = true) (okc : OKc lev2 c)
    (h : Rd lev x p) (h2 : Rd lev2 y q) : Rd lev (x ++ ⟨c, 0⟩ :: y) (p ++ q ++ [⟨c, 0⟩]) := by
  obtain ⟨k, hk⟩ := h
  cases k with
  | zero => cases hk
  | succ k =>
    rw [hs] at hk
    rcases rowF_some hk with ⟨_, h3⟩ | ⟨l1, o1, h3, h4⟩
    · cases h3
    · have hth : ∀ K, ∀ l o l' o', PF K lev2 (l, o) = some (some (l', o')) → PF K lev2 (l ++ (⟨c, 0⟩ : S39) :: y, o) = some (some (l' ++ (⟨c, 0⟩ : S39) :: y, o')) :=
        fun K l o l' o' q => ext _ _ K lev2 l o l' o' q (fun _ => okc)
      obtain ⟨k2, hk2⟩ := h2.ahead p
      have h5 := rowL_mono (PF k lev2) (PF (k + k2) lev2) ks (fun st r q => PF_mono (by omega) q) k k _ _ (Nat.le_refl _) h4
      have h6 : rowL (PF (k + k2) lev2) ks 2 ((⟨c, 0⟩ : S39) :: y, p) = some (some ([], p ++ q ++ [(⟨c, 0⟩ : S39)])) := by
        rw [rowL_go (a := (⟨c, 0⟩ : S39)) hc (PF_mono (by omega) hk2)]
        rfl
      have h7 := cont_row (hth (k + k2)) k l1 o1 p h5 2 _ h6
      refine ⟨k + k2 + 2 + 1, ?_⟩
      rw [hs, rowF_mk (PF_mono (by omega) (hth k _ _ _ _ h3))]
      exact rowL_mono (PF (k + k2) lev2) (PF (k + k2 + 2) lev2) ks (fun st r q => PF_mono (by omega) q) (k + 2) (k + k2 + 2) _ _ (by omega) h7
theorem hs0 (k : Nat) (st : ST) : PF (k + 1) 0 st = rowF (PF k 1) [13] k st := rfl
theorem hs1 (k : Nat) (st : ST) : PF (k + 1) 1 st = rowF (PF k 2) [12] k st := rfl
theorem hs3 (k : Nat) (st : ST) : PF (k + 1) 3 st = rowF (PF k 4) [3, 4] k st := rfl
theorem hs4 (k : Nat) (st : ST) : PF (k + 1) 4 st = rowF (PF k 5) [5] k st := rfl
/-- From which level on a truth, a number of a kind can be read. -/
def levT (k : Int) : Nat := if k = 13 then 0 else if k = 12 then 1 else 2
def levN (k : Int) : Nat := if k = 3 ∨ k = 4 then 3 else if k = 5 then 4 else 5
theorem Rd.upT {x p : List S39} : ∀ (n lev : Nat), n ≤ 2 → Rd n x p → lev ≤ n → Rd lev x p := by
  intro n lev hn h hl
  rcases (by omega : (n = 0 ∧ lev = 0) ∨ (n = 1 ∧ lev = 0) ∨ (n = 1 ∧ lev = 1) ∨ (n = 2 ∧ lev = 0) ∨ (n = 2 ∧ lev = 1) ∨ (n = 2 ∧ lev = 2)) with ⟨rfl, rfl⟩ | ⟨rfl, rfl⟩ | ⟨rfl, rfl⟩ | ⟨rfl, rfl⟩ | ⟨rfl, rfl⟩ | ⟨rfl, rfl⟩
  · exact h
  · exact h.up hs0
  · exact h
  · exact (h.up hs1).up hs0
  · exact h.up hs1
  · exact h
theorem Rd.upN {x p : List S39} : ∀ (n lev : Nat), n ≤ 5 → 3 ≤ lev → Rd n x p → lev ≤ n → Rd lev x p := by
  intro n lev hn h3 h hl
  rcases (by omega : (n = 3 ∧ lev = 3) ∨ (n = 4 ∧ lev = 3) ∨ (n = 4 ∧ lev = 4) ∨ (n = 5 ∧ lev = 3) ∨ (n = 5 ∧ lev = 4) ∨ (n = 5 ∧ lev = 5)) with ⟨rfl, rfl⟩ | ⟨rfl, rfl⟩ | ⟨rfl, rfl⟩ | ⟨rfl, rfl⟩ | ⟨rfl, rfl⟩ | ⟨rfl, rfl⟩
  · exact h
  · exact h.up hs3
  · exact h
  · exact (h.up hs4).up hs3
  · exact h.up hs4
  · exact h
/-- The first sign of a number that stands between. -/
theorem headN {t : Tr} (h : Wf false t) : ∃ a l, t.sh = a :: l ∧ (a.f0 = 1 ∨ a.f0 = 2 ∨ a.f0 = 4 ∨ a.f0 = 17) := by
  generalize hb : false = b at h
  induction h with
  | num n => exact ⟨_, _, rfl, .inl rfl⟩
  | name n => exact ⟨_, _, rfl, .inr (.inl rfl)⟩
  | neg h => exact ⟨_, _, rfl, .inr (.inr (.inl rfl))⟩
  | op k h3 h5 _ _ i1 i2 =>
    obtain ⟨a, l, e, ha⟩ := i1 hb
    simp only [Tr.sh]
    unfold wr
    split
    · rw [e]; exact ⟨_, _, rfl, ha⟩
    · rename_i q
      refine ⟨_, _, rfl, .inr (.inr (.inr ?_))⟩
      show (brk _ _ _).1 = 17
      revert q
      unfold brk
      split
      · rename_i q; omega
      · split
        · intro _; rfl
        · intro q; exact absurd rfl q
  | cmp => cases hb
  | con => cases hb
  | nt => cases hb
theorem read_back {b : Bool} {t : Tr} (h : Wf b t) : (b = true → ∀ lev, lev ≤ levT t.kind → Rd lev t.sh t.post) ∧ (b = false → ∀ lev, 3 ≤ lev → lev ≤ levN t.kind → Rd lev t.sh t.post) := by
 have top : ∀ {k : Int} {x p : List S39}, Rd (levT k) x p → ∀ lev, lev ≤ levT k → Rd lev x p := fun {k x p} h lev hl => Rd.upT (levT k) lev (by unfold levT; split <;> (try split) <;> omega) h hl
 have low : ∀ {k : Int} {x p : List S39}, Rd (levN k) x p → ∀ lev, 3 ≤ lev → lev ≤ levN k → Rd lev x p := fun {k x p} h lev h3 hl => Rd.upN (levN k) lev (by unfold levN; split <;> (try split) <;> omega) h3 h hl
 induction h with
 | num n h0 h1 => exact ⟨fun q => (by cases q), fun _ => low ⟨1, rfl⟩⟩
 | name n h0 h1 => exact ⟨fun q => (by cases q), fun _ => low ⟨1, rfl⟩⟩
 | @neg a ha ih =>
  refine ⟨fun q => (by cases q), fun _ => low ?_⟩
  show Rd 5 (⟨4, 0⟩ :: wr 19 a.kind false a.sh) (a.post ++ [⟨19, 0⟩])
  have h5 : Rd 5 (wr 19 a.kind false a.sh) a.post := by
   unfold wr
   by_cases hk : 3 ≤ a.kind ∧ a.kind ≤ 5
   ·have e : brk 19 a.kind false = (17, 18) := by
     unfold brk
     rw [if_neg (by omega), if_pos (by omega)]
    rw [e, if_neg (by decide)]
    exact (ih.2 rfl 3 (by omega) (by unfold levN; split <;> (try split) <;> omega)).sq
   ·have hw := wf_kind ha
    simp only [Bool.false_eq_true, false_and, or_false, true_and] at hw
    have e : brk 19 a.kind false = (0, 0) := by
     unfold brk
     rw [if_neg (by omega), if_neg (by omega)]
    rw [e, if_pos rfl]
    exact ih.2 rfl 5 (by omega) (by unfold levN; rw [if_neg (by omega), if_neg (by omega)]; omega)
  obtain ⟨k, hk⟩ := h5
  refine ⟨k + 1, ?_⟩
  rw [PF_succ, step5]
  dsimp only
  rw [if_neg (by decide), if_pos rfl, bnd_mk hk]
  rfl
 | @op a b k h3 h5 ha hb i1 i2 =>
  refine ⟨fun q => (by cases q), fun _ => low ?_⟩
  have hw := wf_kind hb
  simp only [Bool.false_eq_true, false_and, or_false, true_and] at hw
  have hv := wf_kind ha
  simp only [Bool.false_eq_true, false_and, or_false, true_and] at hv
  by_cases hk : k = 5
  ·subst hk
   show Rd 4 (wr 5 a.kind false a.sh ++ ⟨5, 0⟩ :: wr 5 b.kind true b.sh) (a.post ++ b.post ++ [⟨5, 0⟩])
   refine Rd.join (lev2 := 5) (ks := [5]) hs4 (by decide) ⟨fun q => by omega, fun q => by omega, fun q => by omega, fun q => by omega⟩ ?_ ?_
   ·unfold wr
    by_cases hka : a.kind = 3 ∨ a.kind = 4
    ·have e : brk 5 a.kind false = (17, 18) := by
      unfold brk
      rw [if_neg (by omega), if_pos (by omega)]
     rw [e, if_neg (by decide)]
     exact (i1.2 rfl 3 (by omega) (by unfold levN; split <;> (try split) <;> omega)).sq.up hs4
    ·have e : brk 5 a.kind false = (0, 0) := by
      unfold brk
      rw [if_neg (by omega), if_neg (by simp; omega)]
     rw [e, if_pos rfl]
     exact i1.2 rfl 4 (by omega) (by unfold levN; rw [if_neg hka]; split <;> omega)
   ·unfold wr
    by_cases hkb : 3 ≤ b.kind ∧ b.kind ≤ 5
    ·have e : brk 5 b.kind true = (17, 18) := by
      unfold brk
      rw [if_neg (by omega), if_pos (by simp; omega)]
     rw [e, if_neg (by decide)]
     exact (i2.2 rfl 3 (by omega) (by unfold levN; split <;> (try split) <;> omega)).sq
    ·have e : brk 5 b.kind true = (0, 0) := by
      unfold brk
      rw [if_neg (by omega), if_neg (by omega)]
     rw [e, if_pos rfl]
     exact i2.2 rfl 5 (by omega) (by unfold levN; rw [if_neg (by omega), if_neg (by omega)]; omega)
  ·have hk34 : k = 3 ∨ k = 4 := by omega
   have e3 : levN (Tr.bi k a b).kind = 3 := by
    show levN k = 3
    unfold levN; rw [if_pos hk34]
   rw [e3]
   show Rd 3 (wr k a.kind false a.sh ++ ⟨k, 0⟩ :: wr k b.kind true b.sh) (a.post ++ b.post ++ [⟨k, 0⟩])
   refine Rd.join (lev2 := 4) (ks := [3, 4]) hs3 (by rcases hk34 with rfl | rfl <;> decide) ⟨fun q => by omega, fun q => by omega, fun q => by omega, fun q => by rcases hk34 with rfl | rfl <;> decide⟩ ?_ ?_
   ·unfold wr
    have e : brk k a.kind false = (0, 0) := by
     unfold brk
     rw [if_neg (by omega), if_neg (by simp; omega)]
    rw [e, if_pos rfl]
    exact i1.2 rfl 3 (by omega) (by unfold levN; split <;> (try split) <;> omega)
   ·unfold wr
    by_cases hkb : b.kind = 3 ∨ b.kind = 4
    ·have e : brk k b.kind true = (17, 18) := by
      unfold brk
      rw [if_neg (by omega), if_pos (by simp; omega)]
     rw [e, if_neg (by decide)]
     exact (i2.2 rfl 3 (by omega) (by unfold levN; split <;> (try split) <;> omega)).sq.up hs4
    ·have e : brk k b.kind true = (0, 0) := by
      unfold brk
      rw [if_neg (by omega), if_neg (by omega)]
     rw [e, if_pos rfl]
     exact i2.2 rfl 4 (by omega) (by unfold levN; rw [if_neg hkb]; split <;> omega)
 | @cmp a b k h6 h11 ha hb i1 i2 =>
  refine ⟨fun _ => top ?_, fun q => by cases q⟩
  have e2 : levT (Tr.bi k a b).kind = 2 := by
   show levT k = 2
   unfold levT; rw [if_neg (by omega), if_neg (by omega)]
  rw [e2]
  have hw := wf_kind hb
  simp only [Bool.false_eq_true, false_and, or_false, true_and] at hw
  have hv := wf_kind ha
  simp only [Bool.false_eq_true, false_and, or_false, true_and] at hv
  have ea : wr k a.kind false a.sh = a.sh := by
   have e : brk k a.kind false = (0, 0) := by
    unfold brk
    rw [if_neg (by omega), if_neg (by omega)]
   unfold wr
   rw [e, if_pos rfl]
  have eb : wr k b.kind true b.sh = b.sh := by
   have e : brk k b.kind true = (0, 0) := by
    unfold brk
    rw [if_neg (by omega), if_neg (by omega)]
   unfold wr
   rw [e, if_pos rfl]
  show Rd 2 (wr k a.kind false a.sh ++ ⟨k, 0⟩ :: wr k b.kind true b.sh) (a.post ++ b.post ++ [⟨k, 0⟩])
  rw [ea, eb]
  have okc : OKc 3 k := ⟨fun q => by omega, fun q => by omega, fun q => by simp; omega, fun q => by simp; omega⟩
  obtain ⟨k1, hk1⟩ := (i1.2 rfl 3 (by omega) (by unfold levN; split <;> (try split) <;> omega)).then_ (⟨k, 0⟩ : S39) okc b.sh []
  obtain ⟨k2, hk2⟩ := (i2.2 rfl 3 (by omega) (by unfold levN; split <;> (try split) <;> omega)).ahead a.post
  obtain ⟨z, l, e, hz⟩ := headN ha
  refine ⟨k1 + k2 + 1, ?_⟩
  rw [PF_succ, step2, if_neg (by rw [e]; show ¬ ((z.f0 == 14) = true); simp; omega), if_neg (by rw [e]; show ¬ ((z.f0 == 15) = true); simp; omega), bnd_mk (PF_mono (by omega) hk1)]
  dsimp only
  rw [if_pos (decide_eq_true ⟨h6, h11⟩)]
  rw [List.nil_append, bnd_mk (PF_mono (by omega) hk2)]
  rfl
 | @con a b k hk ha hb i1 i2 =>
  refine ⟨fun _ => top ?_, fun q => by cases q⟩
  have hw := wf_kind hb
  simp only [Bool.true_eq_false, false_and, false_or, true_and] at hw
  have hv := wf_kind ha
  simp only [Bool.true_eq_false, false_and, false_or, true_and] at hv
  rcases hk with rfl | rfl
  ·show Rd 1 (wr 12 a.kind false a.sh ++ ⟨12, 0⟩ :: wr 12 b.kind true b.sh) (a.post ++ b.post ++ [⟨12, 0⟩])
   refine Rd.join (lev2 := 2) (ks := [12]) hs1 (by decide) ⟨fun q => by omega, fun q => by omega, fun q => by decide, fun q => by decide⟩ ?_ ?_
   ·unfold wr
    by_cases hka : a.kind = 13
    ·have e : brk 12 a.kind false = (15, 16) := by
      unfold brk
      rw [if_pos (by omega)]
     rw [e, if_neg (by decide)]
     exact (i1.1 rfl 0 (by omega)).br.up hs1
    ·have e : brk 12 a.kind false = (0, 0) := by
      unfold brk
      rw [if_neg (by simp; omega), if_neg (by omega)]
     rw [e, if_pos rfl]
     exact i1.1 rfl 1 (by unfold levT; rw [if_neg hka]; split <;> omega)
   ·unfold wr
    by_cases hkb : b.kind = 13 ∨ b.kind = 12
    ·have e : brk 12 b.kind true = (15, 16) := by
      unfold brk
      rw [if_pos (by simp; omega)]
     rw [e, if_neg (by decide)]
     exact (i2.1 rfl 0 (by omega)).br
    ·have e : brk 12 b.kind true = (0, 0) := by
      unfold brk
      rw [if_neg (by omega), if_neg (by omega)]
     rw [e, if_pos rfl]
     exact i2.1 rfl 2 (by unfold levT; rw [if_neg (by omega), if_neg (by omega)]; omega)
  ·show Rd 0 (wr 13 a.kind false a.sh ++ ⟨13, 0⟩ :: wr 13 b.kind true b.sh) (a.post ++ b.post ++ [⟨13, 0⟩])
   refine Rd.join (lev2 := 1) (ks := [13]) hs0 (by decide) ⟨fun q => by omega, fun q => by decide, fun q => by decide, fun q => by decide⟩ ?_ ?_
   ·unfold wr
    have e : brk 13 a.kind false = (0, 0) := by
     unfold brk
     rw [if_neg (by simp), if_neg (by omega)]
    rw [e, if_pos rfl]
    exact i1.1 rfl 0 (by omega)
   ·unfold wr
    by_cases hkb : b.kind = 13
    ·have e : brk 13 b.kind true = (15, 16) := by
      unfold brk
      rw [if_pos (by simp; omega)]
     rw [e, if_neg (by decide)]
     exact (i2.1 rfl 0 (by omega)).br.up hs1
    ·have e : brk 13 b.kind true = (0, 0) := by
      unfold brk
      rw [if_neg (by omega), if_neg (by omega)]
     rw [e, if_pos rfl]
     exact i2.1 rfl 1 (by unfold levT; rw [if_neg hkb]; split <;> omega)
 | @nt a ha ih =>
  refine ⟨fun _ => top ?_, fun q => by cases q⟩
  have hv := wf_kind ha
  simp only [Bool.true_eq_false, false_and, false_or, true_and] at hv
  show Rd 2 (⟨14, 0⟩ :: wr 14 a.kind false a.sh) (a.post ++ [⟨14, 0⟩])
  have h2 : Rd 2 (wr 14 a.kind false a.sh) a.post := by
   unfold wr
   by_cases hka : a.kind = 13 ∨ a.kind = 12
   ·have e : brk 14 a.kind false = (15, 16) := by
     unfold brk
     rw [if_pos (by omega)]
    rw [e, if_neg (by decide)]
    exact (ih.1 rfl 0 (by omega)).br
   ·have e : brk 14 a.kind false = (0, 0) := by
     unfold brk
     rw [if_neg (by omega), if_neg (by omega)]
    rw [e, if_pos rfl]
    exact ih.1 rfl 2 (by unfold levT; rw [if_neg (by omega), if_neg (by omega)]; omega)
  exact Pure.nt 0 h2
theorem show_guard {t : Tr} (h : Wf true t) : Guard t.sh t.post := (read_back h).1 rfl 0 (by omega)
theorem sh_len {b : Bool} {t : Tr} (h : Wf b t) : t.sh.length + 2 ≤ 3 * t.post.length ∧ 1 ≤ t.post.length := by
  have hwr : ∀ of kind sec (x : List S39), (wr of kind sec x).length ≤ x.length + 2 := by
    intro of kind sec x
    unfold wr
    split
    · omega
    · simp
  induction h with
  | num n => exact ⟨Nat.le_refl 3, Nat.le_refl 1⟩
  | name n => exact ⟨Nat.le_refl 3, Nat.le_refl 1⟩
  | @neg a _ ih =>
    have := hwr 19 a.kind false a.sh
    simp only [Tr.sh, Tr.post, List.length_cons, List.length_append, List.length_nil]
    omega
  | @op a b k _ _ _ _ i1 i2 =>
    have h1 := hwr k a.kind false a.sh
    have h2 := hwr k b.kind true b.sh
    simp only [Tr.sh, Tr.post, List.length_cons, List.length_append, List.length_nil]
    omega
  | @cmp a b k _ _ _ _ i1 i2 =>
    have h1 := hwr k a.kind false a.sh
    have h2 := hwr k b.kind true b.sh
    simp only [Tr.sh, Tr.post, List.length_cons, List.length_append, List.length_nil]
    omega
  | @con a b k _ _ _ i1 i2 =>
    have h1 := hwr k a.kind false a.sh
    have h2 := hwr k b.kind true b.sh
    simp only [Tr.sh, Tr.post, List.length_cons, List.length_append, List.length_nil]
    omega
  | @nt a _ ih =>
    have := hwr 14 a.kind false a.sh
    simp only [Tr.sh, Tr.post, List.length_cons, List.length_append, List.length_nil]
    omega
end Go.Proofs.YtikbgoppmailjaaGreatDoor.Pure
/- guard.Print: the tree of nodes, and their signs. -/
namespace Go.Proofs.YtikbgoppmailjaaGreatDoor.H
open Go.RowKit Go.HK Go.Proofs.YtikbgoppmailjaaGreatDoorW.PrintWords Go.Proofs.YtikbgoppmailjaaGreatDoorW.PrintLast Go.Proofs.YtikbgoppmailjaaGreatDoorW.PrintMore
set_option linter.unusedVariables false
set_option linter.unusedSimpArgs false
theorem bracket_brk (of kind : Int) (sec : Bool) : guard_bracket.f 4 of kind sec = some (Pure.brk of kind sec) := by
  have sum3 : ∀ x : Int, guard_sums.f x = some (decide (x = 3 ∨ x = 4)) := by
    intro x
    unfold guard_sums.f
    by_cases h : x = 3
    · rw [if_pos h, decide_eq_true (Or.inl h)]
    · rw [if_neg h]
      by_cases h4 : x = 4
      · subst h4; rfl
      · rw [decide_eq_false (fun q => q.elim h h4), beq_eq_false_iff_ne.2 h4]
  have j2 : ∀ b, guard_bracket.j2 1 of kind sec b = some (if b = true ∨ (kind = 5 ∧ (of = 19 ∨ (of = 5 ∧ sec = true))) then (17, 18) else (0, 0)) := by
    intro b
    simp only [guard_bracket.j2]
    cases b
    · by_cases h5 : kind = 5
      · by_cases h19 : of = 19
        · simp [h5, h19]
        · by_cases h55 : of = 5
          · cases sec <;> simp [h5, h55]
          · simp [h5, h19, h55]
      · simp [h5]
    · simp
  have j1 : ∀ b, guard_bracket.j1 2 of kind sec b = some (if b = true then (15, 16) else if ((kind = 3 ∨ kind = 4) ∧ (of = 5 ∨ of = 19 ∨ ((of = 3 ∨ of = 4) ∧ sec = true))) ∨ (kind = 5 ∧ (of = 19 ∨ (of = 5 ∧ sec = true))) then (17, 18) else (0, 0)) := by
    intro b
    simp only [guard_bracket.j1, sum3, Option.bind_some, j2]
    cases b
    · by_cases hk : kind = 3 ∨ kind = 4
      · by_cases h5 : of = 5
        · simp [hk, h5]
        · by_cases h19 : of = 19
          · simp [hk, h5, h19]
          · by_cases h34 : of = 3 ∨ of = 4
            · cases sec <;> simp [hk, h5, h19, h34]
            · simp [hk, h5, h19, h34]
      · simp [hk]
    · simp
  have j0 : ∀ b, guard_bracket.j0 3 of kind sec b = some (if b = true ∨ (kind = 12 ∧ (of = 14 ∨ (of = 12 ∧ sec = true))) then (15, 16) else if ((kind = 3 ∨ kind = 4) ∧ (of = 5 ∨ of = 19 ∨ ((of = 3 ∨ of = 4) ∧ sec = true))) ∨ (kind = 5 ∧ (of = 19 ∨ (of = 5 ∧ sec = true))) then (17, 18) else (0, 0)) := by
    intro b
    simp only [guard_bracket.j0, j1]
    cases b
    · by_cases hk : kind = 12
      · by_cases h14 : of = 14
        · simp [hk, h14]
        · by_cases h12 : of = 12
          · cases sec <;> simp [hk, h12]
          · simp [hk, h14, h12]
      · simp [hk]
    · simp
  unfold guard_bracket.f Pure.brk
  have e4 : (4 : Nat) = 3 + 1 := rfl
  have m0 : ∀ b, guard_bracket.j0 4 of kind sec b = guard_bracket.j0 3 of kind sec b := by
    intro b
    have h3 := j0 b
    rw [h3]
    exact (guard_bracket.mono_l 3).1 of kind sec b _ h3
  simp only [m0, j0]
  by_cases hk : kind = 13
  · by_cases h12 : of = 12
    · simp [hk, h12]
    · by_cases h14 : of = 14
      · simp [hk, h14]
      · by_cases h13 : of = 13
        · cases sec <;> simp [hk, h13]
        · simp [hk, h12, h14, h13]
  · simp [hk]
/-- A tree lies at a block. -/
def TrAt (w : World) : Nat → Pure.Tr → Prop
  | g, .lf k n => w.heap[g]? = some (.cells #[.int .i64 k, .int .i64 n, .pointer none, .pointer none] 53 (0, 0))
  | g, .un k a => ∃ ga, w.heap[g]? = some (.cells #[.int .i64 k, .int .i64 0, .pointer (some ⟨ga, 0, none⟩), .pointer none] 53 (0, 0)) ∧ TrAt w ga a
  | g, .bi k a b => ∃ ga gb, w.heap[g]? = some (.cells #[.int .i64 k, .int .i64 0, .pointer (some ⟨ga, 0, none⟩), .pointer (some ⟨gb, 0, none⟩)] 53 (0, 0)) ∧ TrAt w ga a ∧ TrAt w gb b
theorem TrAt.move {w w1 : World} (h : ∀ (g : Nat) (cells : Array Value), w.heap[g]? = some (Obj.cells cells 53 (0, 0)) → w1.heap[g]? = some (Obj.cells cells 53 (0, 0))) : ∀ {t : Pure.Tr} {g : Nat}, TrAt w g t → TrAt w1 g t
  | .lf k n, g, q => h g _ q
  | .un k a, g, ⟨ga, q1, q2⟩ => ⟨ga, h g _ q1, TrAt.move h q2⟩
  | .bi k a b, g, ⟨ga, gb, q1, q2, q3⟩ => ⟨ga, gb, h g _ q1, TrAt.move h q2, TrAt.move h q3⟩
theorem TrAt.below {w w1 : World} (hb : Below w.heap.size w w1) {t : Pure.Tr} {g : Nat} (h : TrAt w g t) : TrAt w1 g t := TrAt.move (fun g _ q => (hb.block g (blk_lt q)).trans q) h
theorem TrAt.kind {w : World} {t : Pure.Tr} {g : Nat} (h : TrAt w g t) : w.cell? ⟨g, 0, none⟩ = some (.int .i64 t.kind) := by
  cases t with
  | lf k n => exact bce h 0
  | un k a => obtain ⟨ga, q, _⟩ := h; exact bce q 0
  | bi k a b => obtain ⟨ga, gb, q, _⟩ := h; exact bce q 0
theorem TrAt.lt {w : World} {t : Pure.Tr} {g : Nat} (h : TrAt w g t) : g < w.heap.size := by
  cases t with
  | lf k n => exact blk_lt h
  | un k a => obtain ⟨ga, q, _⟩ := h; exact blk_lt q
  | bi k a b => obtain ⟨ga, gb, q, _⟩ := h; exact blk_lt q
/-- From w to w1 nothing of w turned but the row that was written, which is the one that it was, or new. -/
def Kp (w w1 : World) (v v1 : Value) : Prop := (∀ g, KeepBut w w1 g v.ownBlock) ∧ (v1.ownBlock = v.ownBlock ∨ ∃ q, v1.ownBlock = some q ∧ w.heap.size ≤ q)
/-- The row of signs that is being laid. -/
abbrev Row (w : World) (b : Nat) (v : Value) (out : List S39) : Prop := Kd.R k39 39 w b (fun _ => True) v out
theorem TrAt.kept {w w1 : World} {g b : Nat} {v : Value} {out : List S39} (hr : Row w b v out) (hk : KeepBut w w1 g v.ownBlock) {t0 : Nat} {cs : Array Value} (hg : w.heap[g]? = some (.cells cs t0 (0, 0))) (ht0 : t0 ≠ 53) {t : Pure.Tr} {gx : Nat} (h : TrAt w gx t) : TrAt w1 gx t :=
  TrAt.move (fun k cells q => (hk.2 k (blk_lt q) (by
    rintro rfl
    rw [hg] at q
    injection q with q
    injection q with _ q
    exact ht0 q) (Kd.R_ne hr q (by decide))).trans q) h
/-- What calling signs at a tree does. -/
def Can14 (t : Pure.Tr) : Prop := ∀ (b g : Nat) (v : Value) (w : World) (out : List S39), TrAt w g t → Row w b v out → b ≤ w.heap.size → out.length + 3 * t.sh.length ≤ 100000 →
  Calls Tryz.prog 23 #[.pointer (some ⟨g, 0, none⟩), v] w fun e w' => ∃ v', e = .returned v' ∧ Row w' b v' (out ++ t.sh) ∧ Below b w w' ∧ Kp w w' v v'
theorem out_stored {b po : Nat} {v v1 : Value} {w w1 : World} {out out1 : List S39} (ho : w.heap[po]? = some (.cells #[v] 23 (0, 0))) (hr : Row w b v out) (HO1 : Row w1 b v1 out1) (HB1 : Below b w w1) (hbo : b ≤ po) (HK : Kp w w1 v v1) :
    Mv b po v w v1 (w1.setCell ⟨po, 0, none⟩ v1) ∧ Row (w1.setCell ⟨po, 0, none⟩ v1) b v1 out1 ∧ (w1.setCell ⟨po, 0, none⟩ v1).heap[po]? = some (.cells #[v1] 23 (0, 0)) := by
  have hne : some po ≠ v.ownBlock := Kd.R_ne hr ho (by decide)
  have hb1 : w1.heap[po]? = some (.cells #[v] 23 (0, 0)) := ((HK.1 w.heap.size).2 po (blk_lt ho) (by have := blk_lt ho; omega) hne).trans ho
  exact ⟨⟨HB1.setCell hbo v1, (HK.1 po).set_ 0 v1, HK.2⟩, Kd.R_set HO1 hb1 (by decide) 0 v1, blk_set hb1 0 v1⟩
theorem Kp.of_grown {w w1 : World} {v v1 : Value} (hg : w.grownBy w1 v.ownBlock) (hat : v1.ownBlock = v.ownBlock ∨ ∃ q, v1.ownBlock = some q ∧ w.heap.size ≤ q) : Kp w w1 v v1 := ⟨fun g => KeepBut.of_grown hg g, hat⟩
end Go.Proofs.YtikbgoppmailjaaGreatDoor.H
/- The walk of (*node).signs. -/
namespace Go.Proofs.YtikbgoppmailjaaGreatDoor.H
open Go.RowKit Go.HK Go.Proofs.YtikbgoppmailjaaGreatDoorW.PrintWords Go.Proofs.YtikbgoppmailjaaGreatDoorW.PrintLast Go.Proofs.YtikbgoppmailjaaGreatDoorW.PrintMore
set_option linter.unusedVariables false
set_option linter.unusedSimpArgs false
theorem row_sl {w : World} {b : Nat} {v : Value} {o : List S39} (h : Row w b v o) : ∃ A n c, v = .slice A n c := by
  obtain ⟨A, c, e⟩ := Kd.R_slice h
  exact ⟨A, _, c, e⟩
set_option maxRecDepth 100000 in
set_option maxHeartbeats 1600000 in
theorem part_none (x : Pure.Tr) (hx : Can14 x) {b : Nat} {w : World} {pn po g gx : Nat} {v : Value} {out : List S39} (sec : Bool) (of : Int)
    (hn : w.heap[pn]? = some (.cells #[.pointer (some ⟨g, 0, none⟩)] 51 (0, 0))) (ho : w.heap[po]? = some (.cells #[v] 23 (0, 0)))
    (hg : w.cell? ⟨g, 0, none⟩ = some (.int .i64 of)) (ht : TrAt w gx x) (hr : Row w b v out) (hb : b ≤ po) (hl : out.length + 3 * x.sh.length + 2 ≤ 100000) (hbr : Pure.brk of x.kind sec = (0, 0)) :
    Calls Tryz.prog 44 #[.pointer (some ⟨gx, 0, none⟩), .bool sec, .pointer (some ⟨pn, 0, none⟩), .pointer (some ⟨po, 0, none⟩)] w fun e w' =>
      ∃ v', e = .returned (.tuple #[]) ∧ Row w' b v' (out ++ x.sh) ∧ w'.heap[po]? = some (.cells #[v'] 23 (0, 0)) ∧ Mv b po v w v' w' := by
  have BR := Aside0.mk (show guard_bracket.f 4 of x.kind sec = some (0, 0) from (bracket_brk of x.kind sec).trans (congrArg some hbr))
  have hcn : w.cell? ⟨pn, 0, none⟩ = some (.pointer (some ⟨g, 0, none⟩)) := bce hn 0
  have hco : w.cell? ⟨po, 0, none⟩ = some v := bce ho 0
  have hcx := ht.kind
  have hlo : po < w.heap.size := blk_lt ho
  have HX := Aside0.mk hx
  have HO := Aside0.mk ho
  have HT := Aside0.mk ht
  have HR := Aside0.mk hr
  have HB := Aside0.mk hb
  have HL := Aside0.mk hl
  have HLO := Aside0.mk hlo
  clear hx ho ht hr hb hl hn hbr hlo
  go_enter Tryz.func44, Tryz.ntmps44
  go_wp2
  refine start_ (n := 17) (S := fun w' => w'.cell? ⟨pn, 0, none⟩ = some (.pointer (some ⟨g, 0, none⟩)) ∧ w'.cell? ⟨g, 0, none⟩ = some (.int .i64 of) ∧ w'.cell? ⟨gx, 0, none⟩ = some (.int .i64 x.kind)) (ds := []) #[false, false, false, false, false, false, false, false, false, false, false, false, false, false, false, false, false] (by kernel_rfl) rfl rfl ⟨hcn, hg, hcx⟩ (fun hHeld => ?_)
  refine pure_ (i := 5) (N := some 14) (v := ?_) (a' := ?_) #[false, false, false, false, false, true, false, false, false, false, false, false, false, false, false, false, false] rfl rfl (by kernel_rfl) (fun _ _ _ h => h) (Or.inl ⟨by rfl, ?_⟩) ?_ ?_
  rotate_left
  · intro w'
    go_simp
    with_reducible rfl
  rotate_left
  · simp only [Act.put, List.setIfInBounds_toArray, List.set_cons_zero, List.set_cons_succ, i64_w, i32_w]
    rfl
  refine pure_ (i := 6) (N := some 15) (v := ?_) (a' := ?_) #[false, false, false, false, false, true, true, false, false, false, false, false, false, false, false, false, false] rfl rfl (by kernel_rfl) (fun _ _ _ h => h) (Or.inl ⟨by rfl, ?_⟩) ?_ ?_
  rotate_left
  · intro w'
    go_simp
    with_reducible rfl
  rotate_left
  · simp only [Act.put, List.setIfInBounds_toArray, List.set_cons_zero, List.set_cons_succ, i64_w, i32_w]
    rfl
  refine pure_ (i := 7) (N := some 16) (v := ?_) (a' := ?_) #[false, false, false, false, false, true, true, true, false, false, false, false, false, false, false, false, false] rfl rfl (by kernel_rfl) (fun _ _ _ h => h) (Or.inl ⟨by rfl, ?_⟩) ?_ ?_
  rotate_left
  · intro w'
    go_simp
    with_reducible rfl
  rotate_left
  · simp only [Act.put, List.setIfInBounds_toArray, List.set_cons_zero, List.set_cons_succ, i64_w, i32_w]
    rfl
  refine pure_ (i := 8) (N := some 17) (v := ?_) (a' := ?_) #[false, false, false, false, false, true, true, true, true, false, false, false, false, false, false, false, false] rfl rfl (by kernel_rfl) (fun _ _ _ h => h) (Or.inl ⟨by rfl, ?_⟩) ?_ ?_
  rotate_left
  · intro w'
    go_simp
    with_reducible rfl
  rotate_left
  · simp only [Act.put, List.setIfInBounds_toArray, List.set_cons_zero, List.set_cons_succ, i64_w, i32_w]
    rfl
  refine pure_ (i := 10) (N := some 19) (v := ?_) (a' := ?_) #[false, false, false, false, false, true, true, true, true, false, true, false, false, false, false, false, false] rfl rfl (by kernel_rfl) (fun _ _ _ h => h) (Or.inl ⟨by rfl, ?_⟩) ?_ ?_
  rotate_left
  · intro w'
    go_simp
    with_reducible rfl
  rotate_left
  · simp only [Act.put, List.setIfInBounds_toArray, List.set_cons_zero, List.set_cons_succ, i64_w, i32_w]
    rfl
  refine take_ (i := 0) (N := some 9) (v := ?_) (a' := ?_) #[true, false, false, false, false, true, true, true, true, false, true, false, false, false, false, false, false] rfl rfl (by kernel_rfl) (fun _ _ _ h => h) (Or.inl ⟨by rfl, ?_⟩) hHeld ?_ ?_
  rotate_left
  · rintro w' ⟨s0, s1, s2⟩
    go_simp
    with_reducible rfl
  rotate_left
  · simp only [Act.put, List.setIfInBounds_toArray, List.set_cons_zero, List.set_cons_succ, i64_w, i32_w]
    rfl
  refine pure_ (i := 1) (N := some 10) (v := ?_) (a' := ?_) #[true, true, false, false, false, true, true, true, true, false, true, false, false, false, false, false, false] rfl rfl (by kernel_rfl) (fun _ _ _ h => h) (Or.inl ⟨by rfl, ?_⟩) ?_ ?_
  rotate_left
  · intro w'
    go_simp
    with_reducible rfl
  rotate_left
  · simp only [Act.put, List.setIfInBounds_toArray, List.set_cons_zero, List.set_cons_succ, i64_w, i32_w]
    rfl
  refine pure_ (i := 2) (N := some 11) (v := ?_) (a' := ?_) #[true, true, true, false, false, true, true, true, true, false, true, false, false, false, false, false, false] rfl rfl (by kernel_rfl) (fun _ _ _ h => h) (Or.inl ⟨by rfl, ?_⟩) ?_ ?_
  rotate_left
  · intro w'
    go_simp
    with_reducible rfl
  rotate_left
  · simp only [Act.put, List.setIfInBounds_toArray, List.set_cons_zero, List.set_cons_succ, i64_w, i32_w]
    rfl
  refine pure_ (i := 3) (N := some 12) (v := ?_) (a' := ?_) #[true, true, true, true, false, true, true, true, true, false, true, false, false, false, false, false, false] rfl rfl (by kernel_rfl) (fun _ _ _ h => h) (Or.inl ⟨by rfl, ?_⟩) ?_ ?_
  rotate_left
  · intro w'
    go_simp
    with_reducible rfl
  rotate_left
  · simp only [Act.put, List.setIfInBounds_toArray, List.set_cons_zero, List.set_cons_succ, i64_w, i32_w]
    rfl
  refine take_ (i := 4) (N := some 13) (v := ?_) (a' := ?_) #[true, true, true, true, true, true, true, true, true, false, true, false, false, false, false, false, false] rfl rfl (by kernel_rfl) (fun _ _ _ h => h) (Or.inl ⟨by rfl, ?_⟩) hHeld ?_ ?_
  rotate_left
  · rintro w' ⟨s0, s1, s2⟩
    go_simp
    with_reducible rfl
  rotate_left
  · simp only [Act.put, List.setIfInBounds_toArray, List.set_cons_zero, List.set_cons_succ, i64_w, i32_w]
    rfl
  refine take_ (i := 9) (N := some 18) (v := ?_) (a' := ?_) #[true, true, true, true, true, true, true, true, true, true, true, false, false, false, false, false, false] rfl rfl (by kernel_rfl) (fun _ _ _ h => h) (Or.inl ⟨by rfl, ?_⟩) hHeld ?_ ?_
  rotate_left
  · rintro w' ⟨s0, s1, s2⟩
    go_simp
    with_reducible rfl
  rotate_left
  · simp only [Act.put, List.setIfInBounds_toArray, List.set_cons_zero, List.set_cons_succ, i64_w, i32_w]
    rfl
  refine one_ (i := 11) (N := some 20) #[true, true, true, true, true, true, true, true, true, true, true, true, false, false, false, false, false] rfl rfl (by kernel_rfl) (by decide) (fun K hK => ?_)
  refine goes_ Tryz.func45 (by kernel_rfl) rfl #[.int .i64 of, .int .i64 x.kind, .bool sec] (by rfl) rfl rfl (by simp only [List.map_toArray, List.map_cons, List.map_nil]; rfl) ?_
  with_reducible refine (guard_bracket.calls 4 of x.kind sec 0 0 _ BR.out).mono ?_
  rintro e1 w1 ⟨rfl, hd⟩
  refine ⟨_, rfl, ?_⟩
  have c0 := (hd.below.cell (World.block_lt_of_cell? _ _ hHeld.1)).trans hHeld.1
  have c1 := (hd.below.cell (World.block_lt_of_cell? _ _ hHeld.2.1)).trans hHeld.2.1
  have c2 := (hd.below.cell (World.block_lt_of_cell? _ _ hHeld.2.2)).trans hHeld.2.2
  have hB1 : Below w.heap.size w w1 := ((Below.refl w.heap.size w).drew).trans hd.below
  have HB1 := Aside0.mk hB1
  have hco1 : w1.cell? ⟨po, 0, none⟩ = some v := (hB1.cell (p := ⟨po, 0, none⟩) HLO.out).trans hco
  have HO1 := Aside0.mk ((hB1.block _ HLO.out).trans HO.out)
  have HR1 := Aside0.mk (Kd.R_below HR.out hB1)
  have HT1 := Aside0.mk (HT.out.below hB1)
  clear hd hB1
  refine hK.out _ _ ⟨c0, c1, c2⟩ (fun hHeld => ?_)
  clear hK K
  refine norm_ (a' := ?_) ?_ ?_
  rotate_left
  · show Act.put _ (some 20) _ = _
    simp only [Act.put, List.setIfInBounds_toArray, List.set_cons_zero, List.set_cons_succ, i64_w, i32_w]
    rfl
  refine pure_ (i := 12) (N := some 8) (v := ?_) (a' := ?_) #[true, true, true, true, true, true, true, true, true, true, true, true, true, false, false, false, false] rfl rfl (by kernel_rfl) (fun _ _ _ h => h) (Or.inl ⟨by rfl, ?_⟩) ?_ ?_
  rotate_left
  · intro w'
    go_simp
    with_reducible rfl
  rotate_left
  · simp only [Act.put, List.setIfInBounds_toArray, List.set_cons_zero, List.set_cons_succ, i64_w, i32_w]
    rfl
  refine pure_ (i := 13) (N := some 21) (v := ?_) (a' := ?_) #[true, true, true, true, true, true, true, true, true, true, true, true, true, true, false, false, false] rfl rfl (by kernel_rfl) (fun _ _ _ h => h) (Or.inl ⟨by rfl, ?_⟩) ?_ ?_
  rotate_left
  · intro w'
    go_simp
    with_reducible rfl
  rotate_left
  · simp only [Act.put, List.setIfInBounds_toArray, List.set_cons_zero, List.set_cons_succ, i64_w, i32_w]
    rfl
  refine pure_ (i := 14) (N := some 22) (v := ?_) (a' := ?_) #[true, true, true, true, true, true, true, true, true, true, true, true, true, true, true, false, false] rfl rfl (by kernel_rfl) (fun _ _ _ h => h) (Or.inl ⟨by rfl, ?_⟩) ?_ ?_
  rotate_left
  · intro w'
    go_simp
    with_reducible rfl
  rotate_left
  · simp only [Act.put, List.setIfInBounds_toArray, List.set_cons_zero, List.set_cons_succ, i64_w, i32_w]
    rfl
  refine pure_ (i := 15) (N := some 6) (v := ?_) (a' := ?_) #[true, true, true, true, true, true, true, true, true, true, true, true, true, true, true, true, false] rfl rfl (by kernel_rfl) (fun _ _ _ h => h) (Or.inl ⟨by rfl, ?_⟩) ?_ ?_
  rotate_left
  · intro w'
    go_simp
    with_reducible rfl
  rotate_left
  · simp only [Act.put, List.setIfInBounds_toArray, List.set_cons_zero, List.set_cons_succ, i64_w, i32_w]
    rfl
  refine pure_ (i := 16) (N := some 7) (v := ?_) (a' := ?_) #[true, true, true, true, true, true, true, true, true, true, true, true, true, true, true, true, true] rfl rfl (by kernel_rfl) (fun _ _ _ h => h) (Or.inl ⟨by rfl, ?_⟩) ?_ ?_
  rotate_left
  · intro w'
    go_simp
    with_reducible rfl
  rotate_left
  · simp only [Act.put, List.setIfInBounds_toArray, List.set_cons_zero, List.set_cons_succ, i64_w, i32_w]
    rfl
  refine done_ (by kernel_rfl) ?_
  go_wp2_with (first
    | (go_at_call 23; refine (HX.out b gx v w1 (out) HT1.out HR1.out (Nat.le_trans HB.out (Nat.le_of_lt (blk_lt HO1.out))) (by have := HL.out; (try simp only [List.length_append, List.length_cons, List.length_nil]); omega)).mono ?_; rintro e w2 ⟨v2, rfl, hr2, hb2, hk2⟩; obtain ⟨A2, n2, c2, e2⟩ := row_sl hr2; subst e2; have hne := Kd.R_ne HR1.out HO1.out (by decide); have ho2 := ((hk2.1 w1.heap.size).2 po (blk_lt HO1.out) (Nat.ne_of_lt (blk_lt HO1.out)) hne).trans HO1.out; have hcell2 := bce ho2 0; have hfr2 := bfz ho2 0; obtain ⟨q1, q2, q3⟩ := out_stored HO1.out HR1.out hr2 hb2 HB.out hk2; have HM2 := Aside0.mk q1; have HR2 := Aside0.mk q2; have HO2 := Aside0.mk q3; have HT2 := Aside0.mk (TrAt.kept HR1.out q1.2.1 HO1.out (by decide) HT1.out); have hco2 := bce q3 0; clear hr2 hb2 hk2 hne ho2 q1 q2 q3))
  go_end0
  exact ⟨_, rfl, HR2.out, HO2.out, (Mv.of_below HB1.out (Nat.le_trans HB.out (Nat.le_of_lt HLO.out))).trans HM2.out⟩
set_option maxRecDepth 100000 in
set_option maxHeartbeats 1600000 in
theorem part_some (x : Pure.Tr) (hx : Can14 x) {b : Nat} {w : World} {pn po g gx : Nat} {v : Value} {out : List S39} (sec : Bool) (of : Int) (o s : Int)
    (hn : w.heap[pn]? = some (.cells #[.pointer (some ⟨g, 0, none⟩)] 51 (0, 0))) (ho : w.heap[po]? = some (.cells #[v] 23 (0, 0)))
    (hg : w.cell? ⟨g, 0, none⟩ = some (.int .i64 of)) (ht : TrAt w gx x) (hr : Row w b v out) (hb : b ≤ po) (hl : out.length + 3 * x.sh.length + 2 ≤ 100000) (hbr : Pure.brk of x.kind sec = (o, s)) (ho0 : (o != 0) = true) (hs0 : (s != 0) = true) :
    Calls Tryz.prog 44 #[.pointer (some ⟨gx, 0, none⟩), .bool sec, .pointer (some ⟨pn, 0, none⟩), .pointer (some ⟨po, 0, none⟩)] w fun e w' =>
      ∃ v', e = .returned (.tuple #[]) ∧ Row w' b v' (out ++ [(⟨o, 0⟩ : S39)] ++ x.sh ++ [(⟨s, 0⟩ : S39)]) ∧ w'.heap[po]? = some (.cells #[v'] 23 (0, 0)) ∧ Mv b po v w v' w' := by
  have BR := Aside0.mk (show guard_bracket.f 4 of x.kind sec = some (o, s) from (bracket_brk of x.kind sec).trans (congrArg some hbr))
  have hcn : w.cell? ⟨pn, 0, none⟩ = some (.pointer (some ⟨g, 0, none⟩)) := bce hn 0
  have hco : w.cell? ⟨po, 0, none⟩ = some v := bce ho 0
  have hcx := ht.kind
  have hlo : po < w.heap.size := blk_lt ho
  have HX := Aside0.mk hx
  have HO := Aside0.mk ho
  have HT := Aside0.mk ht
  have HR := Aside0.mk hr
  have HB := Aside0.mk hb
  have HL := Aside0.mk hl
  have HLO := Aside0.mk hlo
  clear hx ho ht hr hb hl hn hbr hlo
  go_enter Tryz.func44, Tryz.ntmps44
  go_wp2
  refine start_ (n := 17) (S := fun w' => w'.cell? ⟨pn, 0, none⟩ = some (.pointer (some ⟨g, 0, none⟩)) ∧ w'.cell? ⟨g, 0, none⟩ = some (.int .i64 of) ∧ w'.cell? ⟨gx, 0, none⟩ = some (.int .i64 x.kind)) (ds := []) #[false, false, false, false, false, false, false, false, false, false, false, false, false, false, false, false, false] (by kernel_rfl) rfl rfl ⟨hcn, hg, hcx⟩ (fun hHeld => ?_)
  refine pure_ (i := 5) (N := some 14) (v := ?_) (a' := ?_) #[false, false, false, false, false, true, false, false, false, false, false, false, false, false, false, false, false] rfl rfl (by kernel_rfl) (fun _ _ _ h => h) (Or.inl ⟨by rfl, ?_⟩) ?_ ?_
  rotate_left
  · intro w'
    go_simp
    with_reducible rfl
  rotate_left
  · simp only [Act.put, List.setIfInBounds_toArray, List.set_cons_zero, List.set_cons_succ, i64_w, i32_w]
    rfl
  refine pure_ (i := 6) (N := some 15) (v := ?_) (a' := ?_) #[false, false, false, false, false, true, true, false, false, false, false, false, false, false, false, false, false] rfl rfl (by kernel_rfl) (fun _ _ _ h => h) (Or.inl ⟨by rfl, ?_⟩) ?_ ?_
  rotate_left
  · intro w'
    go_simp
    with_reducible rfl
  rotate_left
  · simp only [Act.put, List.setIfInBounds_toArray, List.set_cons_zero, List.set_cons_succ, i64_w, i32_w]
    rfl
  refine pure_ (i := 7) (N := some 16) (v := ?_) (a' := ?_) #[false, false, false, false, false, true, true, true, false, false, false, false, false, false, false, false, false] rfl rfl (by kernel_rfl) (fun _ _ _ h => h) (Or.inl ⟨by rfl, ?_⟩) ?_ ?_
  rotate_left
  · intro w'
    go_simp
    with_reducible rfl
  rotate_left
  · simp only [Act.put, List.setIfInBounds_toArray, List.set_cons_zero, List.set_cons_succ, i64_w, i32_w]
    rfl
  refine pure_ (i := 8) (N := some 17) (v := ?_) (a' := ?_) #[false, false, false, false, false, true, true, true, true, false, false, false, false, false, false, false, false] rfl rfl (by kernel_rfl) (fun _ _ _ h => h) (Or.inl ⟨by rfl, ?_⟩) ?_ ?_
  rotate_left
  · intro w'
    go_simp
    with_reducible rfl
  rotate_left
  · simp only [Act.put, List.setIfInBounds_toArray, List.set_cons_zero, List.set_cons_succ, i64_w, i32_w]
    rfl
  refine pure_ (i := 10) (N := some 19) (v := ?_) (a' := ?_) #[false, false, false, false, false, true, true, true, true, false, true, false, false, false, false, false, false] rfl rfl (by kernel_rfl) (fun _ _ _ h => h) (Or.inl ⟨by rfl, ?_⟩) ?_ ?_
  rotate_left
  · intro w'
    go_simp
    with_reducible rfl
  rotate_left
  · simp only [Act.put, List.setIfInBounds_toArray, List.set_cons_zero, List.set_cons_succ, i64_w, i32_w]
    rfl
  refine take_ (i := 0) (N := some 9) (v := ?_) (a' := ?_) #[true, false, false, false, false, true, true, true, true, false, true, false, false, false, false, false, false] rfl rfl (by kernel_rfl) (fun _ _ _ h => h) (Or.inl ⟨by rfl, ?_⟩) hHeld ?_ ?_
  rotate_left
  · rintro w' ⟨s0, s1, s2⟩
    go_simp
    with_reducible rfl
  rotate_left
  · simp only [Act.put, List.setIfInBounds_toArray, List.set_cons_zero, List.set_cons_succ, i64_w, i32_w]
    rfl
  refine pure_ (i := 1) (N := some 10) (v := ?_) (a' := ?_) #[true, true, false, false, false, true, true, true, true, false, true, false, false, false, false, false, false] rfl rfl (by kernel_rfl) (fun _ _ _ h => h) (Or.inl ⟨by rfl, ?_⟩) ?_ ?_
  rotate_left
  · intro w'
    go_simp
    with_reducible rfl
  rotate_left
  · simp only [Act.put, List.setIfInBounds_toArray, List.set_cons_zero, List.set_cons_succ, i64_w, i32_w]
    rfl
  refine pure_ (i := 2) (N := some 11) (v := ?_) (a' := ?_) #[true, true, true, false, false, true, true, true, true, false, true, false, false, false, false, false, false] rfl rfl (by kernel_rfl) (fun _ _ _ h => h) (Or.inl ⟨by rfl, ?_⟩) ?_ ?_
  rotate_left
  · intro w'
    go_simp
    with_reducible rfl
  rotate_left
  · simp only [Act.put, List.setIfInBounds_toArray, List.set_cons_zero, List.set_cons_succ, i64_w, i32_w]
    rfl
  refine pure_ (i := 3) (N := some 12) (v := ?_) (a' := ?_) #[true, true, true, true, false, true, true, true, true, false, true, false, false, false, false, false, false] rfl rfl (by kernel_rfl) (fun _ _ _ h => h) (Or.inl ⟨by rfl, ?_⟩) ?_ ?_
  rotate_left
  · intro w'
    go_simp
    with_reducible rfl
  rotate_left
  · simp only [Act.put, List.setIfInBounds_toArray, List.set_cons_zero, List.set_cons_succ, i64_w, i32_w]
    rfl
  refine take_ (i := 4) (N := some 13) (v := ?_) (a' := ?_) #[true, true, true, true, true, true, true, true, true, false, true, false, false, false, false, false, false] rfl rfl (by kernel_rfl) (fun _ _ _ h => h) (Or.inl ⟨by rfl, ?_⟩) hHeld ?_ ?_
  rotate_left
  · rintro w' ⟨s0, s1, s2⟩
    go_simp
    with_reducible rfl
  rotate_left
  · simp only [Act.put, List.setIfInBounds_toArray, List.set_cons_zero, List.set_cons_succ, i64_w, i32_w]
    rfl
  refine take_ (i := 9) (N := some 18) (v := ?_) (a' := ?_) #[true, true, true, true, true, true, true, true, true, true, true, false, false, false, false, false, false] rfl rfl (by kernel_rfl) (fun _ _ _ h => h) (Or.inl ⟨by rfl, ?_⟩) hHeld ?_ ?_
  rotate_left
  · rintro w' ⟨s0, s1, s2⟩
    go_simp
    with_reducible rfl
  rotate_left
  · simp only [Act.put, List.setIfInBounds_toArray, List.set_cons_zero, List.set_cons_succ, i64_w, i32_w]
    rfl
  refine one_ (i := 11) (N := some 20) #[true, true, true, true, true, true, true, true, true, true, true, true, false, false, false, false, false] rfl rfl (by kernel_rfl) (by decide) (fun K hK => ?_)
  refine goes_ Tryz.func45 (by kernel_rfl) rfl #[.int .i64 of, .int .i64 x.kind, .bool sec] (by rfl) rfl rfl (by simp only [List.map_toArray, List.map_cons, List.map_nil]; rfl) ?_
  with_reducible refine (guard_bracket.calls 4 of x.kind sec o s _ BR.out).mono ?_
  rintro e1 w1 ⟨rfl, hd⟩
  refine ⟨_, rfl, ?_⟩
  have c0 := (hd.below.cell (World.block_lt_of_cell? _ _ hHeld.1)).trans hHeld.1
  have c1 := (hd.below.cell (World.block_lt_of_cell? _ _ hHeld.2.1)).trans hHeld.2.1
  have c2 := (hd.below.cell (World.block_lt_of_cell? _ _ hHeld.2.2)).trans hHeld.2.2
  have hB1 : Below w.heap.size w w1 := ((Below.refl w.heap.size w).drew).trans hd.below
  have HB1 := Aside0.mk hB1
  have hco1 : w1.cell? ⟨po, 0, none⟩ = some v := (hB1.cell (p := ⟨po, 0, none⟩) HLO.out).trans hco
  have HO1 := Aside0.mk ((hB1.block _ HLO.out).trans HO.out)
  have HR1 := Aside0.mk (Kd.R_below HR.out hB1)
  have HT1 := Aside0.mk (HT.out.below hB1)
  clear hd hB1
  refine hK.out _ _ ⟨c0, c1, c2⟩ (fun hHeld => ?_)
  clear hK K
  refine norm_ (a' := ?_) ?_ ?_
  rotate_left
  · show Act.put _ (some 20) _ = _
    simp only [Act.put, List.setIfInBounds_toArray, List.set_cons_zero, List.set_cons_succ, i64_w, i32_w]
    rfl
  refine pure_ (i := 12) (N := some 8) (v := ?_) (a' := ?_) #[true, true, true, true, true, true, true, true, true, true, true, true, true, false, false, false, false] rfl rfl (by kernel_rfl) (fun _ _ _ h => h) (Or.inl ⟨by rfl, ?_⟩) ?_ ?_
  rotate_left
  · intro w'
    go_simp
    with_reducible rfl
  rotate_left
  · simp only [Act.put, List.setIfInBounds_toArray, List.set_cons_zero, List.set_cons_succ, i64_w, i32_w]
    rfl
  refine pure_ (i := 13) (N := some 21) (v := ?_) (a' := ?_) #[true, true, true, true, true, true, true, true, true, true, true, true, true, true, false, false, false] rfl rfl (by kernel_rfl) (fun _ _ _ h => h) (Or.inl ⟨by rfl, ?_⟩) ?_ ?_
  rotate_left
  · intro w'
    go_simp
    with_reducible rfl
  rotate_left
  · simp only [Act.put, List.setIfInBounds_toArray, List.set_cons_zero, List.set_cons_succ, i64_w, i32_w]
    rfl
  refine pure_ (i := 14) (N := some 22) (v := ?_) (a' := ?_) #[true, true, true, true, true, true, true, true, true, true, true, true, true, true, true, false, false] rfl rfl (by kernel_rfl) (fun _ _ _ h => h) (Or.inl ⟨by rfl, ?_⟩) ?_ ?_
  rotate_left
  · intro w'
    go_simp
    with_reducible rfl
  rotate_left
  · simp only [Act.put, List.setIfInBounds_toArray, List.set_cons_zero, List.set_cons_succ, i64_w, i32_w]
    rfl
  refine pure_ (i := 15) (N := some 6) (v := ?_) (a' := ?_) #[true, true, true, true, true, true, true, true, true, true, true, true, true, true, true, true, false] rfl rfl (by kernel_rfl) (fun _ _ _ h => h) (Or.inl ⟨by rfl, ?_⟩) ?_ ?_
  rotate_left
  · intro w'
    go_simp
    with_reducible rfl
  rotate_left
  · simp only [Act.put, List.setIfInBounds_toArray, List.set_cons_zero, List.set_cons_succ, i64_w, i32_w]
    rfl
  refine pure_ (i := 16) (N := some 7) (v := ?_) (a' := ?_) #[true, true, true, true, true, true, true, true, true, true, true, true, true, true, true, true, true] rfl rfl (by kernel_rfl) (fun _ _ _ h => h) (Or.inl ⟨by rfl, ?_⟩) ?_ ?_
  rotate_left
  · intro w'
    go_simp
    with_reducible rfl
  rotate_left
  · simp only [Act.put, List.setIfInBounds_toArray, List.set_cons_zero, List.set_cons_succ, i64_w, i32_w]
    rfl
  refine done_ (by kernel_rfl) ?_
  obtain ⟨A1, n1, c1, e1⟩ := row_sl HR1.out
  subst e1
  go_wp2_with (first
    | (at_builtin; refine Kd.R_append k39 (w0 := w1) b rfl (.tmp 25) (.tmp 28) 23 39 (.agg #[(.int .i64 0), (.int .i64 0)]) 16 rfl Tryz.underlying23 info39 rfl (by decide) (by omega) (.slice A1 n1 c1) (out) (⟨o, 0⟩ : S39) [.int .i64 o, .int .i64 0] (fun _ => True) (fun _ => False) ?h1 ?h2 ?aP (fun _ hk => hk.elim) ?aF ?aO ?aB ?aS ?aL ?_; (case h1 => rfl); (case h2 => first | rfl | (simp only [World.size_setCell]; rfl)); (case aP => exact k39_mkM _ _ _ (⟨o, 0⟩ : S39)); (case aB => exact Below.refl _ _); (case aF => exact (fun _ _ => trivial)); (case aO => exact HR1.out); (case aS => exact Nat.le_trans HB.out (Nat.le_of_lt (blk_lt HO1.out))); (case aL => exact (by have := HL.out; (try simp only [List.length_append, List.length_cons, List.length_nil]); omega)); intro v2 w2 hr2 hb2 hg2 hat2; obtain ⟨A2, n2, c2, e2⟩ := row_sl hr2; subst e2; have hk2 := Kp.of_grown hg2 hat2; have ho2 := blk_grown HO1.out hg2 (Kd.R_ne HR1.out HO1.out (by decide)); have hcell2 := bce ho2 0; have hfr2 := bfz ho2 0; obtain ⟨q1, q2, q3⟩ := out_stored HO1.out HR1.out hr2 hb2 HB.out hk2; have HM2 := Aside0.mk q1; have HR2 := Aside0.mk q2; have HO2 := Aside0.mk q3; have HT2 := Aside0.mk (TrAt.kept HR1.out q1.2.1 HO1.out (by decide) HT1.out); have hco2 := bce q3 0; clear hr2 hb2 hg2 hat2 hk2 ho2 q1 q2 q3)
    | (go_at_call 23; refine (HX.out b gx (.slice A2 n2 c2) (w2.setCell ⟨po, 0, none⟩ (.slice A2 n2 c2)) (out ++ [(⟨o, 0⟩ : S39)]) HT2.out HR2.out (Nat.le_trans HB.out (Nat.le_of_lt (blk_lt HO2.out))) (by have := HL.out; (try simp only [List.length_append, List.length_cons, List.length_nil]); omega)).mono ?_; rintro e w3 ⟨v3, rfl, hr2, hb2, hk2⟩; obtain ⟨A3, n3, c3, e2⟩ := row_sl hr2; subst e2; have hne := Kd.R_ne HR2.out HO2.out (by decide); have ho2 := ((hk2.1 (w2.setCell ⟨po, 0, none⟩ (.slice A2 n2 c2)).heap.size).2 po (blk_lt HO2.out) (Nat.ne_of_lt (blk_lt HO2.out)) hne).trans HO2.out; have hcell3 := bce ho2 0; have hfr3 := bfz ho2 0; obtain ⟨q1, q2, q3⟩ := out_stored HO2.out HR2.out hr2 hb2 HB.out hk2; have HM3 := Aside0.mk q1; have HR3 := Aside0.mk q2; have HO3 := Aside0.mk q3; have HT3 := Aside0.mk (TrAt.kept HR2.out q1.2.1 HO2.out (by decide) HT2.out); have hco3 := bce q3 0; clear hr2 hb2 hk2 hne ho2 q1 q2 q3)
    | (at_builtin; refine Kd.R_append k39 (w0 := (w3.setCell ⟨po, 0, none⟩ (.slice A3 n3 c3))) b rfl (.tmp 35) (.tmp 38) 23 39 (.agg #[(.int .i64 0), (.int .i64 0)]) 16 rfl Tryz.underlying23 info39 rfl (by decide) (by omega) (.slice A3 n3 c3) (out ++ [(⟨o, 0⟩ : S39)] ++ x.sh) (⟨s, 0⟩ : S39) [.int .i64 s, .int .i64 0] (fun _ => True) (fun _ => False) ?h1 ?h2 ?aP (fun _ hk => hk.elim) ?aF ?aO ?aB ?aS ?aL ?_; (case h1 => rfl); (case h2 => first | rfl | (simp only [World.size_setCell]; rfl)); (case aP => exact k39_mkM _ _ _ (⟨s, 0⟩ : S39)); (case aB => exact Below.refl _ _); (case aF => exact (fun _ _ => trivial)); (case aO => exact HR3.out); (case aS => exact Nat.le_trans HB.out (Nat.le_of_lt (blk_lt HO3.out))); (case aL => exact (by have := HL.out; (try simp only [List.length_append, List.length_cons, List.length_nil]); omega)); intro v4 w4 hr2 hb2 hg2 hat2; obtain ⟨A4, n4, c4, e2⟩ := row_sl hr2; subst e2; have hk2 := Kp.of_grown hg2 hat2; have ho2 := blk_grown HO3.out hg2 (Kd.R_ne HR3.out HO3.out (by decide)); have hcell4 := bce ho2 0; have hfr4 := bfz ho2 0; obtain ⟨q1, q2, q3⟩ := out_stored HO3.out HR3.out hr2 hb2 HB.out hk2; have HM4 := Aside0.mk q1; have HR4 := Aside0.mk q2; have HO4 := Aside0.mk q3; have HT4 := Aside0.mk (TrAt.kept HR3.out q1.2.1 HO3.out (by decide) HT3.out); have hco4 := bce q3 0; clear hr2 hb2 hg2 hat2 hk2 ho2 q1 q2 q3))
  go_end0
  exact ⟨_, rfl, HR4.out, HO4.out, (((Mv.of_below HB1.out (Nat.le_trans HB.out (Nat.le_of_lt HLO.out))).trans HM2.out).trans HM3.out).trans HM4.out⟩
end Go.Proofs.YtikbgoppmailjaaGreatDoor.H
/- (*node).signs: the signs of a tree are laid behind those that lie there. -/
namespace Go.Proofs.YtikbgoppmailjaaGreatDoor.H
open Go.RowKit Go.HK Go.Proofs.YtikbgoppmailjaaGreatDoorW.PrintWords Go.Proofs.YtikbgoppmailjaaGreatDoorW.PrintLast Go.Proofs.YtikbgoppmailjaaGreatDoorW.PrintMore
set_option linter.unusedVariables false
set_option linter.unusedSimpArgs false
theorem wr_ge (of kind : Int) (sec : Bool) (x : List S39) : x.length ≤ (Pure.wr of kind sec x).length := by
  unfold Pure.wr
  split
  · exact Nat.le_refl _
  · simp only [List.length_cons, List.length_append, List.length_nil]
    omega
theorem alloc3 (w : World) (o1 o2 o3 : Obj) : Below w.heap.size w (((w.alloc o1).alloc o2).alloc o3) :=
  (((Below.refl w.heap.size w).alloc (Nat.le_refl _) _).alloc (by simp) _).alloc (by simp only [World.size_alloc]; omega) _
theorem part_calls (x : Pure.Tr) (hx : Can14 x) {b : Nat} {w : World} {pn po g gx : Nat} {v : Value} {out : List S39} (sec : Bool) (of : Int)
    (hn : w.heap[pn]? = some (.cells #[.pointer (some ⟨g, 0, none⟩)] 51 (0, 0))) (ho : w.heap[po]? = some (.cells #[v] 23 (0, 0)))
    (hg : w.cell? ⟨g, 0, none⟩ = some (.int .i64 of)) (ht : TrAt w gx x) (hr : Row w b v out) (hb : b ≤ po) (hl : out.length + 3 * x.sh.length + 2 ≤ 100000) :
    Calls Tryz.prog 44 #[.pointer (some ⟨gx, 0, none⟩), .bool sec, .pointer (some ⟨pn, 0, none⟩), .pointer (some ⟨po, 0, none⟩)] w fun e w' =>
      ∃ v', e = .returned (.tuple #[]) ∧ Row w' b v' (out ++ Pure.wr of x.kind sec x.sh) ∧ w'.heap[po]? = some (.cells #[v'] 23 (0, 0)) ∧ Mv b po v w v' w' := by
  have hv : Pure.brk of x.kind sec = (0, 0) ∨ Pure.brk of x.kind sec = (15, 16) ∨ Pure.brk of x.kind sec = (17, 18) := by
    unfold Pure.brk
    split
    · exact .inr (.inl rfl)
    · split
      · exact .inr (.inr rfl)
      · exact .inl rfl
  unfold Pure.wr
  rcases hv with e | e | e
  · rw [e, if_pos rfl]
    exact part_none x hx sec of hn ho hg ht hr hb hl e
  · rw [e, if_neg (by decide)]
    have := part_some x hx sec of 15 16 hn ho hg ht hr hb hl e rfl rfl
    simpa using this
  · rw [e, if_neg (by decide)]
    have := part_some x hx sec of 17 18 hn ho hg ht hr hb hl e rfl rfl
    simpa using this
/-- What stands while signs runs: from the world W on, where its own cells lie. -/
structure Fr (b : Nat) (W : World) (pn po ps g : Nat) (nc sc : Array Value) (v0 v : Value) (out : List S39) (w' : World) : Prop where
  hpn : w'.heap[pn]? = some (.cells #[.pointer (some ⟨g, 0, none⟩)] 51 (0, 0))
  hpo : w'.heap[po]? = some (.cells #[v] 23 (0, 0))
  hps : w'.heap[ps]? = some (.cells sc 39 (0, 0))
  gc : w'.heap[g]? = some (.cells nc 53 (0, 0))
  row : Row w' b v out
  ns : some ps ≠ v.ownBlock
  nn : pn ≠ po ∧ ps ≠ po ∧ g ≠ po
  ch : ∀ x gx, TrAt W gx x → TrAt w' gx x
  mv : Mv b po v0 W v w'
theorem Fr.step {b : Nat} {W w1 w2 : World} {pn po ps g : Nat} {nc sc : Array Value} {v0 v1 v2 : Value} {out1 out2 : List S39} (h : Fr b W pn po ps g nc sc v0 v1 out1 w1) (hm : Mv b po v1 w1 v2 w2) (hr : Row w2 b v2 out2) (ho : w2.heap[po]? = some (.cells #[v2] 23 (0, 0))) : Fr b W pn po ps g nc sc v0 v2 out2 w2 := by
  refine ⟨?_, ho, ?_, ?_, hr, ?_, h.nn, fun x gx q => TrAt.kept h.row hm.2.1 h.hpo (by decide) (h.ch x gx q), h.mv.trans hm⟩
  · exact (hm.2.1.2 pn (blk_lt h.hpn) h.nn.1 (Kd.R_ne h.row h.hpn (by decide))).trans h.hpn
  · exact (hm.2.1.2 ps (blk_lt h.hps) h.nn.2.1 h.ns).trans h.hps
  · exact (hm.2.1.2 g (blk_lt h.gc) h.nn.2.2 (Kd.R_ne h.row h.gc (by decide))).trans h.gc
  · rcases hm.2.2 with e | ⟨q, e, hq⟩
    · rw [e]; exact h.ns
    · rw [e]
      have := blk_lt h.hps
      intro e2
      injection e2 with e2
      omega
theorem fr_start {b : Nat} {w : World} {g : Nat} {nc : Array Value} {A0 : Option Addr} {n0 c0 : Nat} {out : List S39} (s0 s1 : Int) (hg : w.heap[g]? = some (.cells nc 53 (0, 0))) (hr : Row w b (.slice A0 n0 c0) out) (hb : b ≤ w.heap.size) :
    Fr b (((w.alloc (.cells #[.pointer (some ⟨g, 0, none⟩)] 51)).alloc (.cells #[.slice A0 n0 c0] 23)).alloc (.cells #[.int .i64 s0, .int .i64 s1] 39)) w.heap.size (w.heap.size + 1) (w.heap.size + 1 + 1) g nc #[.int .i64 s0, .int .i64 s1] (.slice A0 n0 c0) (.slice A0 n0 c0) out (((w.alloc (.cells #[.pointer (some ⟨g, 0, none⟩)] 51)).alloc (.cells #[.slice A0 n0 c0] 23)).alloc (.cells #[.int .i64 s0, .int .i64 s1] 39)) := by
  have e1 : (w.alloc (.cells #[.pointer (some ⟨g, 0, none⟩)] 51)).heap.size = w.heap.size + 1 := by simp
  have e2 : ((w.alloc (.cells #[.pointer (some ⟨g, 0, none⟩)] 51)).alloc (.cells #[.slice A0 n0 c0] 23)).heap.size = w.heap.size + 1 + 1 := by simp
  have p0 : ∀ (k : Nat) (cells : Array Value) (t : Nat), ((w.alloc (.cells #[.pointer (some ⟨g, 0, none⟩)] 51)).alloc (.cells #[.slice A0 n0 c0] 23)).heap[k]? = some (Obj.cells cells t (0, 0)) → (((w.alloc (.cells #[.pointer (some ⟨g, 0, none⟩)] 51)).alloc (.cells #[.slice A0 n0 c0] 23)).alloc (.cells #[.int .i64 s0, .int .i64 s1] 39)).heap[k]? = some (Obj.cells cells t (0, 0)) := fun k cells t q => (Below.heap_alloc _ _ _ (blk_lt q)).trans q
  have p1 : ∀ (k : Nat) (cells : Array Value) (t : Nat), (w.alloc (.cells #[.pointer (some ⟨g, 0, none⟩)] 51)).heap[k]? = some (Obj.cells cells t (0, 0)) → (((w.alloc (.cells #[.pointer (some ⟨g, 0, none⟩)] 51)).alloc (.cells #[.slice A0 n0 c0] 23)).alloc (.cells #[.int .i64 s0, .int .i64 s1] 39)).heap[k]? = some (Obj.cells cells t (0, 0)) := fun k cells t q => p0 _ _ _ ((Below.heap_alloc _ _ _ (blk_lt q)).trans q)
  have p2 : ∀ (k : Nat) (cells : Array Value) (t : Nat), w.heap[k]? = some (Obj.cells cells t (0, 0)) → (((w.alloc (.cells #[.pointer (some ⟨g, 0, none⟩)] 51)).alloc (.cells #[.slice A0 n0 c0] 23)).alloc (.cells #[.int .i64 s0, .int .i64 s1] 39)).heap[k]? = some (Obj.cells cells t (0, 0)) := fun k cells t q => p1 _ _ _ ((Below.heap_alloc _ _ _ (blk_lt q)).trans q)
  refine ⟨p1 _ _ _ (heap_alloc_last _ _), ?_, ?_, p2 _ _ _ hg, Kd.R_alloc (Kd.R_alloc (Kd.R_alloc hr _) _) _, ?_, ⟨by omega, by omega, by have := blk_lt hg; omega⟩, fun x gx q => q, Mv.refl⟩
  · have := heap_alloc_last (w.alloc (.cells #[.pointer (some ⟨g, 0, none⟩)] 51)) (.cells #[.slice A0 n0 c0] 23)
    rw [e1] at this
    exact p0 _ _ _ this
  · have := heap_alloc_last ((w.alloc (.cells #[.pointer (some ⟨g, 0, none⟩)] 51)).alloc (.cells #[.slice A0 n0 c0] 23)) (.cells #[.int .i64 s0, .int .i64 s1] 39)
    rw [e2] at this
    exact this
  · obtain ⟨inner, ho⟩ := Kd.R_own hr
    intro e
    have := own_lt ho _ e.symm
    omega
theorem fr_end {b : Nat} {w w' : World} {g : Nat} {nc sc : Array Value} {A0 : Option Addr} {n0 c0 : Nat} {v : Value} {out : List S39} {s0 s1 : Int} (hb : b ≤ w.heap.size)
    (h : Fr b (((w.alloc (.cells #[.pointer (some ⟨g, 0, none⟩)] 51)).alloc (.cells #[.slice A0 n0 c0] 23)).alloc (.cells #[.int .i64 s0, .int .i64 s1] 39)) w.heap.size (w.heap.size + 1) (w.heap.size + 1 + 1) g nc sc (.slice A0 n0 c0) v out w') : Row w' b v out ∧ Below b w w' ∧ Kp w w' (.slice A0 n0 c0) v := by
  have e3 : ((((w.alloc (.cells #[.pointer (some ⟨g, 0, none⟩)] 51)).alloc (.cells #[.slice A0 n0 c0] 23)).alloc (.cells #[.int .i64 s0, .int .i64 s1] 39))).heap.size = w.heap.size + 1 + 1 + 1 := by simp
  have hB : Below w.heap.size w (((w.alloc (.cells #[.pointer (some ⟨g, 0, none⟩)] 51)).alloc (.cells #[.slice A0 n0 c0] 23)).alloc (.cells #[.int .i64 s0, .int .i64 s1] 39)) := alloc3 w _ _ _
  refine ⟨h.row, (hB.mono hb).trans h.mv.1, fun q => ⟨?_, fun k hk _ hrow => ?_⟩, ?_⟩
  · have := h.mv.2.1.1
    rw [e3] at this
    omega
  · exact (h.mv.2.1.2 k (by rw [e3]; omega) (by omega) hrow).trans (hB.block k hk)
  · rcases h.mv.2.2 with e | ⟨q, e, hq⟩
    · exact .inl e
    · rw [e3] at hq
      exact .inr ⟨q, e, by omega⟩
set_option maxRecDepth 100000 in
set_option maxHeartbeats 1600000 in
theorem signs_lf (k n : Int) (hk : (k == 19) = false) : Can14 (.lf k n) := by
  intro b g v w out ht hr hb hl
  obtain ⟨A0, n0, c0, rfl⟩ := row_sl hr
  have hg0 : ((w.alloc (.cells #[.pointer (some ⟨g, 0, none⟩)] 51)).alloc (.cells #[.slice A0 n0 c0] 23)).cell? ⟨g, 0, none⟩ = some (.int .i64 k) := cell_alloc_keep _ (cell_alloc_keep _ (bce ht 0))
  have hg1 : ((w.alloc (.cells #[.pointer (some ⟨g, 0, none⟩)] 51)).alloc (.cells #[.slice A0 n0 c0] 23)).cell? ⟨g, 1, none⟩ = some (.int .i64 n) := cell_alloc_keep _ (cell_alloc_keep _ (bce ht 1))
  have F1 := Aside0.mk (fr_start k n ht hr hb)
  have hgg1 : (((w.alloc (.cells #[.pointer (some ⟨g, 0, none⟩)] 51)).alloc (.cells #[.slice A0 n0 c0] 23)).alloc (.cells #[.int .i64 k, .int .i64 n] 39)).cell? ⟨g, 2, none⟩ = some (.pointer none) := bce F1.out.gc 2
  have hhh1 : (((w.alloc (.cells #[.pointer (some ⟨g, 0, none⟩)] 51)).alloc (.cells #[.slice A0 n0 c0] 23)).alloc (.cells #[.int .i64 k, .int .i64 n] 39)).cell? ⟨g, 3, none⟩ = some (.pointer none) := bce F1.out.gc 3
  have HB := Aside0.mk hb
  have HL := Aside0.mk hl
  have HWA := Aside0.mk (Nat.le_refl 0)
  have HWC := Aside0.mk (Nat.le_refl 0)
  clear hr hb hl ht
  go_enter Tryz.func23, Tryz.ntmps23
  go_wp2_with (first
    | (at_builtin; refine Kd.R_append k39 (w0 := (((w.alloc (.cells #[.pointer (some ⟨g, 0, none⟩)] 51)).alloc (.cells #[.slice A0 n0 c0] 23)).alloc (.cells #[.int .i64 k, .int .i64 n] 39))) b rfl (.tmp 27) (.tmp 29) 23 39 (.agg #[(.int .i64 0), (.int .i64 0)]) 16 rfl Tryz.underlying23 info39 rfl (by decide) (by omega) (.slice A0 n0 c0) (out) (⟨k, n⟩ : S39) [.int .i64 k, .int .i64 n] (fun _ => True) (fun _ => False) ?h1 ?h2 ?aP (fun _ hk => hk.elim) ?aF ?aO ?aB ?aS ?aL ?_; (case h1 => rfl); (case h2 => first | rfl | (simp only [World.size_setCell, World.size_alloc]; rfl)); (case aP => exact k39_mkM _ _ _ (⟨k, n⟩ : S39)); (case aB => exact Below.refl _ _); (case aF => exact (fun _ _ => trivial)); (case aO => exact F1.out.row); (case aS => exact Nat.le_trans HB.out (Nat.le_of_lt (Nat.lt_of_succ_lt (blk_lt F1.out.hpo)))); (case aL => exact (by have := HL.out; have wa := HWA.out; have wc := HWC.out; simp only [Pure.Tr.sh, List.length_append, List.length_cons, List.length_nil] at this; (try simp only [List.length_append, List.length_cons, List.length_nil]); omega)); intro v2 w2 hr2 hb2 hg2 hat2; obtain ⟨A2, n2, c2, e2⟩ := row_sl hr2; subst e2; have hk2 := Kp.of_grown hg2 hat2; have ho2 := blk_grown F1.out.hpo hg2 (Kd.R_ne F1.out.row F1.out.hpo (by decide)); have hcell2 := bce ho2 0; have hfr2 := bfz ho2 0; obtain ⟨q1, q2, q3⟩ := out_stored F1.out.hpo F1.out.row hr2 hb2 (Nat.le_succ_of_le HB.out) hk2; have F2 := Aside0.mk (F1.out.step q1 q2 q3); clear hr2 hb2 hg2 hat2 hk2 ho2 q1 q2 q3; have hp2 := bce F2.out.hpn 0; have ho2 := bce F2.out.hpo 0; have hs2 := bce F2.out.hps 0; have ht2 := bce F2.out.hps 1; have hg2 := bce F2.out.gc 2; have hh2 := bce F2.out.gc 3))
  go_ret
  obtain ⟨r1, r2, r3⟩ := fr_end HB.out F2.out
  exact ⟨_, rfl, by simpa [Pure.Tr.sh] using r1, r2, r3⟩
set_option maxRecDepth 100000 in
set_option maxHeartbeats 1600000 in
theorem signs_un (k : Int) (hk : (k == 19) = false) (a : Pure.Tr) (ha : Can14 a) : Can14 (.un k a) := by
  intro b g v w out ht hr hb hl
  obtain ⟨A0, n0, c0, rfl⟩ := row_sl hr
  obtain ⟨ga, ht, hta⟩ := ht
  have hg0 : ((w.alloc (.cells #[.pointer (some ⟨g, 0, none⟩)] 51)).alloc (.cells #[.slice A0 n0 c0] 23)).cell? ⟨g, 0, none⟩ = some (.int .i64 k) := cell_alloc_keep _ (cell_alloc_keep _ (bce ht 0))
  have hg1 : ((w.alloc (.cells #[.pointer (some ⟨g, 0, none⟩)] 51)).alloc (.cells #[.slice A0 n0 c0] 23)).cell? ⟨g, 1, none⟩ = some (.int .i64 0) := cell_alloc_keep _ (cell_alloc_keep _ (bce ht 1))
  have F1 := Aside0.mk (fr_start k 0 ht hr hb)
  have hgg1 : (((w.alloc (.cells #[.pointer (some ⟨g, 0, none⟩)] 51)).alloc (.cells #[.slice A0 n0 c0] 23)).alloc (.cells #[.int .i64 k, .int .i64 0] 39)).cell? ⟨g, 2, none⟩ = some (.pointer (some ⟨ga, 0, none⟩)) := bce F1.out.gc 2
  have hhh1 : (((w.alloc (.cells #[.pointer (some ⟨g, 0, none⟩)] 51)).alloc (.cells #[.slice A0 n0 c0] 23)).alloc (.cells #[.int .i64 k, .int .i64 0] 39)).cell? ⟨g, 3, none⟩ = some (.pointer none) := bce F1.out.gc 3
  have HB := Aside0.mk hb
  have HL := Aside0.mk hl
  have HWA := Aside0.mk (wr_ge k a.kind false a.sh)
  have HWC := Aside0.mk (Nat.le_refl 0)
  have HA := Aside0.mk ha
  have TA := Aside0.mk (F1.out.ch _ _ (TrAt.below (alloc3 w _ _ _) hta))
  clear ha hta
  clear hr hb hl ht
  go_enter Tryz.func23, Tryz.ntmps23
  go_wp2_with (first
    | (go_at_call 44; refine (part_calls a HA.out false k F2.out.hpn F2.out.hpo (bce F2.out.gc 0) (F2.out.ch _ _ TA.out) F2.out.row (Nat.le_succ_of_le HB.out) (by have := HL.out; have wa := HWA.out; have wc := HWC.out; simp only [Pure.Tr.sh, List.length_append, List.length_cons, List.length_nil] at this; (try simp only [List.length_append, List.length_cons, List.length_nil]); omega)).mono ?_; rintro e w3 ⟨v3, rfl, hr2, ho2, hm2⟩; obtain ⟨A3, n3, c3, e2⟩ := row_sl hr2; subst e2; have F3 := Aside0.mk (F2.out.step hm2 hr2 ho2); clear hr2 ho2 hm2; have hp3 := bce F3.out.hpn 0; have ho3 := bce F3.out.hpo 0; have hs3 := bce F3.out.hps 0; have ht3 := bce F3.out.hps 1; have hg3 := bce F3.out.gc 2; have hh3 := bce F3.out.gc 3)
    | (at_builtin; refine Kd.R_append k39 (w0 := (((w.alloc (.cells #[.pointer (some ⟨g, 0, none⟩)] 51)).alloc (.cells #[.slice A0 n0 c0] 23)).alloc (.cells #[.int .i64 k, .int .i64 0] 39))) b rfl (.tmp 27) (.tmp 29) 23 39 (.agg #[(.int .i64 0), (.int .i64 0)]) 16 rfl Tryz.underlying23 info39 rfl (by decide) (by omega) (.slice A0 n0 c0) (out) (⟨k, 0⟩ : S39) [.int .i64 k, .int .i64 0] (fun _ => True) (fun _ => False) ?h1 ?h2 ?aP (fun _ hk => hk.elim) ?aF ?aO ?aB ?aS ?aL ?_; (case h1 => rfl); (case h2 => first | rfl | (simp only [World.size_setCell, World.size_alloc]; rfl)); (case aP => exact k39_mkM _ _ _ (⟨k, 0⟩ : S39)); (case aB => exact Below.refl _ _); (case aF => exact (fun _ _ => trivial)); (case aO => exact F1.out.row); (case aS => exact Nat.le_trans HB.out (Nat.le_of_lt (Nat.lt_of_succ_lt (blk_lt F1.out.hpo)))); (case aL => exact (by have := HL.out; have wa := HWA.out; have wc := HWC.out; simp only [Pure.Tr.sh, List.length_append, List.length_cons, List.length_nil] at this; (try simp only [List.length_append, List.length_cons, List.length_nil]); omega)); intro v2 w2 hr2 hb2 hg2 hat2; obtain ⟨A2, n2, c2, e2⟩ := row_sl hr2; subst e2; have hk2 := Kp.of_grown hg2 hat2; have ho2 := blk_grown F1.out.hpo hg2 (Kd.R_ne F1.out.row F1.out.hpo (by decide)); have hcell2 := bce ho2 0; have hfr2 := bfz ho2 0; obtain ⟨q1, q2, q3⟩ := out_stored F1.out.hpo F1.out.row hr2 hb2 (Nat.le_succ_of_le HB.out) hk2; have F2 := Aside0.mk (F1.out.step q1 q2 q3); clear hr2 hb2 hg2 hat2 hk2 ho2 q1 q2 q3; have hp2 := bce F2.out.hpn 0; have ho2 := bce F2.out.hpo 0; have hs2 := bce F2.out.hps 0; have ht2 := bce F2.out.hps 1; have hg2 := bce F2.out.gc 2; have hh2 := bce F2.out.gc 3))
  go_ret
  obtain ⟨r1, r2, r3⟩ := fr_end HB.out F3.out
  exact ⟨_, rfl, by have e : (k == 19) = false := hk; simpa [Pure.Tr.sh, show ¬ k = 19 from fun q => by rw [q] at e; cases e] using r1, r2, r3⟩
set_option maxRecDepth 100000 in
set_option maxHeartbeats 1600000 in
theorem signs_neg (a : Pure.Tr) (ha : Can14 a) : Can14 (.un 19 a) := by
  intro b g v w out ht hr hb hl
  obtain ⟨A0, n0, c0, rfl⟩ := row_sl hr
  obtain ⟨ga, ht, hta⟩ := ht
  have hg0 : ((w.alloc (.cells #[.pointer (some ⟨g, 0, none⟩)] 51)).alloc (.cells #[.slice A0 n0 c0] 23)).cell? ⟨g, 0, none⟩ = some (.int .i64 19) := cell_alloc_keep _ (cell_alloc_keep _ (bce ht 0))
  have hg1 : ((w.alloc (.cells #[.pointer (some ⟨g, 0, none⟩)] 51)).alloc (.cells #[.slice A0 n0 c0] 23)).cell? ⟨g, 1, none⟩ = some (.int .i64 0) := cell_alloc_keep _ (cell_alloc_keep _ (bce ht 1))
  have F1 := Aside0.mk (fr_start 4 0 ht hr hb)
  have hgg1 : (((w.alloc (.cells #[.pointer (some ⟨g, 0, none⟩)] 51)).alloc (.cells #[.slice A0 n0 c0] 23)).alloc (.cells #[.int .i64 4, .int .i64 0] 39)).cell? ⟨g, 2, none⟩ = some (.pointer (some ⟨ga, 0, none⟩)) := bce F1.out.gc 2
  have hhh1 : (((w.alloc (.cells #[.pointer (some ⟨g, 0, none⟩)] 51)).alloc (.cells #[.slice A0 n0 c0] 23)).alloc (.cells #[.int .i64 4, .int .i64 0] 39)).cell? ⟨g, 3, none⟩ = some (.pointer none) := bce F1.out.gc 3
  have HB := Aside0.mk hb
  have HL := Aside0.mk hl
  have HWA := Aside0.mk (wr_ge 19 a.kind false a.sh)
  have HWC := Aside0.mk (Nat.le_refl 0)
  have HA := Aside0.mk ha
  have TA := Aside0.mk (F1.out.ch _ _ (TrAt.below (alloc3 w _ _ _) hta))
  clear ha hta
  clear hr hb hl ht
  go_enter Tryz.func23, Tryz.ntmps23
  go_wp2_with (first
    | (go_at_call 44; refine (part_calls a HA.out false 19 F2.out.hpn F2.out.hpo (bce F2.out.gc 0) (F2.out.ch _ _ TA.out) F2.out.row (Nat.le_succ_of_le HB.out) (by have := HL.out; have wa := HWA.out; have wc := HWC.out; simp only [Pure.Tr.sh, List.length_append, List.length_cons, List.length_nil] at this; (try simp only [List.length_append, List.length_cons, List.length_nil]); omega)).mono ?_; rintro e w3 ⟨v3, rfl, hr2, ho2, hm2⟩; obtain ⟨A3, n3, c3, e2⟩ := row_sl hr2; subst e2; have F3 := Aside0.mk (F2.out.step hm2 hr2 ho2); clear hr2 ho2 hm2; have hp3 := bce F3.out.hpn 0; have ho3 := bce F3.out.hpo 0; have hs3 := bce F3.out.hps 0; have ht3 := bce F3.out.hps 1; have hg3 := bce F3.out.gc 2; have hh3 := bce F3.out.gc 3)
    | (at_builtin; refine Kd.R_append k39 (w0 := (((w.alloc (.cells #[.pointer (some ⟨g, 0, none⟩)] 51)).alloc (.cells #[.slice A0 n0 c0] 23)).alloc (.cells #[.int .i64 4, .int .i64 0] 39))) b rfl (.tmp 27) (.tmp 29) 23 39 (.agg #[(.int .i64 0), (.int .i64 0)]) 16 rfl Tryz.underlying23 info39 rfl (by decide) (by omega) (.slice A0 n0 c0) (out) (⟨4, 0⟩ : S39) [.int .i64 4, .int .i64 0] (fun _ => True) (fun _ => False) ?h1 ?h2 ?aP (fun _ hk => hk.elim) ?aF ?aO ?aB ?aS ?aL ?_; (case h1 => rfl); (case h2 => first | rfl | (simp only [World.size_setCell, World.size_alloc]; rfl)); (case aP => exact k39_mkM _ _ _ (⟨4, 0⟩ : S39)); (case aB => exact Below.refl _ _); (case aF => exact (fun _ _ => trivial)); (case aO => exact F1.out.row); (case aS => exact Nat.le_trans HB.out (Nat.le_of_lt (Nat.lt_of_succ_lt (blk_lt F1.out.hpo)))); (case aL => exact (by have := HL.out; have wa := HWA.out; have wc := HWC.out; simp only [Pure.Tr.sh, List.length_append, List.length_cons, List.length_nil] at this; (try simp only [List.length_append, List.length_cons, List.length_nil]); omega)); intro v2 w2 hr2 hb2 hg2 hat2; obtain ⟨A2, n2, c2, e2⟩ := row_sl hr2; subst e2; have hk2 := Kp.of_grown hg2 hat2; have ho2 := blk_grown F1.out.hpo hg2 (Kd.R_ne F1.out.row F1.out.hpo (by decide)); have hcell2 := bce ho2 0; have hfr2 := bfz ho2 0; obtain ⟨q1, q2, q3⟩ := out_stored F1.out.hpo F1.out.row hr2 hb2 (Nat.le_succ_of_le HB.out) hk2; have F2 := Aside0.mk (F1.out.step q1 q2 q3); clear hr2 hb2 hg2 hat2 hk2 ho2 q1 q2 q3; have hp2 := bce F2.out.hpn 0; have ho2 := bce F2.out.hpo 0; have hs2 := bce F2.out.hps 0; have ht2 := bce F2.out.hps 1; have hg2 := bce F2.out.gc 2; have hh2 := bce F2.out.gc 3))
  go_ret
  obtain ⟨r1, r2, r3⟩ := fr_end HB.out F3.out
  exact ⟨_, rfl, by simpa [Pure.Tr.sh] using r1, r2, r3⟩
set_option maxRecDepth 100000 in
set_option maxHeartbeats 1600000 in
theorem signs_bi (k : Int) (hk : (k == 19) = false) (a c : Pure.Tr) (ha : Can14 a) (hc : Can14 c) : Can14 (.bi k a c) := by
  intro b g v w out ht hr hb hl
  obtain ⟨A0, n0, c0, rfl⟩ := row_sl hr
  obtain ⟨ga, gb, ht, hta, htc⟩ := ht
  have hg0 : ((w.alloc (.cells #[.pointer (some ⟨g, 0, none⟩)] 51)).alloc (.cells #[.slice A0 n0 c0] 23)).cell? ⟨g, 0, none⟩ = some (.int .i64 k) := cell_alloc_keep _ (cell_alloc_keep _ (bce ht 0))
  have hg1 : ((w.alloc (.cells #[.pointer (some ⟨g, 0, none⟩)] 51)).alloc (.cells #[.slice A0 n0 c0] 23)).cell? ⟨g, 1, none⟩ = some (.int .i64 0) := cell_alloc_keep _ (cell_alloc_keep _ (bce ht 1))
  have F1 := Aside0.mk (fr_start k 0 ht hr hb)
  have hgg1 : (((w.alloc (.cells #[.pointer (some ⟨g, 0, none⟩)] 51)).alloc (.cells #[.slice A0 n0 c0] 23)).alloc (.cells #[.int .i64 k, .int .i64 0] 39)).cell? ⟨g, 2, none⟩ = some (.pointer (some ⟨ga, 0, none⟩)) := bce F1.out.gc 2
  have hhh1 : (((w.alloc (.cells #[.pointer (some ⟨g, 0, none⟩)] 51)).alloc (.cells #[.slice A0 n0 c0] 23)).alloc (.cells #[.int .i64 k, .int .i64 0] 39)).cell? ⟨g, 3, none⟩ = some (.pointer (some ⟨gb, 0, none⟩)) := bce F1.out.gc 3
  have HB := Aside0.mk hb
  have HL := Aside0.mk hl
  have HWA := Aside0.mk (wr_ge k a.kind false a.sh)
  have HWC := Aside0.mk (wr_ge k c.kind true c.sh)
  have HA := Aside0.mk ha
  have HC := Aside0.mk hc
  have TA := Aside0.mk (F1.out.ch _ _ (TrAt.below (alloc3 w _ _ _) hta))
  have TC := Aside0.mk (F1.out.ch _ _ (TrAt.below (alloc3 w _ _ _) htc))
  clear ha hta hc htc
  clear hr hb hl ht
  go_enter Tryz.func23, Tryz.ntmps23
  go_wp2_with (first
    | (go_at_call 44; refine (part_calls c HC.out true k F3.out.hpn F3.out.hpo (bce F3.out.gc 0) (F3.out.ch _ _ TC.out) F3.out.row (Nat.le_succ_of_le HB.out) (by have := HL.out; have wa := HWA.out; have wc := HWC.out; simp only [Pure.Tr.sh, List.length_append, List.length_cons, List.length_nil] at this; (try simp only [List.length_append, List.length_cons, List.length_nil]); omega)).mono ?_; rintro e w4 ⟨v4, rfl, hr2, ho2, hm2⟩; obtain ⟨A4, n4, c4, e2⟩ := row_sl hr2; subst e2; have F4 := Aside0.mk (F3.out.step hm2 hr2 ho2); clear hr2 ho2 hm2; have hp4 := bce F4.out.hpn 0; have ho4 := bce F4.out.hpo 0; have hs4 := bce F4.out.hps 0; have ht4 := bce F4.out.hps 1; have hg4 := bce F4.out.gc 2; have hh4 := bce F4.out.gc 3)
    | (at_builtin; refine Kd.R_append k39 (w0 := w2) b rfl (.tmp 27) (.tmp 29) 23 39 (.agg #[(.int .i64 0), (.int .i64 0)]) 16 rfl Tryz.underlying23 info39 rfl (by decide) (by omega) (.slice A2 n2 c2) (out ++ Pure.wr k a.kind false a.sh) (⟨k, 0⟩ : S39) [.int .i64 k, .int .i64 0] (fun _ => True) (fun _ => False) ?h1 ?h2 ?aP (fun _ hk => hk.elim) ?aF ?aO ?aB ?aS ?aL ?_; (case h1 => rfl); (case h2 => first | rfl | (simp only [World.size_setCell, World.size_alloc]; rfl)); (case aP => exact k39_mkM _ _ _ (⟨k, 0⟩ : S39)); (case aB => exact Below.refl _ _); (case aF => exact (fun _ _ => trivial)); (case aO => exact F2.out.row); (case aS => exact Nat.le_trans HB.out (Nat.le_of_lt (Nat.lt_of_succ_lt (blk_lt F2.out.hpo)))); (case aL => exact (by have := HL.out; have wa := HWA.out; have wc := HWC.out; simp only [Pure.Tr.sh, List.length_append, List.length_cons, List.length_nil] at this; (try simp only [List.length_append, List.length_cons, List.length_nil]); omega)); intro v3 w3 hr2 hb2 hg2 hat2; obtain ⟨A3, n3, c3, e2⟩ := row_sl hr2; subst e2; have hk2 := Kp.of_grown hg2 hat2; have ho2 := blk_grown F2.out.hpo hg2 (Kd.R_ne F2.out.row F2.out.hpo (by decide)); have hcell3 := bce ho2 0; have hfr3 := bfz ho2 0; obtain ⟨q1, q2, q3⟩ := out_stored F2.out.hpo F2.out.row hr2 hb2 (Nat.le_succ_of_le HB.out) hk2; have F3 := Aside0.mk (F2.out.step q1 q2 q3); clear hr2 hb2 hg2 hat2 hk2 ho2 q1 q2 q3; have hp3 := bce F3.out.hpn 0; have ho3 := bce F3.out.hpo 0; have hs3 := bce F3.out.hps 0; have ht3 := bce F3.out.hps 1; have hg3 := bce F3.out.gc 2; have hh3 := bce F3.out.gc 3)
    | (go_at_call 44; refine (part_calls a HA.out false k F1.out.hpn F1.out.hpo (bce F1.out.gc 0) (F1.out.ch _ _ TA.out) F1.out.row (Nat.le_succ_of_le HB.out) (by have := HL.out; have wa := HWA.out; have wc := HWC.out; simp only [Pure.Tr.sh, List.length_append, List.length_cons, List.length_nil] at this; (try simp only [List.length_append, List.length_cons, List.length_nil]); omega)).mono ?_; rintro e w2 ⟨v2, rfl, hr2, ho2, hm2⟩; obtain ⟨A2, n2, c2, e2⟩ := row_sl hr2; subst e2; have F2 := Aside0.mk (F1.out.step hm2 hr2 ho2); clear hr2 ho2 hm2; have hp2 := bce F2.out.hpn 0; have ho2 := bce F2.out.hpo 0; have hs2 := bce F2.out.hps 0; have ht2 := bce F2.out.hps 1; have hg2 := bce F2.out.gc 2; have hh2 := bce F2.out.gc 3))
  go_ret
  obtain ⟨r1, r2, r3⟩ := fr_end HB.out F4.out
  exact ⟨_, rfl, by simpa [Pure.Tr.sh] using r1, r2, r3⟩
theorem signs_all : ∀ {bb : Bool} {t : Pure.Tr}, Pure.Wf bb t → Can14 t := by
  intro bb t h
  induction h with
  | num n => exact signs_lf 1 n rfl
  | name n => exact signs_lf 2 n rfl
  | neg _ ih => exact signs_neg _ ih
  | op k h3 h5 _ _ i1 i2 => exact signs_bi k (beq_eq_false_iff_ne.2 (by omega)) _ _ i1 i2
  | cmp k h3 h5 _ _ i1 i2 => exact signs_bi k (beq_eq_false_iff_ne.2 (by omega)) _ _ i1 i2
  | con k hk _ _ i1 i2 => exact signs_bi k (beq_eq_false_iff_ne.2 (by omega)) _ _ i1 i2
  | nt _ ih => exact signs_un 14 rfl _ ih
end Go.Proofs.YtikbgoppmailjaaGreatDoor.H
/- The tree of the signs that lie behind, by a stack. -/
namespace Go.Proofs.YtikbgoppmailjaaGreatDoor.Pure
open Go.RowKit Go.Proofs.YtikbgoppmailjaaGreatDoor.H Go.Proofs.YtikbgoppmailjaaGreatDoorW.PrintWords Go.Proofs.YtikbgoppmailjaaGreatDoorW.PrintLast Go.Proofs.YtikbgoppmailjaaGreatDoorW.PrintMore
set_option linter.unusedVariables false
set_option linter.unusedSimpArgs false
def stepT (s : S39) (ts : List Tr) : List Tr :=
  if (tk s.f0 s.f1).1 = 0 then .lf s.f0 s.f1 :: ts
  else if (tk s.f0 s.f1).1 = 1 then (match ts with | a :: r => .un s.f0 a :: r | [] => [])
  else (match ts with | b :: a :: r => .bi s.f0 a b :: r | _ => [])
def treeS : List S39 → List Tr → List Tr
  | [], ts => ts
  | s :: l, ts => treeS l (stepT s ts)
def shOf (l : List S39) : List S39 := match treeS l [] with | t :: _ => t.sh | [] => []
theorem goS_nx {s : S39} {l : List S39} {st : List Bool} {c : Int} {tr is : Bool} (ht : tk s.f0 s.f1 = (c, tr, is)) (h : goS (s :: l) st = true) : 0 ≤ c ∧ c ≤ st.length ∧ (st.take c.toNat).contains (!tr) = false ∧ goS l (is :: st.drop c.toNat) = true := by
  simp only [goS] at h
  rw [ht] at h
  dsimp only at h
  split at h
  · cases h
  · rename_i q
    split at h
    · cases h
    · rename_i q2
      exact ⟨by omega, by omega, Bool.eq_false_iff.2 q2, h⟩
/-- What a sign makes of the stack. -/
inductive Step (s : S39) (l : List S39) (ps : List (Bool × Tr)) : Prop
  | zero (tr is : Bool) : tk s.f0 s.f1 = (0, tr, is) → (∀ x ∈ (is, Tr.lf s.f0 s.f1) :: ps, Wf x.1 x.2) → goS l (((is, Tr.lf s.f0 s.f1) :: ps).map (·.1)) = true → Step s l ps
  | one (tr is b : Bool) (a : Tr) (qs : List (Bool × Tr)) : tk s.f0 s.f1 = (1, tr, is) → s.f1 = 0 → ps = (b, a) :: qs → (∀ x ∈ (is, Tr.un s.f0 a) :: qs, Wf x.1 x.2) → goS l (((is, Tr.un s.f0 a) :: qs).map (·.1)) = true → Step s l ps
  | two (tr is b d : Bool) (a c : Tr) (qs : List (Bool × Tr)) : tk s.f0 s.f1 = (2, tr, is) → s.f1 = 0 → ps = (d, c) :: (b, a) :: qs → (∀ x ∈ (is, Tr.bi s.f0 a c) :: qs, Wf x.1 x.2) → goS l (((is, Tr.bi s.f0 a c) :: qs).map (·.1)) = true → Step s l ps
theorem tree_step {s : S39} {l : List S39} {ps : List (Bool × Tr)} (hp : ∀ x ∈ ps, Wf x.1 x.2) (h : goS (s :: l) (ps.map (·.1)) = true) : Step s l ps := by
  have one : ∀ (tr is : Bool), tk s.f0 s.f1 = (1, tr, is) → s.f1 = 0 → (∀ a, Wf tr a → Wf is (.un s.f0 a)) → Step s l ps := by
    intro tr is ht h0 hmk
    obtain ⟨_, h2, h3, h4⟩ := goS_nx ht h
    match ps, hp, h2, h3, h4 with
    | [], _, h2, _, _ => exact absurd h2 (by simp)
    | (b, p) :: ps, hp, _, h3, h4 =>
      have hb : b = tr := by
        have : ([b] : List Bool).contains (!tr) = false := h3
        cases b <;> cases tr <;> first | rfl | (exact absurd this (by decide))
      subst hb
      exact .one b is b p ps ht h0 rfl (fun x hx => by
        rcases List.mem_cons.1 hx with rfl | hx
        · exact hmk p (hp (b, p) (by simp))
        · exact hp x (by simp [hx])) h4
  have two : ∀ (tr is : Bool), tk s.f0 s.f1 = (2, tr, is) → s.f1 = 0 → (∀ a c, Wf tr a → Wf tr c → Wf is (.bi s.f0 a c)) → Step s l ps := by
    intro tr is ht h0 hmk
    obtain ⟨_, h2, h3, h4⟩ := goS_nx ht h
    match ps, hp, h2, h3, h4 with
    | [], _, h2, _, _ => exact absurd h2 (by simp)
    | [x], _, h2, _, _ => exact absurd h2 (by simp)
    | (b, q) :: (d, p) :: ps, hp, _, h3, h4 =>
      have hb : b = tr ∧ d = tr := by
        have : ([b, d] : List Bool).contains (!tr) = false := h3
        cases b <;> cases d <;> cases tr <;> first | exact ⟨rfl, rfl⟩ | (exact absurd this (by decide))
      obtain ⟨rfl, rfl⟩ := hb
      exact .two d is d d p q ps ht h0 rfl (fun x hx => by
        rcases List.mem_cons.1 hx with rfl | hx
        · exact hmk p q (hp (d, p) (by simp)) (hp (d, q) (by simp))
        · exact hp x (by simp [hx])) h4
  have zero : tk s.f0 s.f1 = (0, false, false) → Wf false (.lf s.f0 s.f1) → Step s l ps := by
    intro ht hmk
    obtain ⟨_, _, _, h4⟩ := goS_nx ht h
    exact .zero false false ht (fun x hx => by
      rcases List.mem_cons.1 hx with rfl | hx
      · exact hmk
      · exact hp x hx) (by simpa using h4)
  have neg : ∀ (tr is : Bool), tk s.f0 s.f1 = (-1, tr, is) → Step s l ps := by
    intro tr is ht
    obtain ⟨h1, _⟩ := goS_nx ht h
    omega
  obtain ⟨a, c⟩ := s
  dsimp only at *
  have ht : tk a c = tk a c := rfl
  unfold tk at ht
  by_cases h1 : a = 1
  · subst h1
    rw [if_pos rfl] at ht
    by_cases hc : 0 ≤ c ∧ c ≤ 2147483647
    · exact zero (by rw [tk, if_pos rfl, if_pos hc]) (Wf.num c hc.1 hc.2)
    · exact neg false false (by rw [tk, if_pos rfl, if_neg hc])
  · by_cases h2 : a = 2
    · subst h2
      by_cases hc : 0 ≤ c ∧ c < 26
      · exact zero (by rw [tk, if_neg h1, if_pos rfl, if_pos hc]) (Wf.name c hc.1 hc.2)
      · exact neg false false (by rw [tk, if_neg h1, if_pos rfl, if_neg hc])
    · by_cases hc : c = 0
      · subst hc
        have ht : tk a 0 = if a = 19 then (1, false, false) else if a = 3 ∨ a = 4 ∨ a = 5 then (2, false, false) else if 6 ≤ a ∧ a ≤ 11 then (2, false, true) else if a = 12 ∨ a = 13 then (2, true, true) else if a = 14 then (1, true, true) else (-1, false, false) := by
          unfold tk
          rw [if_neg h1, if_neg h2, if_neg (show ¬ ((0 : Int) ≠ 0) by simp)]
        by_cases h19 : a = 19
        · rw [if_pos h19] at ht
          subst h19
          exact one false false ht rfl (fun p hp => Wf.neg hp)
        · rw [if_neg h19] at ht
          by_cases h3 : a = 3 ∨ a = 4 ∨ a = 5
          · rw [if_pos h3] at ht
            exact two false false ht rfl (fun p q hp hq => Wf.op a (by omega) (by omega) hp hq)
          · rw [if_neg h3] at ht
            by_cases h6 : 6 ≤ a ∧ a ≤ 11
            · rw [if_pos h6] at ht
              exact two false true ht rfl (fun p q hp hq => Wf.cmp a h6.1 h6.2 hp hq)
            · rw [if_neg h6] at ht
              by_cases h12 : a = 12 ∨ a = 13
              · rw [if_pos h12] at ht
                exact two true true ht rfl (fun p q hp hq => Wf.con a h12 hp hq)
              · rw [if_neg h12] at ht
                by_cases h14 : a = 14
                · rw [if_pos h14] at ht
                  subst h14
                  exact one true true ht rfl (fun p hp => Wf.nt hp)
                · rw [if_neg h14] at ht
                  exact neg false false ht
      · exact neg false false (by unfold tk; rw [if_neg h1, if_neg h2, if_pos hc])
theorem stepT_zero {s : S39} {tr is : Bool} (h : tk s.f0 s.f1 = (0, tr, is)) (ts : List Tr) : stepT s ts = .lf s.f0 s.f1 :: ts := by unfold stepT; rw [h]; rfl
theorem stepT_one {s : S39} {tr is : Bool} (h : tk s.f0 s.f1 = (1, tr, is)) (a : Tr) (ts : List Tr) : stepT s (a :: ts) = .un s.f0 a :: ts := by unfold stepT; rw [h]; rfl
theorem stepT_two {s : S39} {tr is : Bool} (h : tk s.f0 s.f1 = (2, tr, is)) (a b : Tr) (ts : List Tr) : stepT s (b :: a :: ts) = .bi s.f0 a b :: ts := by unfold stepT; rw [h]; rfl
def flatT : List (Bool × Tr) → List S39
  | [] => []
  | x :: ps => flatT ps ++ x.2.post
/-- The signs that Good takes are one tree's, behind. -/
theorem tree_of : ∀ (l : List S39) (ps : List (Bool × Tr)), (∀ x ∈ ps, Wf x.1 x.2) → goS l (ps.map (·.1)) = true → ∃ t, treeS l (ps.map (·.2)) = [t] ∧ Wf true t ∧ t.post = flatT ps ++ l
  | [], ps, hp, h => by
    have h : (ps.map (·.1) == [true]) = true := h
    have e := beq_iff_eq.1 h
    cases ps with
    | nil => cases e
    | cons x ps =>
      have e' : x.1 :: ps.map (·.1) = [true] := e
      have e1 : x.1 = true := (List.cons.inj e').1
      have e2 : ps = [] := List.map_eq_nil_iff.1 (List.cons.inj e').2
      subst e2
      have q := hp x (by simp)
      rw [e1] at q
      exact ⟨x.2, rfl, q, by simp [flatT]⟩
  | s :: l, ps, hp, h => by
    rcases tree_step hp h with ⟨tr, is, ht, hw, hg⟩ | ⟨tr, is, b, a, qs, ht, h0, rfl, hw, hg⟩ | ⟨tr, is, b, d, a, c, qs, ht, h0, rfl, hw, hg⟩
    · obtain ⟨t, e1, e2, e3⟩ := tree_of l _ hw hg
      refine ⟨t, ?_, e2, ?_⟩
      · simp only [treeS]; rw [stepT_zero ht]; exact e1
      · rw [e3]; simp [flatT, Tr.post]
    · obtain ⟨t, e1, e2, e3⟩ := tree_of l _ hw hg
      refine ⟨t, ?_, e2, ?_⟩
      · simp only [treeS, List.map_cons]; rw [stepT_one ht]; exact e1
      · have es : s = ⟨s.f0, 0⟩ := by rw [← h0]
        rw [e3]; simp only [flatT, Tr.post]; rw [es]; simp
    · obtain ⟨t, e1, e2, e3⟩ := tree_of l _ hw hg
      refine ⟨t, ?_, e2, ?_⟩
      · simp only [treeS, List.map_cons]; rw [stepT_two ht]; exact e1
      · have es : s = ⟨s.f0, 0⟩ := by rw [← h0]
        rw [e3]; simp only [flatT, Tr.post]; rw [es]; simp
theorem tree_whole {l : List S39} (h : goS l [] = true) : ∃ t, treeS l [] = [t] ∧ Wf true t ∧ t.post = l := by
  obtain ⟨t, e1, e2, e3⟩ := tree_of l [] (fun x hx => absurd hx (by simp)) h
  exact ⟨t, e1, e2, by simpa [flatT] using e3⟩
theorem shOf_tree {l : List S39} {t : Tr} (h : treeS l [] = [t]) : shOf l = t.sh := by unfold shOf; rw [h]
end Go.Proofs.YtikbgoppmailjaaGreatDoor.Pure
/- guard.Print: what it says of signs. -/
namespace Go.Proofs.YtikbgoppmailjaaGreatDoor.H
open Go.RowKit Go.HK Go.Proofs.YtikbgoppmailjaaGreatDoorW.PrintWords Go.Proofs.YtikbgoppmailjaaGreatDoorW.PrintLast Go.Proofs.YtikbgoppmailjaaGreatDoorW.PrintMore
set_option linter.unusedVariables false
set_option linter.unusedSimpArgs false
def guard_Print.f (k : Nat) (a0 : List S39) : Option (ByteArray × Bool) :=
  if a0.length ≤ 10000 then (if Pure.goS a0 [] = true then lex_Print.f k (Pure.shOf a0) else some (⟨#[]⟩, false)) else none
theorem guard_Print.mono : ∀ a0 k, LeO (guard_Print.f k a0) (guard_Print.f (k + 1) a0) := by
  intro a0 k r h
  unfold guard_Print.f at h ⊢
  split at h
  · rename_i c
    rw [if_pos c]
    split at h
    · rename_i c
      rw [if_pos c]
      exact lex_Print.mono _ k r h
    · rename_i c
      rw [if_neg c]; exact h
  · cases h
/-- Pointers to nodes, as a kind. -/
abbrev kP : Kd Nat := Kd.scalar (fun g : Nat => Value.pointer (some ⟨g, 0, none⟩)) (fun _ => rfl)
theorem infoP : (Tryz.prog.info? 51).map (fun i => (i.zero, i.size, i.bytes)) = some (some (.pointer none), 1, 8) := by kernel_rfl
abbrev Stk (w : World) (b : Nat) (v : Value) (gs : List Nat) : Prop := Kd.R kP 51 w b (fun _ => True) v gs
theorem TrAt.grown {w w1 : World} {b : Nat} {v : Value} {gs : List Nat} (hr : Stk w b v gs) (hg : w.grownBy w1 v.ownBlock) {t : Pure.Tr} {gx : Nat} (h : TrAt w gx t) : TrAt w1 gx t :=
  TrAt.move (fun k cells q => blk_grown q hg (Kd.R_ne hr q (by decide))) h
/-- The trees that lie on the stack, the last one first. -/
def AllR (w : World) : List Nat → List (Bool × Pure.Tr) → Prop
  | [], [] => True
  | g :: gs, p :: ps => TrAt w g p.2 ∧ AllR w gs ps
  | _, _ => False
theorem AllR.move {w w1 : World} (h : ∀ (g : Nat) (t : Pure.Tr), TrAt w g t → TrAt w1 g t) : ∀ {gs : List Nat} {ps : List (Bool × Pure.Tr)}, AllR w gs ps → AllR w1 gs ps
  | [], [], _ => trivial
  | _ :: _, _ :: _, q => ⟨h _ _ q.1, AllR.move h q.2⟩
  | [], _ :: _, q => q.elim
  | _ :: _, [], q => q.elim
theorem stk_get {w : World} {b : Nat} {A : Option Addr} {n c : Nat} {xs : List Nat} (h : Stk w b (.slice A n c) xs) (m g : Nat) (hm : xs[m]? = some g) : ∃ ad, A = some ad ∧ w.cell? (ad.add m) = some (.pointer (some ⟨g, 0, none⟩)) := by
  obtain ⟨e1, e2, hC⟩ := Kd.R_reads' h
  have hlt := (List.getElem?_eq_some_iff.1 hm).1
  obtain ⟨ad, cs, eA, _, hK, hc⟩ := Kd.C_get hC (0 : Nat) (m : Int) (by omega) (by omega)
  have hK : cs = [Value.pointer (some ⟨xs.getD m 0, 0, none⟩)] := hK
  refine ⟨ad, eA, ?_⟩
  have h0 := hc 0 (Value.pointer (some ⟨xs.getD m 0, 0, none⟩)) (by rw [hK]; rfl)
  have e : xs.getD m 0 = g := by rw [List.getD_eq_getElem?_getD, hm]; rfl
  rw [e] at h0
  have e2 : ((m : Int).toNat * kP.sz + 0) = m := by
    show (m : Int).toNat * 1 + 0 = m
    omega
  rw [e2] at h0
  exact h0
/-- A round of Print's loop: what lies on the stack, what is still to come. -/
structure PrI (l : List S39) (t : Pure.Tr) (b : Nat) (w0 : World) (i : Nat) (hs : List Nat) (ps : List (Bool × Pure.Tr)) (v : Value) (w : World) : Prop where
  st : Stk w b v hs.reverse
  at_ : AllR w hs ps
  wf : ∀ x ∈ ps, Pure.Wf x.1 x.2
  go : Pure.goS (l.drop i) (ps.map (·.1)) = true
  tr : Pure.treeS (l.drop i) (ps.map (·.2)) = [t]
  be : Below b w0 w
  le : hs.length ≤ i
theorem w64n (a : Int) (h : -9223372036854775808 ≤ a ∧ a ≤ 9223372036854775807) : wrap64 a = a := by unfold wrap64; omega
theorem rd_at14 (l : List S39) (i : Nat) (h : i < l.length) : rd_T39 l (i : Int) = l[i] := by
  unfold rd_T39
  rw [Int.toNat_natCast, List.getD_eq_getElem?_getD, List.getElem?_eq_getElem h]
  rfl
theorem PrI.next {l : List S39} {t : Pure.Tr} {b : Nat} {w0 w w2 w5 : World} {i : Nat} {v : Value} {hs hs' : List Nat} {ps qs : List (Bool × Pure.Tr)} {A : Option Addr} {m c : Nat} {v5 : Value} {nc : Array Value} {is : Bool} {tr : Pure.Tr}
    (h : PrI l t b w0 i hs ps v w) (hi : i < l.length) (hb : b ≤ w.heap.size) (hb2 : Below w.heap.size w w2)
    (hst : Stk (w2.alloc (.cells nc 53)) b (.slice A m c) hs'.reverse) (hr5 : Stk w5 b v5 (hs'.reverse ++ [w2.heap.size])) (hb5 : Below b (w2.alloc (.cells nc 53)) w5) (hg5 : (w2.alloc (.cells nc 53)).grownBy w5 (Value.slice A m c).ownBlock)
    (hrest : ∀ w', AllR w' hs ps → AllR w' hs' qs) (htr : ∀ w', AllR w' hs ps → w'.heap[w2.heap.size]? = some (.cells nc 53 (0, 0)) → TrAt w' w2.heap.size tr)
    (hw : ∀ x ∈ (is, tr) :: qs, Pure.Wf x.1 x.2) (hg : Pure.goS (l.drop (i + 1)) (((is, tr) :: qs).map (·.1)) = true) (ht : Pure.stepT l[i] (ps.map (·.2)) = tr :: qs.map (·.2)) (hle : hs'.length ≤ hs.length) : PrI l t b w0 (i + 1) (w2.heap.size :: hs') ((is, tr) :: qs) v5 w5 := by
  have mv : ∀ (g : Nat) (t : Pure.Tr), TrAt w g t → TrAt w5 g t := fun g t q => TrAt.grown hst hg5 (TrAt.below ((Below.refl w2.heap.size w2).alloc (Nat.le_refl _) _) (TrAt.below hb2 q))
  have ha5 := h.at_.move mv
  have hn : (w2.alloc (.cells nc 53)).heap[w2.heap.size]? = some (.cells nc 53 (0, 0)) := heap_alloc_last _ _
  have hn5 := blk_grown hn hg5 (Kd.R_ne hst hn (by decide))
  refine ⟨by rw [List.reverse_cons]; exact hr5, ⟨htr w5 ha5 hn5, hrest w5 ha5⟩, hw, hg, ?_, ?_, ?_⟩
  · have := h.tr
    rw [List.drop_eq_getElem_cons hi] at this
    simp only [Pure.treeS] at this
    rw [ht] at this
    exact this
  · have h2 : b ≤ w2.heap.size := Nat.le_trans hb hb2.size
    exact (h.be.trans (hb2.mono hb)).trans ((((Below.refl w2.heap.size w2).alloc (Nat.le_refl _) _).mono h2).trans hb5)
  · have := h.le
    simp only [List.length_cons]
    omega
set_option maxRecDepth 100000 in
set_option maxHeartbeats 1600000 in
theorem guard_Print.calls (k : Nat) (A0 : Option Addr) (c0 : Nat) (l : List S39) (r1 : ByteArray) (r2 : Bool) (w : World) (hr0 : Kd.C k39 w A0 l.length l) (hc0 : l.length ≤ c0) (hT : Tabs w) (h : guard_Print.f k l = some (r1, r2)) :
    Calls Tryz.prog 9 #[.slice A0 l.length c0] w fun e w' => e = .returned (.tuple #[.string r1, .bool r2]) ∧ Below w.heap.size w w' := by
  unfold guard_Print.f at h
  by_cases hll : l.length ≤ 10000
  case neg => rw [if_neg hll] at h; cases h
  rw [if_pos hll] at h
  have hgood := Pure.good_goS l (by omega) _ (Nat.le_refl _)
  have HR0 := Aside0.mk hr0
  have HC0 := Aside0.mk hc0
  have HT := Aside0.mk hT
  have HLL := Aside0.mk hll
  cases hg0 : Pure.goS l [] with
  | false =>
    rw [hg0] at h hgood
    rw [if_neg (by decide)] at h
    obtain ⟨rfl, rfl⟩ := Prod.mk.inj (Option.some.inj h)
    have HG := Aside0.mk hgood
    clear h hgood hr0 hc0 hT hll
    go_enter Tryz.func9, Tryz.ntmps9
    go_wp2_with (first
      | (go_at_call 11; refine (guard_Good.calls _ A0 c0 l false w HR0.out HC0.out HG.out).mono ?_; rintro e w1 ⟨rfl, hb⟩; have HB1 := Aside0.mk hb; clear hb))
    go_ret2
    exact ⟨rfl, HB1.out⟩
  | true =>
    obtain ⟨t, et, wt, pt⟩ := Pure.tree_whole hg0
    have hsh := Pure.sh_len wt
    rw [pt] at hsh
    rw [hg0] at h hgood
    rw [if_pos rfl, Pure.shOf_tree et] at h
    have HLP := Aside0.mk h
    have HG := Aside0.mk hgood
    have HG0 := Aside0.mk hg0
    have HET := Aside0.mk et
    have HWT := Aside0.mk wt
    have HSH := Aside0.mk hsh
    obtain ⟨iP, hiP, _⟩ := info_parts infoP
    clear h hgood hr0 hc0 hT hll hg0 et wt pt hsh
    go_enter Tryz.func9, Tryz.ntmps9
    go_wp2_with (first
      | (go_at_call 11; refine (guard_Good.calls _ A0 c0 l true w HR0.out HC0.out HG.out).mono ?_; rintro e w1 ⟨rfl, hb⟩; have HB1 := Aside0.mk hb; clear hb))
    go_loopg [4, 17] (l.length + 1) (fun kq v4 v17 wr => ∃ (i : Nat) (hs : List Nat) (ps : List (Bool × Pure.Tr)), v17 = .int .i64 (i : Int) ∧ kq + i = l.length + 1 ∧ i ≤ l.length ∧ PrI l t w.heap.size w i hs ps v4 wr)
    case atStart => exact ⟨0, [], [], rfl, by omega, by omega, ⟨Kd.R_nil _ _ _ _ _, trivial, fun x hx => absurd hx (by simp), HG0.out, HET.out, HB1.out, Nat.le_refl _⟩⟩
    case round =>
      clear HB1
      obtain ⟨i, hs, ps, rfl, hki, hil, hP⟩ := hrel
      have HKI := Aside0.mk hki
      by_cases hlt : i < l.length
      case neg =>
        have hgo := hP.go
        have htr := hP.tr
        rw [List.drop_eq_nil_of_le (by omega)] at hgo htr
        have htr : ps.map (·.2) = [t] := htr
        obtain ⟨x, rfl, hx⟩ := List.map_eq_singleton_iff.1 htr
        obtain ⟨g, rfl⟩ : ∃ g, hs = [g] := by
          have := hP.at_
          match hs, this with
          | [g], _ => exact ⟨g, rfl⟩
        have hta := hP.at_.1
        rw [hx] at hta
        obtain ⟨A4, n, c4, rfl⟩ : ∃ A n c, u4 = .slice A n c := by obtain ⟨A, c, e⟩ := Kd.R_slice hP.st; exact ⟨A, _, c, e⟩
        have en := (Kd.R_reads' hP.st).1
        obtain rfl : n = 1 := en
        obtain ⟨ad1, rfl, hst0⟩ := stk_get hP.st 0 g rfl
        have hst0 : wr.cell? ad1 = some (.pointer (some ⟨g, 0, none⟩)) := by simpa [Addr.add] using hst0
        have hkl : decide ((i : Int) < (l.length : Int)) = false := decide_eq_false (by omega)
        have hkl2 : decide (i < l.length) = false := decide_eq_false hlt
        have HTA := Aside0.mk hta
        have HBE := Aside0.mk hP.be
        clear hP hta hgo htr hx hki hil hlt
        go_wp2_with (first
          | (go_at_call 22; refine (lex_Print.calls k A2 c2 t.sh r1 r2 w2 HC2.out HLC2.out (HT.out.below HB2.out) HLP.out).mono ?_; rintro e w3 ⟨rfl, hb⟩; have HB3 := Aside0.mk (HB2.out.trans (hb.mono HB2.out.size)); clear hb)
          | (go_at_call 23; refine (signs_all HWT.out wr.heap.size g (.slice none 0 0) wr [] HTA.out (Kd.R_nil _ _ _ _ _) (Nat.le_refl _) (by have := HSH.out; have := HLL.out; simp only [List.length_nil]; omega)).mono ?_; rintro e w2 ⟨v2, rfl, hr2, hb2, _⟩; rw [List.nil_append] at hr2; obtain ⟨A2, c2, e2, hlc, hC⟩ := Kd.R_reads hr2; subst e2; have HC2 := Aside0.mk hC; have HLC2 := Aside0.mk hlc; have HB2 := Aside0.mk (HBE.out.trans (hb2.mono HBE.out.size)); clear hr2 hb2 hlc hC))
        go_ret2
        exact ⟨rfl, HB3.out⟩
      case pos =>
        have hin : (i : Int) < (l.length : Int) := by omega
        obtain ⟨ad, eA, e0, e1⟩ := at_T39 HR0.out (i : Int) (by omega) hin
        subst eA
        rw [rd_at14 l i hlt, Int.toNat_natCast] at e0 e1
        replace e0 := (hP.be.cell (World.block_lt_of_cell? w _ e0)).trans e0
        replace e1 := (hP.be.cell (World.block_lt_of_cell? w _ e1)).trans e1
        have p0 : (0 ≤ (i : Int)) = True := eq_true (by omega)
        have q0 : ((i : Int) < (l.length : Int)) = True := eq_true hin
        have hkl : decide ((i : Int) < (l.length : Int)) = true := decide_eq_true hin
        have hkl2 : decide (i < l.length) = true := decide_eq_true hlt
        have HADD := Aside0.mk (show wrap64 ((i : Int) + 1) = ((i + 1 : Nat) : Int) from (w64n _ (by have := HLL.out; omega)).trans (by omega))
        obtain ⟨A4, n, c4, rfl⟩ : ∃ A n c, u4 = .slice A n c := by obtain ⟨A, c, e⟩ := Kd.R_slice hP.st; exact ⟨A, _, c, e⟩
        have HP := Aside0.mk hP
        have HBE := Aside0.mk hP.be
        have hstep := hP.go
        rw [List.drop_eq_getElem_cons hlt] at hstep
        rcases Pure.tree_step hP.wf hstep with ⟨tr, is, ht, hw, hg⟩ | ⟨tr, is, b, a, qs, ht, h0, rfl, hw, hg⟩ | ⟨tr, is, b, d, a, d2, qs, ht, h0, rfl, hw, hg⟩
        · have TK := Aside0.mk ((Pure.takes_tk 0 _ _).trans (congrArg some ht))
          clear hstep hki hil
          obtain ⟨m, HM⟩ : ∃ m, Aside0 (m = hs.length) := ⟨_, ⟨rfl⟩⟩
          have hsl := hP.st
          have en := (Kd.R_reads' hsl).1
          rw [List.length_reverse] at en
          have hmn : m = n := by have := HM.out; omega
          subst hmn
          have hw0 : wrap64 (m : Int) = (m : Int) := w64n _ (by have := hP.le; have := HM.out; have := HLL.out; omega)
          have hcut := cut_to (P := Tryz.prog) 48 51 .i64 Tryz.underlying48 hiP A4 m c4 (m : Int) (by omega) (by have := HM.out; omega) (Kd.R_reads' hsl).2.1
          rw [Int.toNat_natCast] at hcut
          have htk := Kd.R_take (m := m) hsl (by have := HM.out; simp only [List.length_reverse, List.length_cons]; omega)
          have etk : hs.reverse.take m = hs.reverse := by
            have := HM.out
            exact List.take_of_length_le (by simp; omega)
          rw [etk] at htk
          have HTK := Aside0.mk htk
          have HW := Aside0.mk hw
          have HGG := Aside0.mk hg
          have HTT := Aside0.mk ht
          clear hP hsl htk etk hw hg ht en
          go_wp2_with (first
            | (at_builtin; refine Kd.R_append kP (w0 := (w2.alloc (.cells #[.int .i64 l[i].f0, .int .i64 l[i].f1, .pointer none, .pointer none] 53))) w.heap.size rfl (.tmp 55) (.tmp 57) 48 51 (.pointer none) 8 rfl Tryz.underlying48 infoP rfl (by decide) (by omega) (.slice A4 m c4) hs.reverse w2.heap.size [.pointer (some ⟨w2.heap.size, 0, none⟩)] (fun _ => True) (fun _ => False) ?h1 ?h2 ?aP (fun _ hk => hk.elim) ?aF ?aO ?aB ?aS ?aL ?_; (case h1 => rfl); (case h2 => first | rfl | (simp only [World.size_setCell, World.size_alloc]; rfl)); (case aP => exact rfl); (case aB => exact Below.refl _ _); (case aF => exact (fun _ _ => trivial)); (case aO => exact HTW.out); (case aS => have := HBE.out.size; have := HB2.out.size; simp only [World.size_alloc]; omega); (case aL => have := HM.out; have := HP.out.le; have := HLL.out; (try simp only [List.length_reverse, List.length_cons] at *); omega); intro v5 w5 hr5 hb5 hg5 hat5; have HR5 := Aside0.mk hr5; have HB5 := Aside0.mk hb5; have HG5 := Aside0.mk hg5; clear hr5 hb5 hg5 hat5)
            | (go_at_call 21; refine (guard_takes.calls 6 l[i].f0 l[i].f1 0 tr is _ TK.out).mono ?_; rintro e w2 ⟨rfl, hb⟩; have hB2 : Below wr.heap.size wr w2 := ((Below.refl wr.heap.size wr).alloc (Nat.le_refl _) _).trans (hb.mono (by simp)); have HB2 := Aside0.mk hB2; have hbk := (hb.block _ (by simp)).trans (heap_alloc_last wr (.cells #[.int .i64 l[i].f0, .int .i64 l[i].f1] 39)); have hs0 := bce hbk 0; have hs1 := bce hbk 1; have HTW := Aside0.mk (Kd.R_alloc (Kd.R_below HTK.out hB2) (.cells #[.int .i64 l[i].f0, .int .i64 l[i].f1, .pointer none, .pointer none] 53)); clear hb hbk hB2))
          go_roundg (l.length - i)
          case measure => have := HKI.out; omega
          case rel => exact ⟨i + 1, w2.heap.size :: hs, (is, Pure.Tr.lf l[i].f0 l[i].f1) :: ps, by first | rfl | exact congrArg (Value.int .i64) HADD.out, by have := HKI.out; omega, by omega, PrI.next HP.out hlt (by have := HBE.out.size; omega) HB2.out HTW.out HR5.out HB5.out HG5.out (hrest := fun w' q => q) (htr := fun w' q hn => hn) (hw := HW.out) (hg := HGG.out) (ht := Pure.stepT_zero HTT.out _) (hle := Nat.le_refl _)⟩
        · have TK := Aside0.mk ((Pure.takes_tk 0 _ _).trans (congrArg some ht))
          clear hstep hki hil
          obtain ⟨ga, hs', rfl⟩ : ∃ ga hs', hs = ga :: hs' := by cases hs with | nil => exact absurd hP.at_ (fun q => q) | cons ga hs' => exact ⟨ga, hs', rfl⟩
          obtain ⟨m, HM⟩ : ∃ m, Aside0 (m = hs'.length) := ⟨_, ⟨rfl⟩⟩
          have hsl := hP.st
          have en := (Kd.R_reads' hsl).1
          rw [List.length_reverse, List.length_cons] at en
          have hle0 := hP.le
          rw [List.length_cons] at hle0
          have hw1 : wrap64 ((n : Int) - 1) = (m : Int) := (w64n _ (by have := HM.out; have := HLL.out; omega)).trans (by have := HM.out; omega)
          obtain ⟨ad1, eA, hst0⟩ := stk_get hsl m ga (by have := HM.out; subst this; simp)
          subst eA
          have p1 : (0 ≤ (m : Int)) = True := eq_true (by omega)
          have q1 : ((m : Int) < (n : Int)) = True := eq_true (by have := HM.out; omega)
          have hcut := cut_to (P := Tryz.prog) 48 51 .i64 Tryz.underlying48 hiP (some ad1) n c4 (m : Int) (by omega) (by have := HM.out; omega) (Kd.R_reads' hsl).2.1
          rw [Int.toNat_natCast] at hcut
          have htk := Kd.R_take (m := m) hsl (by have := HM.out; simp only [List.length_reverse, List.length_cons]; omega)
          have etk : (ga :: hs').reverse.take m = hs'.reverse := by
            have := HM.out
            rw [List.reverse_cons, List.take_append_of_le_length (by simp; omega), List.take_of_length_le (by simp; omega)]
          rw [etk] at htk
          have HTK := Aside0.mk htk
          have HW := Aside0.mk hw
          have HGG := Aside0.mk hg
          have HTT := Aside0.mk ht
          have h0' : l[i].f1 = 0 := h0
          rw [h0'] at e1 TK
          clear h0'
          clear hP hsl htk etk hw hg ht en
          clear hle0 h0
          go_wp2_with (first
            | (at_builtin; refine Kd.R_append kP (w0 := (w2.alloc (.cells #[.int .i64 l[i].f0, .int .i64 0, .pointer (some ⟨ga, 0, none⟩), .pointer none] 53))) w.heap.size rfl (.tmp 55) (.tmp 57) 48 51 (.pointer none) 8 rfl Tryz.underlying48 infoP rfl (by decide) (by omega) (.slice (some ad1) m c4) hs'.reverse w2.heap.size [.pointer (some ⟨w2.heap.size, 0, none⟩)] (fun _ => True) (fun _ => False) ?h1 ?h2 ?aP (fun _ hk => hk.elim) ?aF ?aO ?aB ?aS ?aL ?_; (case h1 => rfl); (case h2 => first | rfl | (simp only [World.size_setCell, World.size_alloc]; rfl)); (case aP => exact rfl); (case aB => exact Below.refl _ _); (case aF => exact (fun _ _ => trivial)); (case aO => exact HTW.out); (case aS => have := HBE.out.size; have := HB2.out.size; simp only [World.size_alloc]; omega); (case aL => have := HM.out; have := HP.out.le; have := HLL.out; (try simp only [List.length_reverse, List.length_cons] at *); omega); intro v5 w5 hr5 hb5 hg5 hat5; have HR5 := Aside0.mk hr5; have HB5 := Aside0.mk hb5; have HG5 := Aside0.mk hg5; clear hr5 hb5 hg5 hat5)
            | (go_at_call 21; refine (guard_takes.calls 6 l[i].f0 0 1 tr is _ TK.out).mono ?_; rintro e w2 ⟨rfl, hb⟩; have hB2 : Below wr.heap.size wr w2 := ((Below.refl wr.heap.size wr).alloc (Nat.le_refl _) _).trans (hb.mono (by simp)); have HB2 := Aside0.mk hB2; have hbk := (hb.block _ (by simp)).trans (heap_alloc_last wr (.cells #[.int .i64 l[i].f0, .int .i64 0] 39)); have hs0 := bce hbk 0; have hs1 := bce hbk 1; have hsa := cell_alloc_keep (.cells #[.int .i64 l[i].f0, .int .i64 0, .pointer none, .pointer none] 53) ((hB2.cell (World.block_lt_of_cell? _ _ hst0)).trans hst0); have HTW := Aside0.mk (Kd.R_alloc (Kd.R_below HTK.out hB2) (.cells #[.int .i64 l[i].f0, .int .i64 0, .pointer (some ⟨ga, 0, none⟩), .pointer none] 53)); clear hb hbk hB2))
          go_roundg (l.length - i)
          case measure => have := HKI.out; omega
          case rel => exact ⟨i + 1, w2.heap.size :: hs', (is, Pure.Tr.un l[i].f0 a) :: qs, by first | rfl | exact congrArg (Value.int .i64) HADD.out, by have := HKI.out; omega, by omega, PrI.next HP.out hlt (by have := HBE.out.size; omega) HB2.out HTW.out HR5.out HB5.out HG5.out (hrest := fun w' q => q.2) (htr := fun w' q hn => ⟨ga, hn, q.1⟩) (hw := HW.out) (hg := HGG.out) (ht := Pure.stepT_one HTT.out _ _) (hle := by simp)⟩
        · have TK := Aside0.mk ((Pure.takes_tk 0 _ _).trans (congrArg some ht))
          clear hstep hki hil
          obtain ⟨gb, ga, hs', rfl⟩ : ∃ gb ga hs', hs = gb :: ga :: hs' := by
            cases hs with
            | nil => exact absurd hP.at_ (fun q => q)
            | cons gb hs' => cases hs' with
              | nil => exact absurd hP.at_.2 (fun q => q)
              | cons ga hs' => exact ⟨gb, ga, hs', rfl⟩
          obtain ⟨m, HM⟩ : ∃ m, Aside0 (m = hs'.length) := ⟨_, ⟨rfl⟩⟩
          obtain ⟨m1, HM1⟩ : ∃ m, Aside0 (m = hs'.length + 1) := ⟨_, ⟨rfl⟩⟩
          have hsl := hP.st
          have en := (Kd.R_reads' hsl).1
          rw [List.length_reverse, List.length_cons, List.length_cons] at en
          have hle0 := hP.le
          rw [List.length_cons, List.length_cons] at hle0
          have hw1 : wrap64 ((n : Int) - 2) = (m : Int) := (w64n _ (by have := HM.out; have := HLL.out; omega)).trans (by have := HM.out; omega)
          have hw2 : wrap64 ((m : Int) + 1) = (m1 : Int) := (w64n _ (by have := HM.out; have := HLL.out; omega)).trans (by have := HM.out; have := HM1.out; omega)
          obtain ⟨ad1, eA, hst0⟩ := stk_get hsl m ga (by have := HM.out; subst this; simp)
          obtain ⟨ad2, eA2, hst1⟩ := stk_get hsl m1 gb (by have := HM1.out; subst this; simp)
          subst eA
          obtain rfl := Option.some.inj eA2
          have p1 : (0 ≤ (m : Int)) = True := eq_true (by omega)
          have q1 : ((m : Int) < (n : Int)) = True := eq_true (by have := HM.out; omega)
          have p2 : (0 ≤ (m1 : Int)) = True := eq_true (by omega)
          have q2 : ((m1 : Int) < (n : Int)) = True := eq_true (by have := HM1.out; omega)
          have hcut := cut_to (P := Tryz.prog) 48 51 .i64 Tryz.underlying48 hiP (some ad1) n c4 (m : Int) (by omega) (by have := HM.out; omega) (Kd.R_reads' hsl).2.1
          rw [Int.toNat_natCast] at hcut
          have htk := Kd.R_take (m := m) hsl (by have := HM.out; simp only [List.length_reverse, List.length_cons]; omega)
          have etk : (gb :: ga :: hs').reverse.take m = hs'.reverse := by
            have := HM.out
            rw [List.reverse_cons, List.reverse_cons, List.append_assoc, List.take_append_of_le_length (by simp; omega), List.take_of_length_le (by simp; omega)]
          rw [etk] at htk
          have HTK := Aside0.mk htk
          have HW := Aside0.mk hw
          have HGG := Aside0.mk hg
          have HTT := Aside0.mk ht
          have h0' : l[i].f1 = 0 := h0
          rw [h0'] at e1 TK
          clear h0'
          clear hP hsl htk etk hw hg ht en
          clear hle0 h0
          go_wp2_with (first
            | (at_builtin; refine Kd.R_append kP (w0 := (w2.alloc (.cells #[.int .i64 l[i].f0, .int .i64 0, .pointer (some ⟨ga, 0, none⟩), .pointer (some ⟨gb, 0, none⟩)] 53))) w.heap.size rfl (.tmp 55) (.tmp 57) 48 51 (.pointer none) 8 rfl Tryz.underlying48 infoP rfl (by decide) (by omega) (.slice (some ad1) m c4) hs'.reverse w2.heap.size [.pointer (some ⟨w2.heap.size, 0, none⟩)] (fun _ => True) (fun _ => False) ?h1 ?h2 ?aP (fun _ hk => hk.elim) ?aF ?aO ?aB ?aS ?aL ?_; (case h1 => rfl); (case h2 => first | rfl | (simp only [World.size_setCell, World.size_alloc]; rfl)); (case aP => exact rfl); (case aB => exact Below.refl _ _); (case aF => exact (fun _ _ => trivial)); (case aO => exact HTW.out); (case aS => have := HBE.out.size; have := HB2.out.size; simp only [World.size_alloc]; omega); (case aL => have := HM.out; have := HP.out.le; have := HLL.out; (try simp only [List.length_reverse, List.length_cons] at *); omega); intro v5 w5 hr5 hb5 hg5 hat5; have HR5 := Aside0.mk hr5; have HB5 := Aside0.mk hb5; have HG5 := Aside0.mk hg5; clear hr5 hb5 hg5 hat5)
            | (go_at_call 21; refine (guard_takes.calls 6 l[i].f0 0 2 tr is _ TK.out).mono ?_; rintro e w2 ⟨rfl, hb⟩; have hB2 : Below wr.heap.size wr w2 := ((Below.refl wr.heap.size wr).alloc (Nat.le_refl _) _).trans (hb.mono (by simp)); have HB2 := Aside0.mk hB2; have hbk := (hb.block _ (by simp)).trans (heap_alloc_last wr (.cells #[.int .i64 l[i].f0, .int .i64 0] 39)); have hs0 := bce hbk 0; have hs1 := bce hbk 1; have hsa := cell_alloc_keep (.cells #[.int .i64 l[i].f0, .int .i64 0, .pointer none, .pointer none] 53) ((hB2.cell (World.block_lt_of_cell? _ _ hst0)).trans hst0); have hsb := cell_alloc_keep (.cells #[.int .i64 l[i].f0, .int .i64 0, .pointer (some ⟨ga, 0, none⟩), .pointer none] 53) ((hB2.cell (World.block_lt_of_cell? _ _ hst1)).trans hst1); have HTW := Aside0.mk (Kd.R_alloc (Kd.R_below HTK.out hB2) (.cells #[.int .i64 l[i].f0, .int .i64 0, .pointer (some ⟨ga, 0, none⟩), .pointer (some ⟨gb, 0, none⟩)] 53)); clear hb hbk hB2))
          go_roundg (l.length - i)
          case measure => have := HKI.out; omega
          case rel => exact ⟨i + 1, w2.heap.size :: hs', (is, Pure.Tr.bi l[i].f0 a d2) :: qs, by first | rfl | exact congrArg (Value.int .i64) HADD.out, by have := HKI.out; omega, by omega, PrI.next HP.out hlt (by have := HBE.out.size; omega) HB2.out HTW.out HR5.out HB5.out HG5.out (hrest := fun w' q => q.2.2) (htr := fun w' q hn => ⟨ga, gb, hn, q.2.1, q.1⟩) (hw := HW.out) (hg := HGG.out) (ht := Pure.stepT_two HTT.out _ _ _) (hle := by simp; omega)⟩
end Go.Proofs.YtikbgoppmailjaaGreatDoor.H
-- Written by hp.py (a program of this session, over the kit's print.py), with hand-made contracts beside it.
namespace Go.Proofs.YtikbgoppmailjaaGreatDoor.H
open Go.RowKit Go.Proofs.YtikbgoppmailjaaGreatDoorW.PrintWords Go.Proofs.YtikbgoppmailjaaGreatDoorW.PrintLast Go.Proofs.YtikbgoppmailjaaGreatDoorW.PrintMore
attribute [local go_sem] max2_int min2_int max_two min_two max_three min_three max_four min_four   -- for this text's walks alone
set_option linter.unusedVariables false
set_option linter.unusedSimpArgs false

attribute [local go_sem high] eqA39
/-! ### remontoirlaw14_wakes: function 5 -/
def remontoirlaw14_wakes.f (k : Nat)  : Option (Bool) := (guard_Parse.f k (⟨#[97, 32, 60, 32, 51, 32, 38, 32, 33, 32, 40, 32, 98, 32, 61, 61, 32, 49, 32, 124, 32, 99, 32, 62, 32, 50, 32, 41]⟩ : ByteArray)).bind fun bt139 => ((guard_Print.f k bt139.1).bind fun bt143 => ((guard_Parse.f k (⟨#[97, 32, 60, 32, 98, 32, 60, 32, 99]⟩ : ByteArray)).bind fun bt145 => ((guard_Parse.f k (⟨#[40, 32, 97, 32, 41, 32, 60, 32, 49]⟩ : ByteArray)).bind fun bt149 => ((guard_Parse.f k (⟨#[97, 32, 38, 32, 98]⟩ : ByteArray)).bind fun bt153 => ((guard_Parse.f k (⟨#[91, 32, 97, 32, 43, 32, 49, 32, 93, 32, 42, 32, 50, 32, 61, 61, 32, 98]⟩ : ByteArray)).bind fun bt157 => (if bt139.2 = 0 then (if (bt139.1.length : Int) = 12 then (if 2 < (bt139.1.length : Int) then (if (((rd_T39 bt139.1 2).f0) == 6 && (((rd_T39 bt139.1 2).f1) == 0)) = true then (if 11 < (bt139.1.length : Int) then (if (((rd_T39 bt139.1 11).f0) == 12 && (((rd_T39 bt139.1 11).f1) == 0)) = true then (if bt143.1.toList = ([97, 32, 60, 32, 51, 32, 38, 32, 33, 32, 40, 32, 98, 32, 61, 61, 32, 49, 32, 124, 32, 99, 32, 62, 32, 50, 32, 41] : List UInt8) then (if bt143.2 = true then (if bt145.2 = 2 then (if bt149.2 = 2 then (if bt153.2 = 2 then (if bt157.2 = 0 then ((guard_Good.f k bt157.1).bind fun t163 => (if t163 = true then (if 3 ≤ (bt157.1.length : Int) then ((guard_Good.f k (bt157.1.take 3)).bind fun t168 => (some (!t168))) else (none)) else (some false))) else (some false)) else (some false)) else (some false)) else (some false)) else (some false)) else (some false)) else (some false)) else (none)) else (some false)) else (none)) else (some false)) else (some false)))))))
theorem remontoirlaw14_wakes.mono : ∀ k, LeO (remontoirlaw14_wakes.f k ) (remontoirlaw14_wakes.f (k + 1) ) := by
  intro  k
  unfold remontoirlaw14_wakes.f
  repeat' first
      | (with_reducible exact guard_Good.mono _ _)
      | (with_reducible exact guard_Parse.mono _ _)
      | (with_reducible exact guard_Print.mono _ _)
      | (with_reducible exact LeO.refl _)
      | (with_reducible exact LeO.none _)
      | (with_reducible refine LeO.ite ?_ ?_)
      | (with_reducible refine LeO.bind ?_ (fun _ => ?_))
      | exact guard_Good.mono _ _
      | exact guard_Parse.mono _ _
      | exact guard_Print.mono _ _
      | exact LeO.none _
      | refine LeO.ite ?_ ?_
      | refine LeO.bind ?_ (fun _ => ?_)
set_option maxHeartbeats 8000000 in
set_option maxRecDepth 100000 in
theorem remontoirlaw14_wakes.calls (k : Nat)  (w : World) (hT : Tabs2 w) (h : remontoirlaw14_wakes.f k  = some true) :
  Calls Tryz.prog 5 #[] w fun e w' => e = .returned (.bool true) ∧ Below w.heap.size w w' := by
 have hu39 := Tryz.underlying39
 have HB := Aside0.mk (Below.refl w.heap.size w)
 have H : ((guard_Parse.f k (⟨#[97, 32, 60, 32, 51, 32, 38, 32, 33, 32, 40, 32, 98, 32, 61, 61, 32, 49, 32, 124, 32, 99, 32, 62, 32, 50, 32, 41]⟩ : ByteArray)).bind fun bt139 => ((guard_Print.f k bt139.1).bind fun bt143 => ((guard_Parse.f k (⟨#[97, 32, 60, 32, 98, 32, 60, 32, 99]⟩ : ByteArray)).bind fun bt145 => ((guard_Parse.f k (⟨#[40, 32, 97, 32, 41, 32, 60, 32, 49]⟩ : ByteArray)).bind fun bt149 => ((guard_Parse.f k (⟨#[97, 32, 38, 32, 98]⟩ : ByteArray)).bind fun bt153 => ((guard_Parse.f k (⟨#[91, 32, 97, 32, 43, 32, 49, 32, 93, 32, 42, 32, 50, 32, 61, 61, 32, 98]⟩ : ByteArray)).bind fun bt157 => (if bt139.2 = 0 then (if (bt139.1.length : Int) = 12 then (if 2 < (bt139.1.length : Int) then (if (((rd_T39 bt139.1 2).f0) == 6 && (((rd_T39 bt139.1 2).f1) == 0)) = true then (if 11 < (bt139.1.length : Int) then (if (((rd_T39 bt139.1 11).f0) == 12 && (((rd_T39 bt139.1 11).f1) == 0)) = true then (if bt143.1.toList = ([97, 32, 60, 32, 51, 32, 38, 32, 33, 32, 40, 32, 98, 32, 61, 61, 32, 49, 32, 124, 32, 99, 32, 62, 32, 50, 32, 41] : List UInt8) then (if bt143.2 = true then (if bt145.2 = 2 then (if bt149.2 = 2 then (if bt153.2 = 2 then (if bt157.2 = 0 then ((guard_Good.f k bt157.1).bind fun t163 => (if t163 = true then (if 3 ≤ (bt157.1.length : Int) then ((guard_Good.f k (bt157.1.take 3)).bind fun t168 => (some (!t168))) else (none)) else (some false))) else (some false)) else (some false)) else (some false)) else (some false)) else (some false)) else (some false)) else (some false)) else (none)) else (some false)) else (none)) else (some false)) else (some false)))))))) = some true := h
 clear h
 replace H := Option.bind_eq_some_iff.mp H
 obtain ⟨⟨t139, t140⟩, A10, H⟩ := H
 replace H : ((guard_Print.f k t139).bind fun bt143 => ((guard_Parse.f k (⟨#[97, 32, 60, 32, 98, 32, 60, 32, 99]⟩ : ByteArray)).bind fun bt145 => ((guard_Parse.f k (⟨#[40, 32, 97, 32, 41, 32, 60, 32, 49]⟩ : ByteArray)).bind fun bt149 => ((guard_Parse.f k (⟨#[97, 32, 38, 32, 98]⟩ : ByteArray)).bind fun bt153 => ((guard_Parse.f k (⟨#[91, 32, 97, 32, 43, 32, 49, 32, 93, 32, 42, 32, 50, 32, 61, 61, 32, 98]⟩ : ByteArray)).bind fun bt157 => (if t140 = 0 then (if (t139.length : Int) = 12 then (if 2 < (t139.length : Int) then (if (((rd_T39 t139 2).f0) == 6 && (((rd_T39 t139 2).f1) == 0)) = true then (if 11 < (t139.length : Int) then (if (((rd_T39 t139 11).f0) == 12 && (((rd_T39 t139 11).f1) == 0)) = true then (if bt143.1.toList = ([97, 32, 60, 32, 51, 32, 38, 32, 33, 32, 40, 32, 98, 32, 61, 61, 32, 49, 32, 124, 32, 99, 32, 62, 32, 50, 32, 41] : List UInt8) then (if bt143.2 = true then (if bt145.2 = 2 then (if bt149.2 = 2 then (if bt153.2 = 2 then (if bt157.2 = 0 then ((guard_Good.f k bt157.1).bind fun t163 => (if t163 = true then (if 3 ≤ (bt157.1.length : Int) then ((guard_Good.f k (bt157.1.take 3)).bind fun t168 => (some (!t168))) else (none)) else (some false))) else (some false)) else (some false)) else (some false)) else (some false)) else (some false)) else (some false)) else (some false)) else (none)) else (some false)) else (none)) else (some false)) else (some false))))))) = some true := H
 have A1 := Aside0.mk A10
 clear A10
 replace H := Option.bind_eq_some_iff.mp H
 obtain ⟨⟨t143, t144⟩, A20, H⟩ := H
 replace H : ((guard_Parse.f k (⟨#[97, 32, 60, 32, 98, 32, 60, 32, 99]⟩ : ByteArray)).bind fun bt145 => ((guard_Parse.f k (⟨#[40, 32, 97, 32, 41, 32, 60, 32, 49]⟩ : ByteArray)).bind fun bt149 => ((guard_Parse.f k (⟨#[97, 32, 38, 32, 98]⟩ : ByteArray)).bind fun bt153 => ((guard_Parse.f k (⟨#[91, 32, 97, 32, 43, 32, 49, 32, 93, 32, 42, 32, 50, 32, 61, 61, 32, 98]⟩ : ByteArray)).bind fun bt157 => (if t140 = 0 then (if (t139.length : Int) = 12 then (if 2 < (t139.length : Int) then (if (((rd_T39 t139 2).f0) == 6 && (((rd_T39 t139 2).f1) == 0)) = true then (if 11 < (t139.length : Int) then (if (((rd_T39 t139 11).f0) == 12 && (((rd_T39 t139 11).f1) == 0)) = true then (if t143.toList = ([97, 32, 60, 32, 51, 32, 38, 32, 33, 32, 40, 32, 98, 32, 61, 61, 32, 49, 32, 124, 32, 99, 32, 62, 32, 50, 32, 41] : List UInt8) then (if t144 = true then (if bt145.2 = 2 then (if bt149.2 = 2 then (if bt153.2 = 2 then (if bt157.2 = 0 then ((guard_Good.f k bt157.1).bind fun t163 => (if t163 = true then (if 3 ≤ (bt157.1.length : Int) then ((guard_Good.f k (bt157.1.take 3)).bind fun t168 => (some (!t168))) else (none)) else (some false))) else (some false)) else (some false)) else (some false)) else (some false)) else (some false)) else (some false)) else (some false)) else (none)) else (some false)) else (none)) else (some false)) else (some false)))))) = some true := H
 have A2 := Aside0.mk A20
 clear A20
 replace H := Option.bind_eq_some_iff.mp H
 obtain ⟨⟨t145, t146⟩, A30, H⟩ := H
 replace H : ((guard_Parse.f k (⟨#[40, 32, 97, 32, 41, 32, 60, 32, 49]⟩ : ByteArray)).bind fun bt149 => ((guard_Parse.f k (⟨#[97, 32, 38, 32, 98]⟩ : ByteArray)).bind fun bt153 => ((guard_Parse.f k (⟨#[91, 32, 97, 32, 43, 32, 49, 32, 93, 32, 42, 32, 50, 32, 61, 61, 32, 98]⟩ : ByteArray)).bind fun bt157 => (if t140 = 0 then (if (t139.length : Int) = 12 then (if 2 < (t139.length : Int) then (if (((rd_T39 t139 2).f0) == 6 && (((rd_T39 t139 2).f1) == 0)) = true then (if 11 < (t139.length : Int) then (if (((rd_T39 t139 11).f0) == 12 && (((rd_T39 t139 11).f1) == 0)) = true then (if t143.toList = ([97, 32, 60, 32, 51, 32, 38, 32, 33, 32, 40, 32, 98, 32, 61, 61, 32, 49, 32, 124, 32, 99, 32, 62, 32, 50, 32, 41] : List UInt8) then (if t144 = true then (if t146 = 2 then (if bt149.2 = 2 then (if bt153.2 = 2 then (if bt157.2 = 0 then ((guard_Good.f k bt157.1).bind fun t163 => (if t163 = true then (if 3 ≤ (bt157.1.length : Int) then ((guard_Good.f k (bt157.1.take 3)).bind fun t168 => (some (!t168))) else (none)) else (some false))) else (some false)) else (some false)) else (some false)) else (some false)) else (some false)) else (some false)) else (some false)) else (none)) else (some false)) else (none)) else (some false)) else (some false))))) = some true := H
 have A3 := Aside0.mk A30
 clear A30
 replace H := Option.bind_eq_some_iff.mp H
 obtain ⟨⟨t149, t150⟩, A40, H⟩ := H
 replace H : ((guard_Parse.f k (⟨#[97, 32, 38, 32, 98]⟩ : ByteArray)).bind fun bt153 => ((guard_Parse.f k (⟨#[91, 32, 97, 32, 43, 32, 49, 32, 93, 32, 42, 32, 50, 32, 61, 61, 32, 98]⟩ : ByteArray)).bind fun bt157 => (if t140 = 0 then (if (t139.length : Int) = 12 then (if 2 < (t139.length : Int) then (if (((rd_T39 t139 2).f0) == 6 && (((rd_T39 t139 2).f1) == 0)) = true then (if 11 < (t139.length : Int) then (if (((rd_T39 t139 11).f0) == 12 && (((rd_T39 t139 11).f1) == 0)) = true then (if t143.toList = ([97, 32, 60, 32, 51, 32, 38, 32, 33, 32, 40, 32, 98, 32, 61, 61, 32, 49, 32, 124, 32, 99, 32, 62, 32, 50, 32, 41] : List UInt8) then (if t144 = true then (if t146 = 2 then (if t150 = 2 then (if bt153.2 = 2 then (if bt157.2 = 0 then ((guard_Good.f k bt157.1).bind fun t163 => (if t163 = true then (if 3 ≤ (bt157.1.length : Int) then ((guard_Good.f k (bt157.1.take 3)).bind fun t168 => (some (!t168))) else (none)) else (some false))) else (some false)) else (some false)) else (some false)) else (some false)) else (some false)) else (some false)) else (some false)) else (none)) else (some false)) else (none)) else (some false)) else (some false)))) = some true := H
 have A4 := Aside0.mk A40
 clear A40
 replace H := Option.bind_eq_some_iff.mp H
 obtain ⟨⟨t153, t154⟩, A50, H⟩ := H
 replace H : ((guard_Parse.f k (⟨#[91, 32, 97, 32, 43, 32, 49, 32, 93, 32, 42, 32, 50, 32, 61, 61, 32, 98]⟩ : ByteArray)).bind fun bt157 => (if t140 = 0 then (if (t139.length : Int) = 12 then (if 2 < (t139.length : Int) then (if (((rd_T39 t139 2).f0) == 6 && (((rd_T39 t139 2).f1) == 0)) = true then (if 11 < (t139.length : Int) then (if (((rd_T39 t139 11).f0) == 12 && (((rd_T39 t139 11).f1) == 0)) = true then (if t143.toList = ([97, 32, 60, 32, 51, 32, 38, 32, 33, 32, 40, 32, 98, 32, 61, 61, 32, 49, 32, 124, 32, 99, 32, 62, 32, 50, 32, 41] : List UInt8) then (if t144 = true then (if t146 = 2 then (if t150 = 2 then (if t154 = 2 then (if bt157.2 = 0 then ((guard_Good.f k bt157.1).bind fun t163 => (if t163 = true then (if 3 ≤ (bt157.1.length : Int) then ((guard_Good.f k (bt157.1.take 3)).bind fun t168 => (some (!t168))) else (none)) else (some false))) else (some false)) else (some false)) else (some false)) else (some false)) else (some false)) else (some false)) else (some false)) else (none)) else (some false)) else (none)) else (some false)) else (some false))) = some true := H
 have A5 := Aside0.mk A50
 clear A50
 replace H := Option.bind_eq_some_iff.mp H
 obtain ⟨⟨t157, t158⟩, A60, H⟩ := H
 replace H : (if t140 = 0 then (if (t139.length : Int) = 12 then (if 2 < (t139.length : Int) then (if (((rd_T39 t139 2).f0) == 6 && (((rd_T39 t139 2).f1) == 0)) = true then (if 11 < (t139.length : Int) then (if (((rd_T39 t139 11).f0) == 12 && (((rd_T39 t139 11).f1) == 0)) = true then (if t143.toList = ([97, 32, 60, 32, 51, 32, 38, 32, 33, 32, 40, 32, 98, 32, 61, 61, 32, 49, 32, 124, 32, 99, 32, 62, 32, 50, 32, 41] : List UInt8) then (if t144 = true then (if t146 = 2 then (if t150 = 2 then (if t154 = 2 then (if t158 = 0 then ((guard_Good.f k t157).bind fun t163 => (if t163 = true then (if 3 ≤ (t157.length : Int) then ((guard_Good.f k (t157.take 3)).bind fun t168 => (some (!t168))) else (none)) else (some false))) else (some false)) else (some false)) else (some false)) else (some false)) else (some false)) else (some false)) else (some false)) else (none)) else (some false)) else (none)) else (some false)) else (some false)) = some true := H
 have A6 := Aside0.mk A60
 clear A60
 by_cases c7 : t140 = 0
 ·rw [if_pos c7] at H
  have c7b0 : (t140 == 0) = true := beq_iff_eq.mpr c7
  have c7b1 : (t140 != 0) = false := bne_eq_false_iff_eq.mpr c7
  clear c7
  by_cases c8 : (t139.length : Int) = 12
  ·rw [if_pos c8] at H
   have c8b0 : ((t139.length : Int) == 12) = true := beq_iff_eq.mpr c8
   have c8b1 : ((t139.length : Int) != 12) = false := bne_eq_false_iff_eq.mpr c8
   clear c8
   by_cases c9 : 2 < (t139.length : Int)
   ·rw [if_pos c9] at H
    have c9b0 : decide (2 < (t139.length : Int)) = true := decide_eq_true c9
    have c9b1 : decide (2 < t139.length) = true := decide_eq_true (by omega)
    clear c9
    by_cases c10 : (((rd_T39 t139 2).f0) == 6 && (((rd_T39 t139 2).f1) == 0)) = true
    ·rw [if_pos c10] at H
     have c10b0 : (((rd_T39 t139 2).f0) == 6 && (((rd_T39 t139 2).f1) == 0)) = true := c10
     (try (have c10b1 : decide (((rd_T39 t139 2).f0) = 6 && (((rd_T39 t139 2).f1) == 0)) = true := by simpa using c10))
     (try (have c10b2 : (((rd_T39 t139 2).f0) == 6 && (((rd_T39 t139 2).f1) == 0)) = true := by simpa using c10))
     clear c10
     by_cases c11 : 11 < (t139.length : Int)
     ·rw [if_pos c11] at H
      have c11b0 : decide (11 < (t139.length : Int)) = true := decide_eq_true c11
      have c11b1 : decide (11 < t139.length) = true := decide_eq_true (by omega)
      clear c11
      by_cases c12 : (((rd_T39 t139 11).f0) == 12 && (((rd_T39 t139 11).f1) == 0)) = true
      ·rw [if_pos c12] at H
       have c12b0 : (((rd_T39 t139 11).f0) == 12 && (((rd_T39 t139 11).f1) == 0)) = true := c12
       (try (have c12b1 : decide (((rd_T39 t139 11).f0) = 12 && (((rd_T39 t139 11).f1) == 0)) = true := by simpa using c12))
       (try (have c12b2 : (((rd_T39 t139 11).f0) == 12 && (((rd_T39 t139 11).f1) == 0)) = true := by simpa using c12))
       clear c12
       by_cases c13 : t143.toList = ([97, 32, 60, 32, 51, 32, 38, 32, 33, 32, 40, 32, 98, 32, 61, 61, 32, 49, 32, 124, 32, 99, 32, 62, 32, 50, 32, 41] : List UInt8)
       ·rw [if_pos c13] at H
        have c13b0 : (t143.toList == ([97, 32, 60, 32, 51, 32, 38, 32, 33, 32, 40, 32, 98, 32, 61, 61, 32, 49, 32, 124, 32, 99, 32, 62, 32, 50, 32, 41] : List UInt8)) = true := beq_iff_eq.mpr c13
        have c13b1 : (t143.toList != ([97, 32, 60, 32, 51, 32, 38, 32, 33, 32, 40, 32, 98, 32, 61, 61, 32, 49, 32, 124, 32, 99, 32, 62, 32, 50, 32, 41] : List UInt8)) = false := bne_eq_false_iff_eq.mpr c13
        clear c13
        by_cases c14 : t144 = true
        ·subst c14
         have H1 : (if t146 = 2 then (if t150 = 2 then (if t154 = 2 then (if t158 = 0 then ((guard_Good.f k t157).bind fun t163 => (if t163 = true then (if 3 ≤ (t157.length : Int) then ((guard_Good.f k (t157.take 3)).bind fun t168 => (some (!t168))) else (none)) else (some false))) else (some false)) else (some false)) else (some false)) else (some false)) = some true := by rw [if_pos rfl] at H; exact H
         clear H
         have H := H1
         clear H1
         by_cases c15 : t146 = 2
         ·rw [if_pos c15] at H
          have c15b0 : (t146 == 2) = true := beq_iff_eq.mpr c15
          have c15b1 : (t146 != 2) = false := bne_eq_false_iff_eq.mpr c15
          clear c15
          by_cases c16 : t150 = 2
          ·rw [if_pos c16] at H
           have c16b0 : (t150 == 2) = true := beq_iff_eq.mpr c16
           have c16b1 : (t150 != 2) = false := bne_eq_false_iff_eq.mpr c16
           clear c16
           by_cases c17 : t154 = 2
           ·rw [if_pos c17] at H
            have c17b0 : (t154 == 2) = true := beq_iff_eq.mpr c17
            have c17b1 : (t154 != 2) = false := bne_eq_false_iff_eq.mpr c17
            clear c17
            by_cases c18 : t158 = 0
            ·rw [if_pos c18] at H
             have c18b0 : (t158 == 0) = true := beq_iff_eq.mpr c18
             have c18b1 : (t158 != 0) = false := bne_eq_false_iff_eq.mpr c18
             clear c18
             replace H := Option.bind_eq_some_iff.mp H
             obtain ⟨t163, A190, H⟩ := H
             replace H : (if t163 = true then (if 3 ≤ (t157.length : Int) then ((guard_Good.f k (t157.take 3)).bind fun t168 => (some (!t168))) else (none)) else (some false)) = some true := H
             have A19 := Aside0.mk A190
             clear A190
             by_cases c20 : t163 = true
             ·subst c20
              have H1 : (if 3 ≤ (t157.length : Int) then ((guard_Good.f k (t157.take 3)).bind fun t168 => (some (!t168))) else (none)) = some true := by rw [if_pos rfl] at H; exact H
              clear H
              have H := H1
              clear H1
              by_cases c21 : 3 ≤ (t157.length : Int)
              ·rw [if_pos c21] at H
               have c21b0 := eq_true c21
               have c21b1 : decide (3 ≤ (t157.length : Int)) = true := decide_eq_true c21
               clear c21
               obtain ⟨y164, hy164⟩ : ∃ y_ : List (S39), y_ = (t157.take 3) := ⟨_, rfl⟩
               replace H : ((guard_Good.f k y164).bind fun t168 => (some (!t168))) = some true := by first | (rw [hy164]; with_reducible exact H) | (have H2_ := (Option.bind_some _ _).symm.trans H; rw [hy164]; with_reducible exact H2_) | (have H2_ := (Option.bind_some _ _).symm.trans H; with_reducible exact H2_) | with_reducible exact H | (rw [hy164]; exact H) | exact H
               have Ny164 := Aside0.mk hy164
               clear hy164
               replace H := Option.bind_eq_some_iff.mp H
               obtain ⟨t168, A220, H⟩ := H
               replace H : (some (!t168)) = some true := H
               have A22 := Aside0.mk A220
               clear A220
               rw [← Option.some.inj H]
               go_enter Tryz.func5, Tryz.ntmps5
               go_wp2_with (first | ((with_reducible refine gate_callee (f := 6) rfl ?_); refine goesL_ (some 14) rfl rfl Tryz.func6 (by kernel_rfl) rfl #[.string (⟨#[97, 32, 60, 32, 51, 32, 38, 32, 33, 32, 40, 32, 98, 32, 61, 61, 32, 49, 32, 124, 32, 99, 32, 62, 32, 50, 32, 41]⟩ : ByteArray)] rfl (by (try simp only [List.map_toArray, List.map_cons, List.map_nil]); first | done | rfl | (simp only [List.length_drop, List.length_take]; rfl)) ?_; (with_reducible refine (guard_Parse.calls k (⟨#[97, 32, 60, 32, 51, 32, 38, 32, 33, 32, 40, 32, 98, 32, 61, 61, 32, 49, 32, 124, 32, 99, 32, 62, 32, 50, 32, 41]⟩ : ByteArray) t139 t140 _ (Tabs2.below hT (by repeat (first | (with_reducible first | exact HB.out | apply bal | apply pbN | apply bd1) | exact HB.out))) A1.out).mono ?_); rintro e w23 ⟨v141, rfl, ho0, hb⟩; refine ⟨_, rfl, ?_⟩; have n0_ := Aside0.mk (Kd.R_lower ho0 (bsz (by repeat (first | (with_reducible first | exact HB.out | apply bal | apply pbN | apply bd1) | exact HB.out)))); have n1_ := Aside0.mk (bsp (by repeat (first | (with_reducible first | exact HB.out | apply bal | apply pbN | apply bd1) | exact HB.out)) hb); clear HB; have HO142 := n0_; have HB := n1_; clear n0_ n1_; (try clear hb); (try clear hb2); (try clear hk); (try clear hi); (try clear ho0); obtain ⟨Ao24, co24, eo24⟩ := Kd.R_slice HO142.out; subst eo24) | ((with_reducible refine gate_callee (f := 9) rfl ?_); refine goesL_ (some 19) rfl rfl Tryz.func9 (by kernel_rfl) rfl #[.slice Ao24 t139.length co24] rfl (by (try simp only [List.map_toArray, List.map_cons, List.map_nil]); first | done | rfl | (simp only [List.length_drop, List.length_take]; rfl)) ?_; (with_reducible refine (guard_Print.calls k _ _ t139 t143 true _ ?side1 ?side2 (Tabs.below hT.toTabs (by repeat (first | (with_reducible first | exact HB.out | apply bal | apply pbN | apply bd1) | exact HB.out))) A2.out).mono ?_); (case side1 => repeat (first | exact (Kd.R_reads' HO142.out).2.2 | (with_reducible refine Kd.C_alloc ?_ _) | (with_reducible refine Kd.C_drewN ?_ _) | (with_reducible refine Kd.C_drew ?_))); (case side2 => exact (Kd.R_reads' HO142.out).2.1); rintro e w25 ⟨rfl, hb⟩; refine ⟨_, rfl, ?_⟩; have n0_ := Aside0.mk (Kd.R_below (by (with_reducible repeat (first | apply Kd.R_alloc | apply Kd.R_drewN | apply Kd.R_drew)); exact HO142.out) hb); have n1_ := Aside0.mk (bsp (by repeat (first | (with_reducible first | exact HB.out | apply bal | apply pbN | apply bd1) | exact HB.out)) hb); clear HO142; clear HB; have HO142 := n0_; have HB := n1_; clear n0_ n1_; (try clear hb); (try clear hb2); (try clear hk); (try clear hi)) | ((with_reducible refine gate_callee (f := 6) rfl ?_); refine goesL_ (some 23) rfl rfl Tryz.func6 (by kernel_rfl) rfl #[.string (⟨#[97, 32, 60, 32, 98, 32, 60, 32, 99]⟩ : ByteArray)] rfl (by (try simp only [List.map_toArray, List.map_cons, List.map_nil]); first | done | rfl | (simp only [List.length_drop, List.length_take]; rfl)) ?_; (with_reducible refine (guard_Parse.calls k (⟨#[97, 32, 60, 32, 98, 32, 60, 32, 99]⟩ : ByteArray) t145 t146 _ (Tabs2.below hT (by repeat (first | (with_reducible first | exact HB.out | apply bal | apply pbN | apply bd1) | exact HB.out))) A3.out).mono ?_); rintro e w26 ⟨v147, rfl, ho0, hb⟩; refine ⟨_, rfl, ?_⟩; have n0_ := Aside0.mk (Kd.R_elder' (by (with_reducible repeat (first | apply Kd.R_alloc | apply Kd.R_drewN | apply Kd.R_drew)); exact HO142.out) (Kd.R_base ho0) hb); have n1_ := Aside0.mk (Kd.R_lower (Kd.R_new' ho0 (Kd.R_lt (by (with_reducible repeat (first | apply Kd.R_alloc | apply Kd.R_drewN | apply Kd.R_drew)); exact HO142.out))) (bsz (by repeat (first | (with_reducible first | exact HB.out | apply bal | apply pbN | apply bd1) | exact HB.out)))); have n2_ := Aside0.mk (bsp (by repeat (first | (with_reducible first | exact HB.out | apply bal | apply pbN | apply bd1) | exact HB.out)) hb); clear HO142; clear HB; have HO142 := n0_; have HO148 := n1_; have HB := n2_; clear n0_ n1_ n2_; (try clear hb); (try clear hb2); (try clear hk); (try clear hi); (try clear ho0)) | ((with_reducible refine gate_callee (f := 6) rfl ?_); refine goesL_ (some 27) rfl rfl Tryz.func6 (by kernel_rfl) rfl #[.string (⟨#[40, 32, 97, 32, 41, 32, 60, 32, 49]⟩ : ByteArray)] rfl (by (try simp only [List.map_toArray, List.map_cons, List.map_nil]); first | done | rfl | (simp only [List.length_drop, List.length_take]; rfl)) ?_; (with_reducible refine (guard_Parse.calls k (⟨#[40, 32, 97, 32, 41, 32, 60, 32, 49]⟩ : ByteArray) t149 t150 _ (Tabs2.below hT (by repeat (first | (with_reducible first | exact HB.out | apply bal | apply pbN | apply bd1) | exact HB.out))) A4.out).mono ?_); rintro e w27 ⟨v151, rfl, ho0, hb⟩; refine ⟨_, rfl, ?_⟩; have n0_ := Aside0.mk (Kd.R_elder' (by (with_reducible repeat (first | apply Kd.R_alloc | apply Kd.R_drewN | apply Kd.R_drew)); exact HO142.out) (Kd.R_base ho0) hb); have n1_ := Aside0.mk (Kd.R_elder' (by (with_reducible repeat (first | apply Kd.R_alloc | apply Kd.R_drewN | apply Kd.R_drew)); exact HO148.out) (Kd.R_base ho0) hb); have n2_ := Aside0.mk (Kd.R_lower (Kd.R_new' (Kd.R_new' ho0 (Kd.R_lt (by (with_reducible repeat (first | apply Kd.R_alloc | apply Kd.R_drewN | apply Kd.R_drew)); exact HO142.out))) (Kd.R_lt (by (with_reducible repeat (first | apply Kd.R_alloc | apply Kd.R_drewN | apply Kd.R_drew)); exact HO148.out))) (bsz (by repeat (first | (with_reducible first | exact HB.out | apply bal | apply pbN | apply bd1) | exact HB.out)))); have n3_ := Aside0.mk (bsp (by repeat (first | (with_reducible first | exact HB.out | apply bal | apply pbN | apply bd1) | exact HB.out)) hb); clear HO142; clear HO148; clear HB; have HO142 := n0_; have HO148 := n1_; have HO152 := n2_; have HB := n3_; clear n0_ n1_ n2_ n3_; (try clear hb); (try clear hb2); (try clear hk); (try clear hi); (try clear ho0)) | ((with_reducible refine gate_callee (f := 6) rfl ?_); refine goesL_ (some 31) rfl rfl Tryz.func6 (by kernel_rfl) rfl #[.string (⟨#[97, 32, 38, 32, 98]⟩ : ByteArray)] rfl (by (try simp only [List.map_toArray, List.map_cons, List.map_nil]); first | done | rfl | (simp only [List.length_drop, List.length_take]; rfl)) ?_; (with_reducible refine (guard_Parse.calls k (⟨#[97, 32, 38, 32, 98]⟩ : ByteArray) t153 t154 _ (Tabs2.below hT (by repeat (first | (with_reducible first | exact HB.out | apply bal | apply pbN | apply bd1) | exact HB.out))) A5.out).mono ?_); rintro e w28 ⟨v155, rfl, ho0, hb⟩; refine ⟨_, rfl, ?_⟩; have n0_ := Aside0.mk (Kd.R_elder' (by (with_reducible repeat (first | apply Kd.R_alloc | apply Kd.R_drewN | apply Kd.R_drew)); exact HO142.out) (Kd.R_base ho0) hb); have n1_ := Aside0.mk (Kd.R_elder' (by (with_reducible repeat (first | apply Kd.R_alloc | apply Kd.R_drewN | apply Kd.R_drew)); exact HO148.out) (Kd.R_base ho0) hb); have n2_ := Aside0.mk (Kd.R_elder' (by (with_reducible repeat (first | apply Kd.R_alloc | apply Kd.R_drewN | apply Kd.R_drew)); exact HO152.out) (Kd.R_base ho0) hb); have n3_ := Aside0.mk (Kd.R_lower (Kd.R_new' (Kd.R_new' (Kd.R_new' ho0 (Kd.R_lt (by (with_reducible repeat (first | apply Kd.R_alloc | apply Kd.R_drewN | apply Kd.R_drew)); exact HO142.out))) (Kd.R_lt (by (with_reducible repeat (first | apply Kd.R_alloc | apply Kd.R_drewN | apply Kd.R_drew)); exact HO148.out))) (Kd.R_lt (by (with_reducible repeat (first | apply Kd.R_alloc | apply Kd.R_drewN | apply Kd.R_drew)); exact HO152.out))) (bsz (by repeat (first | (with_reducible first | exact HB.out | apply bal | apply pbN | apply bd1) | exact HB.out)))); have n4_ := Aside0.mk (bsp (by repeat (first | (with_reducible first | exact HB.out | apply bal | apply pbN | apply bd1) | exact HB.out)) hb); clear HO142; clear HO148; clear HO152; clear HB; have HO142 := n0_; have HO148 := n1_; have HO152 := n2_; have HO156 := n3_; have HB := n4_; clear n0_ n1_ n2_ n3_ n4_; (try clear hb); (try clear hb2); (try clear hk); (try clear hi); (try clear ho0)) | ((with_reducible refine gate_callee (f := 6) rfl ?_); refine goesL_ (some 35) rfl rfl Tryz.func6 (by kernel_rfl) rfl #[.string (⟨#[91, 32, 97, 32, 43, 32, 49, 32, 93, 32, 42, 32, 50, 32, 61, 61, 32, 98]⟩ : ByteArray)] rfl (by (try simp only [List.map_toArray, List.map_cons, List.map_nil]); first | done | rfl | (simp only [List.length_drop, List.length_take]; rfl)) ?_; (with_reducible refine (guard_Parse.calls k (⟨#[91, 32, 97, 32, 43, 32, 49, 32, 93, 32, 42, 32, 50, 32, 61, 61, 32, 98]⟩ : ByteArray) t157 t158 _ (Tabs2.below hT (by repeat (first | (with_reducible first | exact HB.out | apply bal | apply pbN | apply bd1) | exact HB.out))) A6.out).mono ?_); rintro e w29 ⟨v159, rfl, ho0, hb⟩; refine ⟨_, rfl, ?_⟩; have n0_ := Aside0.mk (Kd.R_elder' (by (with_reducible repeat (first | apply Kd.R_alloc | apply Kd.R_drewN | apply Kd.R_drew)); exact HO142.out) (Kd.R_base ho0) hb); have n1_ := Aside0.mk (Kd.R_elder' (by (with_reducible repeat (first | apply Kd.R_alloc | apply Kd.R_drewN | apply Kd.R_drew)); exact HO148.out) (Kd.R_base ho0) hb); have n2_ := Aside0.mk (Kd.R_elder' (by (with_reducible repeat (first | apply Kd.R_alloc | apply Kd.R_drewN | apply Kd.R_drew)); exact HO152.out) (Kd.R_base ho0) hb); have n3_ := Aside0.mk (Kd.R_elder' (by (with_reducible repeat (first | apply Kd.R_alloc | apply Kd.R_drewN | apply Kd.R_drew)); exact HO156.out) (Kd.R_base ho0) hb); have n4_ := Aside0.mk (Kd.R_lower (Kd.R_new' (Kd.R_new' (Kd.R_new' (Kd.R_new' ho0 (Kd.R_lt (by (with_reducible repeat (first | apply Kd.R_alloc | apply Kd.R_drewN | apply Kd.R_drew)); exact HO142.out))) (Kd.R_lt (by (with_reducible repeat (first | apply Kd.R_alloc | apply Kd.R_drewN | apply Kd.R_drew)); exact HO148.out))) (Kd.R_lt (by (with_reducible repeat (first | apply Kd.R_alloc | apply Kd.R_drewN | apply Kd.R_drew)); exact HO152.out))) (Kd.R_lt (by (with_reducible repeat (first | apply Kd.R_alloc | apply Kd.R_drewN | apply Kd.R_drew)); exact HO156.out))) (bsz (by repeat (first | (with_reducible first | exact HB.out | apply bal | apply pbN | apply bd1) | exact HB.out)))); have n5_ := Aside0.mk (bsp (by repeat (first | (with_reducible first | exact HB.out | apply bal | apply pbN | apply bd1) | exact HB.out)) hb); clear HO142; clear HO148; clear HO152; clear HO156; clear HB; have HO142 := n0_; have HO148 := n1_; have HO152 := n2_; have HO156 := n3_; have HO160 := n4_; have HB := n5_; clear n0_ n1_ n2_ n3_ n4_ n5_; (try clear hb); (try clear hb2); (try clear hk); (try clear hi); (try clear ho0); have p161 : 0 ≤ (2 : Int) := (by omega); have q161 : 2 < (t139.length : Int) := of_decide_eq_true (by first | (with_reducible assumption) | assumption); obtain ⟨ad161, e161, hx161_0, hx161_1⟩ := at_T39 (Kd.R_reads' HO142.out).2.2 2 p161 q161; cases e161; (try simp only [show (2 : Int).toNat = 2 from rfl, Nat.reduceMul, Nat.reduceEqDiff, Go.Addr.add, ↓reduceIte] at hx161_0); (try simp only [show (2 : Int).toNat = 2 from rfl, Nat.reduceMul, Nat.reduceEqDiff, Go.Addr.add, ↓reduceIte] at hx161_1); have qi161 : (2 < t139.length) = True := eq_true (by omega); (try rw [show ((2 : Int)).toNat = 2 from rfl] at hx161_0); (try rw [show 2 * 2 = 4 from rfl] at hx161_0); (try rw [show ((2 : Int)).toNat = 2 from rfl] at hx161_1); (try rw [show 2 * 2 = 4 from rfl] at hx161_1); replace p161 := eq_true p161; replace q161 := eq_true q161; have p162 : 0 ≤ (11 : Int) := (by omega); have q162 : 11 < (t139.length : Int) := of_decide_eq_true (by first | (with_reducible assumption) | assumption); obtain ⟨ad162, e162, hx162_0, hx162_1⟩ := at_T39 (Kd.R_reads' HO142.out).2.2 11 p162 q162; obtain rfl : ad161 = ad162 := (by injection e162); (try simp only [show (11 : Int).toNat = 11 from rfl, Nat.reduceMul, Nat.reduceEqDiff, Go.Addr.add, ↓reduceIte] at hx162_0); (try simp only [show (11 : Int).toNat = 11 from rfl, Nat.reduceMul, Nat.reduceEqDiff, Go.Addr.add, ↓reduceIte] at hx162_1); have qi162 : (11 < t139.length) = True := eq_true (by omega); (try rw [show ((11 : Int)).toNat = 11 from rfl] at hx162_0); (try rw [show 11 * 2 = 22 from rfl] at hx162_0); (try rw [show ((11 : Int)).toNat = 11 from rfl] at hx162_1); (try rw [show 11 * 2 = 22 from rfl] at hx162_1); replace p162 := eq_true p162; replace q162 := eq_true q162; obtain ⟨Ao30, co30, eo30⟩ := Kd.R_slice HO160.out; subst eo30) | (go_at_call 11; (with_reducible refine (guard_Good.calls k _ _ t157 true _ ?side1 ?side2 A19.out).mono ?_); (case side1 => repeat (first | exact (Kd.R_reads' HO160.out).2.2 | (with_reducible refine Kd.C_alloc ?_ _) | (with_reducible refine Kd.C_drewN ?_ _) | (with_reducible refine Kd.C_drew ?_))); (case side2 => exact (Kd.R_reads' HO160.out).2.1); rintro e w31 ⟨rfl, hb⟩; have n0_ := Aside0.mk (Kd.R_below (by (with_reducible repeat (first | apply Kd.R_alloc | apply Kd.R_drewN | apply Kd.R_drew)); exact HO142.out) hb); have n1_ := Aside0.mk (Kd.R_below (by (with_reducible repeat (first | apply Kd.R_alloc | apply Kd.R_drewN | apply Kd.R_drew)); exact HO148.out) hb); have n2_ := Aside0.mk (Kd.R_below (by (with_reducible repeat (first | apply Kd.R_alloc | apply Kd.R_drewN | apply Kd.R_drew)); exact HO152.out) hb); have n3_ := Aside0.mk (Kd.R_below (by (with_reducible repeat (first | apply Kd.R_alloc | apply Kd.R_drewN | apply Kd.R_drew)); exact HO156.out) hb); have n4_ := Aside0.mk (Kd.R_below (by (with_reducible repeat (first | apply Kd.R_alloc | apply Kd.R_drewN | apply Kd.R_drew)); exact HO160.out) hb); have n5_ := Aside0.mk (bsp (by repeat (first | (with_reducible first | exact HB.out | apply bal | apply pbN | apply bd1) | exact HB.out)) hb); clear HO142; clear HO148; clear HO152; clear HO156; clear HO160; clear HB; have HO142 := n0_; have HO148 := n1_; have HO152 := n2_; have HO156 := n3_; have HO160 := n4_; have HB := n5_; clear n0_ n1_ n2_ n3_ n4_ n5_; (try clear hb); (try clear hb2); (try clear hk); (try clear hi); have q32 : (3 : Int) ≤ ((t157.length : Int) : Int) := of_decide_eq_true (by first | (with_reducible assumption) | assumption); obtain ⟨i032, hi032, _, hsz32, _⟩ := info_parts info39; have hroom32 : t157.length ≤ co30 := (Kd.R_reads' HO160.out).2.1; have hC32 : Kd.C k39 _ Ao30 t157.length t157 := (Kd.R_reads' HO160.out).2.2; have hcut32 := cut_to (P := Tryz.prog) 23 39 .i64 Tryz.underlying23 hi032 Ao30 t157.length co30 3 (by omega) q32 hroom32; have hr32 := Kd.C_take (m := 3) hC32 (by omega); have hy32 : y164.length = (3 : Int).toNat := (by rw [Ny164.out, List.length_take]; omega); rw [← Ny164.out] at hr32; rw [← hy32] at hcut32; have HR167 := Aside0.mk hr32; have HC167 := Aside0.mk (show y164.length ≤ co30 from by omega); clear hr32 hC32 hroom32 hi032 hsz32; have KY32 := Aside0.mk hy32; clear hy32; have KL32 := Aside0.mk (show 3 ≤ t157.length from by omega); replace q32 := eq_true q32) | (go_at_call 11; (with_reducible refine (guard_Good.calls k _ _ y164 t168 _ ?side1 ?side2 A22.out).mono ?_); (case side1 => repeat (first | exact (by repeat (first | (with_reducible exact HR167.out) | (with_reducible refine Kd.C_alloc ?_ _) | (with_reducible refine Kd.C_drewN ?_ _) | (with_reducible refine Kd.C_drew ?_) | exact HR167.out)) | (with_reducible refine Kd.C_alloc ?_ _) | (with_reducible refine Kd.C_drewN ?_ _) | (with_reducible refine Kd.C_drew ?_))); (case side2 => exact HC167.out); rintro e w33 ⟨rfl, hb⟩; have n0_ := Aside0.mk (Kd.R_below (by (with_reducible repeat (first | apply Kd.R_alloc | apply Kd.R_drewN | apply Kd.R_drew)); exact HO142.out) hb); have n1_ := Aside0.mk (Kd.R_below (by (with_reducible repeat (first | apply Kd.R_alloc | apply Kd.R_drewN | apply Kd.R_drew)); exact HO148.out) hb); have n2_ := Aside0.mk (Kd.R_below (by (with_reducible repeat (first | apply Kd.R_alloc | apply Kd.R_drewN | apply Kd.R_drew)); exact HO152.out) hb); have n3_ := Aside0.mk (Kd.R_below (by (with_reducible repeat (first | apply Kd.R_alloc | apply Kd.R_drewN | apply Kd.R_drew)); exact HO156.out) hb); have n4_ := Aside0.mk (Kd.R_below (by (with_reducible repeat (first | apply Kd.R_alloc | apply Kd.R_drewN | apply Kd.R_drew)); exact HO160.out) hb); have n5_ := Aside0.mk (Kd.C_below (by repeat (first | (with_reducible exact HR167.out) | (with_reducible refine Kd.C_alloc ?_ _) | (with_reducible refine Kd.C_drewN ?_ _) | (with_reducible refine Kd.C_drew ?_) | exact HR167.out)) hb); have n6_ := Aside0.mk (bsp (by repeat (first | (with_reducible first | exact HB.out | apply bal | apply pbN | apply bd1) | exact HB.out)) hb); clear HO142; clear HO148; clear HO152; clear HO156; clear HO160; clear HR167; clear HB; have HO142 := n0_; have HO148 := n1_; have HO152 := n2_; have HO156 := n3_; have HO160 := n4_; have HR167 := n5_; have HB := n6_; clear n0_ n1_ n2_ n3_ n4_ n5_ n6_; (try clear hb); (try clear hb2); (try clear hk); (try clear hi)))
               go_ret
               exact ⟨by first | rfl | (simp [errW_none, errW_some] <;> rfl) | (simp [*, errW_none, errW_some] <;> rfl), by repeat (first | (with_reducible first | exact HB.out | apply bal | apply pbN | apply bd1) | exact HB.out)⟩
              ·rw [if_neg c21] at H
               exact absurd H (by simp)
             ·replace c20 := Bool.eq_false_iff.mpr c20
              subst c20
              have H1 : (some false) = some true := by rw [if_neg (show ¬ (false = true) by decide)] at H; exact H
              clear H
              have H := H1
              clear H1
              exact absurd (Option.some.inj H) (by decide)
            ·rw [if_neg c18] at H
             have c18b0 : (t158 == 0) = false := beq_eq_false_iff_ne.mpr c18
             have c18b1 : (t158 != 0) = true := bne_iff_ne.mpr c18
             exact absurd (Option.some.inj H) (by decide)
           ·rw [if_neg c17] at H
            have c17b0 : (t154 == 2) = false := beq_eq_false_iff_ne.mpr c17
            have c17b1 : (t154 != 2) = true := bne_iff_ne.mpr c17
            exact absurd (Option.some.inj H) (by decide)
          ·rw [if_neg c16] at H
           have c16b0 : (t150 == 2) = false := beq_eq_false_iff_ne.mpr c16
           have c16b1 : (t150 != 2) = true := bne_iff_ne.mpr c16
           exact absurd (Option.some.inj H) (by decide)
         ·rw [if_neg c15] at H
          have c15b0 : (t146 == 2) = false := beq_eq_false_iff_ne.mpr c15
          have c15b1 : (t146 != 2) = true := bne_iff_ne.mpr c15
          exact absurd (Option.some.inj H) (by decide)
        ·replace c14 := Bool.eq_false_iff.mpr c14
         subst c14
         have H1 : (some false) = some true := by rw [if_neg (show ¬ (false = true) by decide)] at H; exact H
         clear H
         have H := H1
         clear H1
         exact absurd (Option.some.inj H) (by decide)
       ·rw [if_neg c13] at H
        have c13b0 : (t143.toList == ([97, 32, 60, 32, 51, 32, 38, 32, 33, 32, 40, 32, 98, 32, 61, 61, 32, 49, 32, 124, 32, 99, 32, 62, 32, 50, 32, 41] : List UInt8)) = false := beq_eq_false_iff_ne.mpr c13
        have c13b1 : (t143.toList != ([97, 32, 60, 32, 51, 32, 38, 32, 33, 32, 40, 32, 98, 32, 61, 61, 32, 49, 32, 124, 32, 99, 32, 62, 32, 50, 32, 41] : List UInt8)) = true := bne_iff_ne.mpr c13
        exact absurd (Option.some.inj H) (by decide)
      ·rw [if_neg c12] at H
       have c12b0 : (((rd_T39 t139 11).f0) == 12 && (((rd_T39 t139 11).f1) == 0)) = false := by simpa using c12
       (try (have c12b1 : decide (((rd_T39 t139 11).f0) = 12 && (((rd_T39 t139 11).f1) == 0)) = false := by simpa using c12))
       (try (have c12b2 : (((rd_T39 t139 11).f0) == 12 && (((rd_T39 t139 11).f1) == 0)) = false := by simpa using c12))
       (try (have c12b3 : ¬ (((rd_T39 t139 11).f0) = 12 && (((rd_T39 t139 11).f1) == 0)) := by simpa using c12))
       clear c12
       exact absurd (Option.some.inj H) (by decide)
     ·rw [if_neg c11] at H
      exact absurd H (by simp)
    ·rw [if_neg c10] at H
     have c10b0 : (((rd_T39 t139 2).f0) == 6 && (((rd_T39 t139 2).f1) == 0)) = false := by simpa using c10
     (try (have c10b1 : decide (((rd_T39 t139 2).f0) = 6 && (((rd_T39 t139 2).f1) == 0)) = false := by simpa using c10))
     (try (have c10b2 : (((rd_T39 t139 2).f0) == 6 && (((rd_T39 t139 2).f1) == 0)) = false := by simpa using c10))
     (try (have c10b3 : ¬ (((rd_T39 t139 2).f0) = 6 && (((rd_T39 t139 2).f1) == 0)) := by simpa using c10))
     clear c10
     exact absurd (Option.some.inj H) (by decide)
   ·rw [if_neg c9] at H
    exact absurd H (by simp)
  ·rw [if_neg c8] at H
   have c8b0 : ((t139.length : Int) == 12) = false := beq_eq_false_iff_ne.mpr c8
   have c8b1 : ((t139.length : Int) != 12) = true := bne_iff_ne.mpr c8
   exact absurd (Option.some.inj H) (by decide)
 ·rw [if_neg c7] at H
  have c7b0 : (t140 == 0) = false := beq_eq_false_iff_ne.mpr c7
  have c7b1 : (t140 != 0) = true := bne_iff_ne.mpr c7
  exact absurd (Option.some.inj H) (by decide)
/-! ### remontoirref13_Good: function 27 -/
def remontoirref13_Good.f (a0_0 : Int) (a0_1 : Int) : Option (Bool) := if a0_0 = 1 then (if a0_1 ≥ 0 then (some (decide (a0_1 ≤ 2147483647))) else (some false)) else (if a0_0 = 2 then (if a0_1 ≥ 0 then (some (decide (a0_1 < 26))) else (some false)) else (if a0_0 ≥ 3 then (if a0_0 ≤ 18 then (some (a0_1 == 0)) else (some false)) else (some false)))
set_option maxHeartbeats 8000000 in
set_option maxRecDepth 100000 in
theorem remontoirref13_Good.calls (a0_0 : Int) (a0_1 : Int) (r : Bool) (w : World) (h : remontoirref13_Good.f a0_0 a0_1 = some r) :
  Calls Tryz.prog 27 #[.agg #[.int .i64 a0_0, .int .i64 a0_1]] w fun e w' => e = .returned (.bool r) ∧ Below w.heap.size w w' := by
 have hu39 := Tryz.underlying39
 have HB := Aside0.mk (Below.refl w.heap.size w)
 have H : (if a0_0 = 1 then (if a0_1 ≥ 0 then (some (decide (a0_1 ≤ 2147483647))) else (some false)) else (if a0_0 = 2 then (if a0_1 ≥ 0 then (some (decide (a0_1 < 26))) else (some false)) else (if a0_0 ≥ 3 then (if a0_0 ≤ 18 then (some (a0_1 == 0)) else (some false)) else (some false)))) = some r := h
 clear h
 by_cases c2 : a0_0 = 1
 ·rw [if_pos c2] at H
  have c2b0 : (a0_0 == 1) = true := beq_iff_eq.mpr c2
  have c2b1 : (a0_0 != 1) = false := bne_eq_false_iff_eq.mpr c2
  clear c2
  by_cases c3 : a0_1 ≥ 0
  ·rw [if_pos c3] at H
   have c3b0 : decide (0 ≤ a0_1) = true := decide_eq_true c3
   clear c3
   obtain rfl := Option.some.inj H
   go_enter Tryz.func27, Tryz.ntmps27
   go_wp2_with (first | ((with_reducible refine gate_dst (N := 1) rfl ?_); refine box_event ?hg (N := 1) ?hd (cs := #[.int .i64 a0_0, .int .i64 a0_1]) (t := 39) ?hr ?_; (case hd => rfl); (case hg => rfl); (case hr => first | (go_simp; done) | (go_simp; rfl)); intro gb169 hg w4 hbox hb; have n0_ := Aside0.mk (bsp (by repeat (first | (with_reducible first | exact HB.out | apply bal | apply pbN | apply bd1) | exact HB.out)) hb); have n1_ := Aside0.mk (hbox); have n2_ := Aside0.mk ((by rw [hg]; exact (bsz (by repeat (first | (with_reducible first | exact HB.out | apply bal | apply pbN | apply bd1) | exact HB.out))) : w.heap.size ≤ gb169)); have n3_ := Aside0.mk ((by rw [hg]; exact (bsz (by repeat (first | (with_reducible first | exact HB.out | apply bal | apply pbN | apply bd1) | exact HB.out))) : w.heap.size ≤ gb169)); clear HB; have HB := n0_; have BK169 := n1_; have GW169 := n2_; have GE169 := n3_; clear n0_ n1_ n2_ n3_; clear hb hbox hg; have hcz5_0 : w4.cell? ⟨gb169, 0, none⟩ = some (.int .i64 a0_0) := (bce BK169.out 0).trans rfl; have hcz5_1 : w4.cell? ⟨gb169, 1, none⟩ = some (.int .i64 a0_1) := (bce BK169.out 1).trans rfl; have hfz5_0 := bfz BK169.out 0; have hfz5_1 := bfz BK169.out 1))
   go_ret
   exact ⟨by first | rfl | (simp [errW_none, errW_some] <;> rfl) | (simp [*, errW_none, errW_some] <;> rfl), by repeat (first | (with_reducible first | exact HB.out | apply bal | apply pbN | apply bd1 | refine bst ?_ GE169.out) | exact HB.out)⟩
  ·rw [if_neg c3] at H
   have c3b0 : decide (0 ≤ a0_1) = false := decide_eq_false c3
   clear c3
   obtain rfl := Option.some.inj H
   go_enter Tryz.func27, Tryz.ntmps27
   go_wp2_with (first | ((with_reducible refine gate_dst (N := 1) rfl ?_); refine box_event ?hg (N := 1) ?hd (cs := #[.int .i64 a0_0, .int .i64 a0_1]) (t := 39) ?hr ?_; (case hd => rfl); (case hg => rfl); (case hr => first | (go_simp; done) | (go_simp; rfl)); intro gb169 hg w6 hbox hb; have n0_ := Aside0.mk (bsp (by repeat (first | (with_reducible first | exact HB.out | apply bal | apply pbN | apply bd1) | exact HB.out)) hb); have n1_ := Aside0.mk (hbox); have n2_ := Aside0.mk ((by rw [hg]; exact (bsz (by repeat (first | (with_reducible first | exact HB.out | apply bal | apply pbN | apply bd1) | exact HB.out))) : w.heap.size ≤ gb169)); have n3_ := Aside0.mk ((by rw [hg]; exact (bsz (by repeat (first | (with_reducible first | exact HB.out | apply bal | apply pbN | apply bd1) | exact HB.out))) : w.heap.size ≤ gb169)); clear HB; have HB := n0_; have BK169 := n1_; have GW169 := n2_; have GE169 := n3_; clear n0_ n1_ n2_ n3_; clear hb hbox hg; have hcz7_0 : w6.cell? ⟨gb169, 0, none⟩ = some (.int .i64 a0_0) := (bce BK169.out 0).trans rfl; have hcz7_1 : w6.cell? ⟨gb169, 1, none⟩ = some (.int .i64 a0_1) := (bce BK169.out 1).trans rfl; have hfz7_0 := bfz BK169.out 0; have hfz7_1 := bfz BK169.out 1))
   go_ret
   exact ⟨by first | rfl | (simp [errW_none, errW_some] <;> rfl) | (simp [*, errW_none, errW_some] <;> rfl), by repeat (first | (with_reducible first | exact HB.out | apply bal | apply pbN | apply bd1 | refine bst ?_ GE169.out) | exact HB.out)⟩
 ·rw [if_neg c2] at H
  have c2b0 : (a0_0 == 1) = false := beq_eq_false_iff_ne.mpr c2
  have c2b1 : (a0_0 != 1) = true := bne_iff_ne.mpr c2
  by_cases c8 : a0_0 = 2
  ·rw [if_pos c8] at H
   have c8b0 : (a0_0 == 2) = true := beq_iff_eq.mpr c8
   have c8b1 : (a0_0 != 2) = false := bne_eq_false_iff_eq.mpr c8
   clear c8
   by_cases c9 : a0_1 ≥ 0
   ·rw [if_pos c9] at H
    have c9b0 : decide (0 ≤ a0_1) = true := decide_eq_true c9
    clear c9
    obtain rfl := Option.some.inj H
    go_enter Tryz.func27, Tryz.ntmps27
    go_wp2_with (first | ((with_reducible refine gate_dst (N := 1) rfl ?_); refine box_event ?hg (N := 1) ?hd (cs := #[.int .i64 a0_0, .int .i64 a0_1]) (t := 39) ?hr ?_; (case hd => rfl); (case hg => rfl); (case hr => first | (go_simp; done) | (go_simp; rfl)); intro gb169 hg w10 hbox hb; have n0_ := Aside0.mk (bsp (by repeat (first | (with_reducible first | exact HB.out | apply bal | apply pbN | apply bd1) | exact HB.out)) hb); have n1_ := Aside0.mk (hbox); have n2_ := Aside0.mk ((by rw [hg]; exact (bsz (by repeat (first | (with_reducible first | exact HB.out | apply bal | apply pbN | apply bd1) | exact HB.out))) : w.heap.size ≤ gb169)); have n3_ := Aside0.mk ((by rw [hg]; exact (bsz (by repeat (first | (with_reducible first | exact HB.out | apply bal | apply pbN | apply bd1) | exact HB.out))) : w.heap.size ≤ gb169)); clear HB; have HB := n0_; have BK169 := n1_; have GW169 := n2_; have GE169 := n3_; clear n0_ n1_ n2_ n3_; clear hb hbox hg; have hcz11_0 : w10.cell? ⟨gb169, 0, none⟩ = some (.int .i64 a0_0) := (bce BK169.out 0).trans rfl; have hcz11_1 : w10.cell? ⟨gb169, 1, none⟩ = some (.int .i64 a0_1) := (bce BK169.out 1).trans rfl; have hfz11_0 := bfz BK169.out 0; have hfz11_1 := bfz BK169.out 1))
    go_ret
    exact ⟨by first | rfl | (simp [errW_none, errW_some] <;> rfl) | (simp [*, errW_none, errW_some] <;> rfl), by repeat (first | (with_reducible first | exact HB.out | apply bal | apply pbN | apply bd1 | refine bst ?_ GE169.out) | exact HB.out)⟩
   ·rw [if_neg c9] at H
    have c9b0 : decide (0 ≤ a0_1) = false := decide_eq_false c9
    clear c9
    obtain rfl := Option.some.inj H
    go_enter Tryz.func27, Tryz.ntmps27
    go_wp2_with (first | ((with_reducible refine gate_dst (N := 1) rfl ?_); refine box_event ?hg (N := 1) ?hd (cs := #[.int .i64 a0_0, .int .i64 a0_1]) (t := 39) ?hr ?_; (case hd => rfl); (case hg => rfl); (case hr => first | (go_simp; done) | (go_simp; rfl)); intro gb169 hg w12 hbox hb; have n0_ := Aside0.mk (bsp (by repeat (first | (with_reducible first | exact HB.out | apply bal | apply pbN | apply bd1) | exact HB.out)) hb); have n1_ := Aside0.mk (hbox); have n2_ := Aside0.mk ((by rw [hg]; exact (bsz (by repeat (first | (with_reducible first | exact HB.out | apply bal | apply pbN | apply bd1) | exact HB.out))) : w.heap.size ≤ gb169)); have n3_ := Aside0.mk ((by rw [hg]; exact (bsz (by repeat (first | (with_reducible first | exact HB.out | apply bal | apply pbN | apply bd1) | exact HB.out))) : w.heap.size ≤ gb169)); clear HB; have HB := n0_; have BK169 := n1_; have GW169 := n2_; have GE169 := n3_; clear n0_ n1_ n2_ n3_; clear hb hbox hg; have hcz13_0 : w12.cell? ⟨gb169, 0, none⟩ = some (.int .i64 a0_0) := (bce BK169.out 0).trans rfl; have hcz13_1 : w12.cell? ⟨gb169, 1, none⟩ = some (.int .i64 a0_1) := (bce BK169.out 1).trans rfl; have hfz13_0 := bfz BK169.out 0; have hfz13_1 := bfz BK169.out 1))
    go_ret
    exact ⟨by first | rfl | (simp [errW_none, errW_some] <;> rfl) | (simp [*, errW_none, errW_some] <;> rfl), by repeat (first | (with_reducible first | exact HB.out | apply bal | apply pbN | apply bd1 | refine bst ?_ GE169.out) | exact HB.out)⟩
  ·rw [if_neg c8] at H
   have c8b0 : (a0_0 == 2) = false := beq_eq_false_iff_ne.mpr c8
   have c8b1 : (a0_0 != 2) = true := bne_iff_ne.mpr c8
   by_cases c14 : a0_0 ≥ 3
   ·rw [if_pos c14] at H
    have c14b0 : decide (3 ≤ a0_0) = true := decide_eq_true c14
    clear c14
    by_cases c15 : a0_0 ≤ 18
    ·rw [if_pos c15] at H
     have c15b0 : decide (a0_0 ≤ 18) = true := decide_eq_true c15
     clear c15
     obtain rfl := Option.some.inj H
     go_enter Tryz.func27, Tryz.ntmps27
     go_wp2_with (first | ((with_reducible refine gate_dst (N := 1) rfl ?_); refine box_event ?hg (N := 1) ?hd (cs := #[.int .i64 a0_0, .int .i64 a0_1]) (t := 39) ?hr ?_; (case hd => rfl); (case hg => rfl); (case hr => first | (go_simp; done) | (go_simp; rfl)); intro gb169 hg w16 hbox hb; have n0_ := Aside0.mk (bsp (by repeat (first | (with_reducible first | exact HB.out | apply bal | apply pbN | apply bd1) | exact HB.out)) hb); have n1_ := Aside0.mk (hbox); have n2_ := Aside0.mk ((by rw [hg]; exact (bsz (by repeat (first | (with_reducible first | exact HB.out | apply bal | apply pbN | apply bd1) | exact HB.out))) : w.heap.size ≤ gb169)); have n3_ := Aside0.mk ((by rw [hg]; exact (bsz (by repeat (first | (with_reducible first | exact HB.out | apply bal | apply pbN | apply bd1) | exact HB.out))) : w.heap.size ≤ gb169)); clear HB; have HB := n0_; have BK169 := n1_; have GW169 := n2_; have GE169 := n3_; clear n0_ n1_ n2_ n3_; clear hb hbox hg; have hcz17_0 : w16.cell? ⟨gb169, 0, none⟩ = some (.int .i64 a0_0) := (bce BK169.out 0).trans rfl; have hcz17_1 : w16.cell? ⟨gb169, 1, none⟩ = some (.int .i64 a0_1) := (bce BK169.out 1).trans rfl; have hfz17_0 := bfz BK169.out 0; have hfz17_1 := bfz BK169.out 1))
     go_ret
     exact ⟨by first | rfl | (simp [errW_none, errW_some] <;> rfl) | (simp [*, errW_none, errW_some] <;> rfl), by repeat (first | (with_reducible first | exact HB.out | apply bal | apply pbN | apply bd1 | refine bst ?_ GE169.out) | exact HB.out)⟩
    ·rw [if_neg c15] at H
     have c15b0 : decide (a0_0 ≤ 18) = false := decide_eq_false c15
     clear c15
     obtain rfl := Option.some.inj H
     go_enter Tryz.func27, Tryz.ntmps27
     go_wp2_with (first | ((with_reducible refine gate_dst (N := 1) rfl ?_); refine box_event ?hg (N := 1) ?hd (cs := #[.int .i64 a0_0, .int .i64 a0_1]) (t := 39) ?hr ?_; (case hd => rfl); (case hg => rfl); (case hr => first | (go_simp; done) | (go_simp; rfl)); intro gb169 hg w18 hbox hb; have n0_ := Aside0.mk (bsp (by repeat (first | (with_reducible first | exact HB.out | apply bal | apply pbN | apply bd1) | exact HB.out)) hb); have n1_ := Aside0.mk (hbox); have n2_ := Aside0.mk ((by rw [hg]; exact (bsz (by repeat (first | (with_reducible first | exact HB.out | apply bal | apply pbN | apply bd1) | exact HB.out))) : w.heap.size ≤ gb169)); have n3_ := Aside0.mk ((by rw [hg]; exact (bsz (by repeat (first | (with_reducible first | exact HB.out | apply bal | apply pbN | apply bd1) | exact HB.out))) : w.heap.size ≤ gb169)); clear HB; have HB := n0_; have BK169 := n1_; have GW169 := n2_; have GE169 := n3_; clear n0_ n1_ n2_ n3_; clear hb hbox hg; have hcz19_0 : w18.cell? ⟨gb169, 0, none⟩ = some (.int .i64 a0_0) := (bce BK169.out 0).trans rfl; have hcz19_1 : w18.cell? ⟨gb169, 1, none⟩ = some (.int .i64 a0_1) := (bce BK169.out 1).trans rfl; have hfz19_0 := bfz BK169.out 0; have hfz19_1 := bfz BK169.out 1))
     go_ret
     exact ⟨by first | rfl | (simp [errW_none, errW_some] <;> rfl) | (simp [*, errW_none, errW_some] <;> rfl), by repeat (first | (with_reducible first | exact HB.out | apply bal | apply pbN | apply bd1 | refine bst ?_ GE169.out) | exact HB.out)⟩
   ·rw [if_neg c14] at H
    have c14b0 : decide (3 ≤ a0_0) = false := decide_eq_false c14
    clear c14
    obtain rfl := Option.some.inj H
    go_enter Tryz.func27, Tryz.ntmps27
    go_wp2_with (first | ((with_reducible refine gate_dst (N := 1) rfl ?_); refine box_event ?hg (N := 1) ?hd (cs := #[.int .i64 a0_0, .int .i64 a0_1]) (t := 39) ?hr ?_; (case hd => rfl); (case hg => rfl); (case hr => first | (go_simp; done) | (go_simp; rfl)); intro gb169 hg w20 hbox hb; have n0_ := Aside0.mk (bsp (by repeat (first | (with_reducible first | exact HB.out | apply bal | apply pbN | apply bd1) | exact HB.out)) hb); have n1_ := Aside0.mk (hbox); have n2_ := Aside0.mk ((by rw [hg]; exact (bsz (by repeat (first | (with_reducible first | exact HB.out | apply bal | apply pbN | apply bd1) | exact HB.out))) : w.heap.size ≤ gb169)); have n3_ := Aside0.mk ((by rw [hg]; exact (bsz (by repeat (first | (with_reducible first | exact HB.out | apply bal | apply pbN | apply bd1) | exact HB.out))) : w.heap.size ≤ gb169)); clear HB; have HB := n0_; have BK169 := n1_; have GW169 := n2_; have GE169 := n3_; clear n0_ n1_ n2_ n3_; clear hb hbox hg; have hcz21_0 : w20.cell? ⟨gb169, 0, none⟩ = some (.int .i64 a0_0) := (bce BK169.out 0).trans rfl; have hcz21_1 : w20.cell? ⟨gb169, 1, none⟩ = some (.int .i64 a0_1) := (bce BK169.out 1).trans rfl; have hfz21_0 := bfz BK169.out 0; have hfz21_1 := bfz BK169.out 1))
    go_ret
    exact ⟨by first | rfl | (simp [errW_none, errW_some] <;> rfl) | (simp [*, errW_none, errW_some] <;> rfl), by repeat (first | (with_reducible first | exact HB.out | apply bal | apply pbN | apply bd1 | refine bst ?_ GE169.out) | exact HB.out)⟩

end Go.Proofs.YtikbgoppmailjaaGreatDoor.H
