/- Parts of the proof of LawGuardLeft: words, contracts of the functions, plain laws. -/
import Derived.Test.YtikbgoppmailjaaDoorProg
import Derived.Below
import Derived.Deep.Draws
import Derived.Deep.AppendLies
import Derived.Maps.AppendAt
import Derived.OwnWalk
import Derived.Laws.BytesArg
import Derived.Laws.MakeOwn
import Derived.Laws.OwnMore
import Derived.Deep.OwnRows
import Derived.Tactics
import Derived.Lib.ConvBytes
import Derived.Laws.Slices
import Derived.WalkKit
import Derived.KernelRfl
import Derived.RowKit3
import Derived.Deep.LoopGhost
import Derived.Deep.QuietTactic
import Derived.BigQuiet
import Derived.WideLaws
import Derived.Deep.DeepCutAuto
import Derived.Deep.CutBlock
import Derived.Deep.RegionHeld3
import Derived.Laws.Rows
import Derived.Lib.AppendStr
import Derived.ArgAppend
import Derived.Laws.IdiomCopy
import Derived.OrdersHeld
import Derived.Laws.BitsLemmas
import Derived.RowKit
import Derived.Test.YtikbgoppmailjaaDoorLA01
import Derived.Great.Walk
import Derived.Deep.WholeRow
import Derived.ScopeJumps
import Derived.Laws.NewBlocks
import Derived.Laws.Tables
import Derived.Shelf.Strings.Builder1
import Derived.Shelf.Strings.Builder2
import Derived.Shelf.Strings.OnBuilder
import Derived.Shelf.Strings.Trim
import Derived.Shelf.Small.Utf8
import Derived.Shelf.Small.Strs
import Derived.Shelf.Strconv.Atoi
import Derived.Shelf.Strconv.Itoa0
import Derived.Shelf.Strconv.Itoa1
import Derived.Shelf.LaysM
import Derived.Shelf.Strconv.Itoa2
import Derived.Shelf.Strconv.Itoa3
import Derived.Shelf.Strconv.AtoiErrFast
import Derived.Shelf.Strconv.ParseIntEmpty
import Derived.Shelf.Strconv.AtoiFail
import Derived.Shelf.Strconv.Clone
import Derived.Shelf.Strconv.SyntaxError
import Derived.Shelf.LaysC
import Derived.Shelf.Strconv.ToError
import Derived.Shelf.Strconv.Lower
import Derived.Shelf.Strconv.ParseUint10
import Derived.Shelf.Strconv.ParseUint10Empty
import Derived.Shelf.Strconv.ParseUint10Any
import Derived.Shelf.Strconv.ParseInt10
import Derived.Shelf.Strconv.AtoiLong
import Derived.Shelf.Strconv.AtoiInnerAll
import Derived.Shelf.Strconv.RangeError
import Derived.Shelf.Strconv.ToErrorRange
import Derived.Shelf.Strconv.AtoiAll
import Derived.Shelf.Strings.Search1
import Derived.Shelf.Strings.Prefix
import Derived.Shelf.Strings.Runes
import Derived.Shelf.Strings.AsciiSet
import Derived.Shelf.Unicode.DecodeSlow
import Derived.Shelf.Slices.Turned
import Derived.Shelf.Strings.SlTrimAscii
import Derived.WalkSmall
import Derived.Sort.Grow
-- Written by hp.py (a program of this session, over the kit's print.py), with hand-made contracts beside it.
namespace Go.Proofs.YtikbgoppmailjaaDoor.H
open Go.RowKit Go.Proofs.YtikbgoppmailjaaDoorW.PrintWords Go.Proofs.YtikbgoppmailjaaDoorW.PrintLast Go.Proofs.YtikbgoppmailjaaDoorW.PrintMore
attribute [local go_sem] max2_int min2_int max_two min_two max_three min_three max_four min_four   -- for this text's walks alone
set_option linter.unusedVariables false
set_option linter.unusedSimpArgs false



def errW : Option Int → Value
  | none => .nilIface
  | some c => .iface 0 (.int .i64 c)
theorem errW_none : errW none = .nilIface := rfl
theorem errW_some (c : Int) : errW (some c) = .iface 0 (.int .i64 c) := rfl

theorem info4 : (Tryd.prog.info? 4).map (fun i => (i.zero, i.size, i.bytes)) = some (some (.bool false), 1, 1) := by kernel_rfl
theorem info9 : (Tryd.prog.info? 9).map (fun i => (i.zero, i.size, i.bytes)) = some (some (.string ⟨#[]⟩), 1, 16) := by kernel_rfl
theorem info33 : (Tryd.prog.info? 33).map (fun i => (i.zero, i.size, i.bytes)) = some (some (.agg #[(.int .i64 0), (.int .i64 0)]), 2, 16) := by kernel_rfl
-- the values' own types
/-! #### struct type 33 -/
structure S33 where
  f0 : Int
  f1 : Int
def z33 : S33 := ⟨(0 : Int), (0 : Int)⟩
def k33 : Kd S33 := Kd.iso (Kd.pair (Kd.int .i64) (Kd.int .i64)) (fun x : S33 => (x.f0, x.f1))
theorem k33_open {w : World} {x : S33} {cs : List Value} (h : k33.K w x cs) : cs = [.int .i64 x.f0, .int .i64 x.f1] := by
  obtain ⟨_, _, rfl, rfl, rfl⟩ := h
  exact rfl
theorem k33_mkM (w : World) (base : Nat) (ok : Nat → Prop) (x : S33)  : k33.M w base ok x [.int .i64 x.f0, .int .i64 x.f1] := ⟨[.int .i64 x.f0], [.int .i64 x.f1], rfl, rfl, rfl⟩
def rd_T33 (xs : List S33) (i : Int) : S33 := xs.getD i.toNat z33
theorem at_T33 {w : World} {A : Option Addr} {n : Nat} {xs : List S33} (h : Kd.C k33 w A n xs) (i : Int) (h0 : 0 ≤ i) (h1 : i < n) : ∃ ad , A = some ad ∧ w.cell? (ad.add (i.toNat * 2)) = some (.int .i64 (rd_T33 xs i).f0) ∧ w.cell? ⟨(ad.add (i.toNat * 2)).block, (ad.add (i.toNat * 2)).off + 1, none⟩ = some (.int .i64 (rd_T33 xs i).f1) := by
  obtain ⟨ad, c, e, _, hK, hc0⟩ := Kd.C_get h z33 i h0 h1
  have hc : ∀ j u, c[j]? = some u → w.cell? (ad.add (i.toNat * 2 + j)) = some u := hc0
  obtain rfl := k33_open hK
  exact ⟨ad, e, hc 0 _ rfl, by rw [← add_field _ _ 1 (by omega)]; exact hc 1 _ rfl⟩

def rd_L4 (xs : List (List ByteArray)) (i : Int) : (List ByteArray) := xs.getD i.toNat ([] : List ByteArray)
def rd_L5 (xs : List (List S33)) (i : Int) : (List S33) := xs.getD i.toNat ([] : List S33)
end Go.Proofs.YtikbgoppmailjaaDoor.H
/- guard's reader, as plain functions on lists of signs: what is left, what lies behind; none: too few rounds; some none: it gives up. -/
namespace Go.Proofs.YtikbgoppmailjaaDoor.H
set_option linter.unusedVariables false
/-- The signs that are left, and those that lie behind. -/
abbrev ST := List S33 × List S33
abbrev Rz := Option (Option ST)
def seesF (kind : Int) (st : ST) : Bool := match st.1 with | [] => false | a :: _ => a.f0 == kind
def takeF (kind : Int) (st : ST) : Rz := if seesF kind st = true then some (some (st.1.tail, st.2)) else some none
def putF (kind : Int) (st : ST) : Rz := some (some (st.1, st.2 ++ [(⟨kind, 0⟩ : S33)]))
def bnd (x : Rz) (f : ST → Rz) : Rz := match x with | none => none | some none => some none | some (some s) => f s
def rowL (th : ST → Rz) (ks : List Int) : Nat → ST → Rz
  | 0, _ => none
  | k + 1, st => match st.1 with
    | [] => some (some st)
    | a :: r => if ks.contains a.f0 = true then bnd (th (r, st.2)) fun s => bnd (putF a.f0 s) (rowL th ks k) else some (some st)
def rowF (th : ST → Rz) (ks : List Int) (k : Nat) (st : ST) : Rz := bnd (th st) (rowL th ks k)
def stepF (R : Nat → ST → Rz) (k : Nat) (lev : Nat) (st : ST) : Rz :=
  if lev = 0 then rowF (R 1) [13] k st
  else if lev = 1 then rowF (R 2) [12] k st
  else if lev = 2 then
    if seesF 14 st = true then bnd (R 2 (st.1.tail, st.2)) (putF 14)
    else if seesF 15 st = true then bnd (R 0 (st.1.tail, st.2)) (takeF 16)
    else bnd (R 3 st) fun s => match s.1 with
      | [] => some none
      | a :: r => if decide (6 ≤ a.f0 ∧ a.f0 ≤ 11) = true then bnd (R 3 (r, s.2)) (putF a.f0) else some none
  else if lev = 3 then rowF (R 4) [3, 4] k st
  else if lev = 4 then rowF (R 5) [5] k st
  else match st.1 with
    | [] => some none
    | a :: r =>
      if a.f0 = 1 ∨ a.f0 = 2 then some (some (r, st.2 ++ [a]))
      else if a.f0 = 4 then bnd (R 5 (r, st.2)) (putF 19)
      else if a.f0 = 17 then bnd (R 3 (r, st.2)) (takeF 18)
      else some none
def PF : Nat → Nat → ST → Rz
  | 0 => fun _ _ => none
  | k + 1 => stepF (PF k) k
end Go.Proofs.YtikbgoppmailjaaDoor.H
/- Plain laws of guard's reader. -/
namespace Go.Proofs.YtikbgoppmailjaaDoor.Pure
open Go.Proofs.YtikbgoppmailjaaDoor.H
set_option linter.unusedVariables false
set_option linter.unusedSimpArgs false
theorem bnd_some {x : Rz} {f : ST → Rz} {r : Option ST} (h : bnd x f = some r) : (x = some none ∧ r = none) ∨ ∃ s, x = some (some s) ∧ f s = some r := by
  unfold bnd at h
  match x, h with
  | some none, h => exact .inl ⟨rfl, (Option.some.inj h).symm⟩
  | some (some s), h => exact .inr ⟨s, rfl, h⟩
theorem bnd_mk_none {x : Rz} {f : ST → Rz} (h : x = some none) : bnd x f = some none := by rw [h]; rfl
theorem bnd_mk {x : Rz} {f : ST → Rz} {s : ST} (h : x = some (some s)) : bnd x f = f s := by rw [h]; rfl
theorem bnd_mono {x x' : Rz} {f f' : ST → Rz} {r : Option ST} (hx : ∀ r, x = some r → x' = some r) (hf : ∀ s r, f s = some r → f' s = some r) (h : bnd x f = some r) : bnd x' f' = some r := by
  rcases bnd_some h with ⟨h1, rfl⟩ | ⟨s, h1, h2⟩
  · exact bnd_mk_none (hx _ h1)
  · rw [bnd_mk (hx _ h1)]; exact hf s r h2
theorem rowL_mono (th th' : ST → Rz) (ks : List Int) (h : ∀ st r, th st = some r → th' st = some r) : ∀ (k k' : Nat) (st : ST) (r : Option ST), k ≤ k' → rowL th ks k st = some r → rowL th' ks k' st = some r
  | 0, _, _, _, _, h1 => by cases h1
  | k + 1, k', st, r, hk, h1 => by
    obtain ⟨k', rfl⟩ : ∃ m, k' = m + 1 := ⟨k' - 1, by omega⟩
    obtain ⟨l, o⟩ := st
    cases l with
    | nil => exact h1
    | cons a l =>
      simp only [rowL] at h1 ⊢
      split at h1
      · rename_i hc
        rw [if_pos hc]
        exact bnd_mono (h _) (fun s r h2 => bnd_mono (fun _ h3 => h3) (fun s r h3 => rowL_mono th th' ks h k k' s r (by omega) h3) h2) h1
      · rename_i hc
        rw [if_neg hc]; exact h1
theorem rowF_mono (th th' : ST → Rz) (ks : List Int) (h : ∀ st r, th st = some r → th' st = some r) (k k' : Nat) (hk : k ≤ k') (st : ST) (r : Option ST) (h1 : rowF th ks k st = some r) : rowF th' ks k' st = some r :=
  bnd_mono (h st) (fun s r h2 => rowL_mono th th' ks h k k' s r hk h2) h1
theorem stepF_mono (R R' : Nat → ST → Rz) (h : ∀ lev st r, R lev st = some r → R' lev st = some r) (k k' : Nat) (hk : k ≤ k') (lev : Nat) (st : ST) (r : Option ST) (h1 : stepF R k lev st = some r) : stepF R' k' lev st = some r := by
  unfold stepF at h1 ⊢
  split at h1
  · rename_i c; rw [if_pos c]; exact rowF_mono _ _ _ (h 1) k k' hk st r h1
  · rename_i c; rw [if_neg c]
    split at h1
    · rename_i c; rw [if_pos c]; exact rowF_mono _ _ _ (h 2) k k' hk st r h1
    · rename_i c; rw [if_neg c]
      split at h1
      · rename_i c; rw [if_pos c]
        split at h1
        · rename_i c; rw [if_pos c]; exact bnd_mono (h _ _) (fun _ _ h2 => h2) h1
        · rename_i c; rw [if_neg c]
          split at h1
          · rename_i c; rw [if_pos c]; exact bnd_mono (h _ _) (fun _ _ h2 => h2) h1
          · rename_i c; rw [if_neg c]
            refine bnd_mono (h _ _) (fun s r h2 => ?_) h1
            obtain ⟨l, o⟩ := s
            cases l with
            | nil => exact h2
            | cons a l =>
              dsimp only at h2 ⊢
              split at h2
              · rename_i c; rw [if_pos c]; exact bnd_mono (h _ _) (fun _ _ h3 => h3) h2
              · rename_i c; rw [if_neg c]; exact h2
      · rename_i c; rw [if_neg c]
        split at h1
        · rename_i c; rw [if_pos c]; exact rowF_mono _ _ _ (h 4) k k' hk st r h1
        · rename_i c; rw [if_neg c]
          split at h1
          · rename_i c; rw [if_pos c]; exact rowF_mono _ _ _ (h 5) k k' hk st r h1
          · rename_i c; rw [if_neg c]
            obtain ⟨l, o⟩ := st
            cases l with
            | nil => exact h1
            | cons a l =>
              dsimp only at h1 ⊢
              split at h1
              · rename_i c; rw [if_pos c]; exact h1
              · rename_i c; rw [if_neg c]
                split at h1
                · rename_i c; rw [if_pos c]; exact bnd_mono (h _ _) (fun _ _ h3 => h3) h1
                · rename_i c; rw [if_neg c]
                  split at h1
                  · rename_i c; rw [if_pos c]; exact bnd_mono (h _ _) (fun _ _ h3 => h3) h1
                  · rename_i c; rw [if_neg c]; exact h1
theorem PF_mono1 : ∀ (k lev : Nat) (st : ST) (r : Option ST), PF k lev st = some r → PF (k + 1) lev st = some r
  | 0, _, _, _, h => by cases h
  | k + 1, lev, st, r, h => stepF_mono (PF k) (PF (k + 1)) (fun lev st r h => PF_mono1 k lev st r h) k (k + 1) (by omega) lev st r h
theorem PF_mono {k k' lev : Nat} {st : ST} {r : Option ST} (hk : k ≤ k') (h : PF k lev st = some r) : PF k' lev st = some r := by
  obtain ⟨d, rfl⟩ : ∃ d, k' = k + d := ⟨k' - k, by omega⟩
  clear hk
  induction d with
  | zero => exact h
  | succ d ih => exact PF_mono1 _ _ _ _ ih
end Go.Proofs.YtikbgoppmailjaaDoor.Pure
/- guard's reader comes to an end; what stands behind a guard does not touch it. -/
namespace Go.Proofs.YtikbgoppmailjaaDoor.Pure
open Go.Proofs.YtikbgoppmailjaaDoor.H
set_option linter.unusedVariables false
set_option linter.unusedSimpArgs false
theorem PF_succ (k lev : Nat) (st : ST) : PF (k + 1) lev st = stepF (PF k) k lev st := rfl
theorem step2 (R : Nat → ST → Rz) (k : Nat) (st : ST) : stepF R k 2 st =
    if seesF 14 st = true then bnd (R 2 (st.1.tail, st.2)) (putF 14)
    else if seesF 15 st = true then bnd (R 0 (st.1.tail, st.2)) (takeF 16)
    else bnd (R 3 st) fun s => match s.1 with
      | [] => some none
      | a :: r => if decide (6 ≤ a.f0 ∧ a.f0 ≤ 11) = true then bnd (R 3 (r, s.2)) (putF a.f0) else some none := rfl
theorem step5 (R : Nat → ST → Rz) (k : Nat) (st : ST) : stepF R k 5 st =
    match st.1 with
    | [] => some none
    | a :: r =>
      if a.f0 = 1 ∨ a.f0 = 2 then some (some (r, st.2 ++ [a]))
      else if a.f0 = 4 then bnd (R 5 (r, st.2)) (putF 19)
      else if a.f0 = 17 then bnd (R 3 (r, st.2)) (takeF 18)
      else some none := rfl
/-- A reading that came well out of st: one sign at least was read; no more signs lie there than before. -/
def Well (st : ST) (r : Option ST) : Prop := ∀ s, r = some s → s.1.length < st.1.length ∧ s.2.length + s.1.length ≤ st.2.length + st.1.length
theorem putF_ok (kind : Int) (st : ST) : putF kind st = some (some (st.1, st.2 ++ [(⟨kind, 0⟩ : S33)])) := rfl
theorem row_total (th : Nat → ST → Rz) (hm : ∀ k k' st r, k ≤ k' → th k st = some r → th k' st = some r) (ks : List Int) : ∀ (n : Nat) (st : ST), st.1.length ≤ n → True →
    (∀ s : ST, s.1.length < st.1.length → True → ∃ k r, th k s = some r ∧ Well s r) →
    ∃ k r, (∀ k', k ≤ k' → rowL (th k') ks k' st = some r) ∧ (∀ s, r = some s → s.1.length ≤ st.1.length ∧ s.2.length + s.1.length ≤ st.2.length + st.1.length) := by
  intro n
  induction n with
  | zero =>
    intro st h hs _
    obtain ⟨l, o⟩ := st
    obtain rfl : l = [] := List.eq_nil_of_length_eq_zero (by simpa using h)
    refine ⟨1, some ([], o), fun k' hk => ?_, fun s hs => ?_⟩
    · obtain ⟨k', rfl⟩ : ∃ m, k' = m + 1 := ⟨k' - 1, by omega⟩
      rfl
    · obtain rfl := Option.some.inj hs
      exact ⟨Nat.le_refl _, Nat.le_refl _⟩
  | succ n ih =>
    intro st h hs hth
    obtain ⟨l, o⟩ := st
    cases l with
    | nil =>
      refine ⟨1, some ([], o), fun k' hk => ?_, fun s hs => ?_⟩
      · obtain ⟨k', rfl⟩ : ∃ m, k' = m + 1 := ⟨k' - 1, by omega⟩
        rfl
      · obtain rfl := Option.some.inj hs
        exact ⟨Nat.le_refl _, Nat.le_refl _⟩
    | cons a l =>
      simp only [List.length_cons] at h
      by_cases hc : ks.contains a.f0 = true
      · obtain ⟨k1, r1, h1, w1⟩ := hth (l, o) (by simp) trivial
        cases r1 with
        | none =>
          refine ⟨k1 + 1, none, fun k' hk => ?_, fun s hs => by cases hs⟩
          obtain ⟨k', rfl⟩ : ∃ m, k' = m + 1 := ⟨k' - 1, by omega⟩
          simp only [rowL]
          rw [if_pos hc, bnd_mk_none (hm k1 _ _ _ (by omega) h1)]
        | some s1 =>
          obtain ⟨w1a, w1b⟩ := w1 s1 rfl
          dsimp only at w1a w1b
          obtain ⟨k2, r2, h2, w2⟩ := ih (s1.1, s1.2 ++ [(⟨a.f0, 0⟩ : S33)]) (by dsimp only; omega) trivial
            (fun s hs1 hs2 => hth s (by dsimp only at hs1 ⊢; rw [List.length_cons]; omega) hs2)
          refine ⟨k1 + k2 + 1, r2, fun k' hk => ?_, fun s hs => ?_⟩
          · obtain ⟨k', rfl⟩ : ∃ m, k' = m + 1 := ⟨k' - 1, by omega⟩
            simp only [rowL]
            rw [if_pos hc, bnd_mk (hm k1 _ _ _ (by omega) h1), putF_ok]
            show rowL (th (k' + 1)) ks k' _ = some r2
            exact rowL_mono (th k') (th (k' + 1)) ks (fun st r => hm k' (k' + 1) st r (by omega)) k' k' _ _ (Nat.le_refl _) (h2 k' (by omega))
          · obtain ⟨q1, q2⟩ := w2 s hs
            dsimp only at q1 q2
            rw [List.length_append] at q2
            simp only [List.length_cons, List.length_nil] at q2 ⊢
            omega
      · refine ⟨1, some (a :: l, o), fun k' hk => ?_, fun s hs => ?_⟩
        · obtain ⟨k', rfl⟩ : ∃ m, k' = m + 1 := ⟨k' - 1, by omega⟩
          simp only [rowL]
          rw [if_neg hc]
        · obtain rfl := Option.some.inj hs
          exact ⟨Nat.le_refl _, Nat.le_refl _⟩
theorem rowF_total (lev lev2 : Nat) (ks : List Int) (hstep : ∀ k st, PF (k + 1) lev st = rowF (PF k lev2) ks k st) (st : ST) (hs : True)
    (h0 : ∃ k r, PF k lev2 st = some r ∧ Well st r) (h1 : ∀ s : ST, s.1.length < st.1.length → True → ∃ k r, PF k lev2 s = some r ∧ Well s r) : ∃ k r, PF k lev st = some r ∧ Well st r := by
  obtain ⟨k1, r1, e1, w1⟩ := h0
  cases r1 with
  | none => exact ⟨k1 + 1, none, by rw [hstep]; exact bnd_mk_none e1, fun s hs => by cases hs⟩
  | some s1 =>
    obtain ⟨w1a, w1b⟩ := w1 s1 rfl
    obtain ⟨k2, r2, e2, w2⟩ := row_total (fun k => PF k lev2) (fun k k' st r hk h => PF_mono hk h) ks s1.1.length s1 (Nat.le_refl _) trivial (fun s hs1 hs2 => h1 s (by omega) hs2)
    refine ⟨k1 + k2 + 1, r2, ?_, fun s hs => ?_⟩
    · rw [hstep]
      unfold rowF
      rw [bnd_mk (PF_mono (by omega) e1)]
      exact e2 (k1 + k2) (by omega)
    · obtain ⟨q1, q2⟩ := w2 s hs
      exact ⟨by omega, by omega⟩
theorem PF_total : ∀ (m n lev : Nat) (st : ST), m = 6 * n + (5 - lev) → lev ≤ 5 → st.1.length = n → True → ∃ k r, PF k lev st = some r ∧ Well st r := by
  intro m
  induction m using Nat.strongRecOn with
  | _ m ih =>
    intro n lev st hm hl hn hs
    have up : ∀ lev2, lev < lev2 → lev2 ≤ 5 → ∃ k r, PF k lev2 st = some r ∧ Well st r := fun lev2 h1 h2 => ih (6 * n + (5 - lev2)) (by omega) n lev2 st rfl h2 hn hs
    have down : ∀ lev2, lev2 ≤ 5 → ∀ s : ST, s.1.length < st.1.length → True → ∃ k r, PF k lev2 s = some r ∧ Well s r :=
      fun lev2 h2 s h3 h4 => ih (6 * s.1.length + (5 - lev2)) (by omega) s.1.length lev2 s rfl h2 rfl h4
    rcases (by omega : lev = 0 ∨ lev = 1 ∨ lev = 2 ∨ lev = 3 ∨ lev = 4 ∨ lev = 5) with rfl | rfl | rfl | rfl | rfl | rfl
    · exact rowF_total 0 1 [13] (fun _ _ => rfl) st hs (up 1 (by omega) (by omega)) (down 1 (by omega))
    · exact rowF_total 1 2 [12] (fun _ _ => rfl) st hs (up 2 (by omega) (by omega)) (down 2 (by omega))
    · -- one
      obtain ⟨l, o⟩ := st
      have tail : ∀ (lev2 : Nat) (f : ST → Rz), lev2 ≤ 5 → l ≠ [] → (∀ s : ST, s.1.length < l.tail.length → s.2.length + s.1.length ≤ o.length + l.tail.length → ∃ r, f s = some r ∧ ∀ q, r = some q → q.1.length ≤ s.1.length ∧ q.2.length + q.1.length ≤ s.2.length + s.1.length + 1) →
          ∃ k r, bnd (PF k lev2 (l.tail, o)) f = some r ∧ Well (l, o) r := by
        intro lev2 f h2 hne hf
        cases l with
        | nil => exact absurd rfl hne
        | cons a l =>
          dsimp only [List.tail_cons] at hf ⊢
          obtain ⟨k1, r1, e1, w1⟩ := down lev2 h2 (l, o) (by simp) trivial
          cases r1 with
          | none => exact ⟨k1, none, bnd_mk_none e1, fun s hs => by cases hs⟩
          | some s1 =>
            obtain ⟨w1a, w1b⟩ := w1 s1 rfl
            dsimp only at w1a w1b
            obtain ⟨r, e2, w2⟩ := hf s1 w1a w1b
            refine ⟨k1, r, by rw [bnd_mk e1]; exact e2, fun s hs => ?_⟩
            obtain ⟨q1, q2⟩ := w2 s hs
            simp only [List.length_cons]
            exact ⟨by omega, by omega⟩
      have hput : ∀ kind (s : ST), ∃ r, putF kind s = some r ∧ ∀ q, r = some q → q.1.length ≤ s.1.length ∧ q.2.length + q.1.length ≤ s.2.length + s.1.length + 1 := by
        intro kind s
        refine ⟨some (s.1, s.2 ++ [(⟨kind, 0⟩ : S33)]), putF_ok kind s, fun q hq => ?_⟩
        obtain rfl := Option.some.inj hq
        dsimp only
        rw [List.length_append]
        simp only [List.length_cons, List.length_nil]
        omega
      have htake : ∀ kind (s : ST), ∃ r, takeF kind s = some r ∧ ∀ q, r = some q → q.1.length ≤ s.1.length ∧ q.2.length + q.1.length ≤ s.2.length + s.1.length + 1 := by
        intro kind s
        unfold takeF
        split
        · refine ⟨_, rfl, fun q hq => ?_⟩
          obtain rfl := Option.some.inj hq
          dsimp only
          rw [List.length_tail]
          omega
        · exact ⟨none, rfl, fun q hq => by cases hq⟩
      have hlt : l.tail.length ≤ l.length := by rw [List.length_tail]; omega
      by_cases c1 : seesF 14 (l, o) = true
      · obtain ⟨k, r, e, w⟩ := tail 2 (putF 14) (by omega) (by rintro rfl; cases c1) (fun s h1 h2 => hput 14 s)
        exact ⟨k + 1, r, by rw [PF_succ, step2, if_pos c1]; exact e, w⟩
      · by_cases c2 : seesF 15 (l, o) = true
        · obtain ⟨k, r, e, w⟩ := tail 0 (takeF 16) (by omega) (by rintro rfl; cases c2) (fun s h1 h2 => htake 16 s)
          exact ⟨k + 1, r, by rw [PF_succ, step2, if_neg c1, if_pos c2]; exact e, w⟩
        · obtain ⟨k1, r1, e1, w1⟩ := up 3 (by omega) (by omega)
          cases r1 with
          | none => exact ⟨k1 + 1, none, by rw [PF_succ, step2, if_neg c1, if_neg c2]; exact bnd_mk_none e1, fun s hs => by cases hs⟩
          | some s1 =>
            obtain ⟨w1a, w1b⟩ := w1 s1 rfl
            obtain ⟨l1, o1⟩ := s1
            dsimp only at w1a w1b
            cases l1 with
            | nil => exact ⟨k1 + 1, none, by rw [PF_succ, step2, if_neg c1, if_neg c2, bnd_mk e1], fun s hs => by cases hs⟩
            | cons a l1 =>
              simp only [List.length_cons] at w1a w1b
              by_cases c3 : decide (6 ≤ a.f0 ∧ a.f0 ≤ 11) = true
              · obtain ⟨k2, r2, e2, w2⟩ := down 3 (by omega) (l1, o1) (by dsimp only; omega) trivial
                cases r2 with
                | none =>
                  refine ⟨k1 + k2 + 1, none, ?_, fun s hs => by cases hs⟩
                  rw [PF_succ, step2, if_neg c1, if_neg c2, bnd_mk (PF_mono (by omega) e1)]
                  dsimp only
                  rw [if_pos c3, bnd_mk_none (PF_mono (by omega) e2)]
                | some s2 =>
                  obtain ⟨w2a, w2b⟩ := w2 s2 rfl
                  dsimp only at w2a w2b
                  refine ⟨k1 + k2 + 1, some (s2.1, s2.2 ++ [(⟨a.f0, 0⟩ : S33)]), ?_, fun s hs1 => ?_⟩
                  · rw [PF_succ, step2, if_neg c1, if_neg c2, bnd_mk (PF_mono (by omega) e1)]
                    dsimp only
                    rw [if_pos c3, bnd_mk (PF_mono (by omega) e2), putF_ok]
                  · obtain rfl := Option.some.inj hs1
                    dsimp only
                    rw [List.length_append]
                    simp only [List.length_cons, List.length_nil]
                    omega
              · exact ⟨k1 + 1, none, by rw [PF_succ, step2, if_neg c1, if_neg c2, bnd_mk e1]; dsimp only; rw [if_neg c3], fun s hs => by cases hs⟩
    · exact rowF_total 3 4 [3, 4] (fun _ _ => rfl) st hs (up 4 (by omega) (by omega)) (down 4 (by omega))
    · exact rowF_total 4 5 [5] (fun _ _ => rfl) st hs (up 5 (by omega) (by omega)) (down 5 (by omega))
    · -- factor
      obtain ⟨l, o⟩ := st
      cases l with
      | nil => exact ⟨1, none, rfl, fun s hs => by cases hs⟩
      | cons a l =>
        by_cases c1 : a.f0 = 1 ∨ a.f0 = 2
        · refine ⟨1, some (l, o ++ [a]), ?_, fun s hs1 => ?_⟩
          · rw [PF_succ, step5]
            dsimp only
            rw [if_pos c1]
          · obtain rfl := Option.some.inj hs1
            dsimp only
            rw [List.length_append]
            simp only [List.length_cons, List.length_nil]
            omega
        · by_cases c2 : a.f0 = 4
          · obtain ⟨k1, r1, e1, w1⟩ := down 5 (by omega) (l, o) (by simp) trivial
            cases r1 with
            | none => exact ⟨k1 + 1, none, by rw [PF_succ, step5]; dsimp only; rw [if_neg c1, if_pos c2, bnd_mk_none e1], fun s hs => by cases hs⟩
            | some s1 =>
              obtain ⟨w1a, w1b⟩ := w1 s1 rfl
              dsimp only at w1a w1b
              refine ⟨k1 + 1, some (s1.1, s1.2 ++ [(⟨19, 0⟩ : S33)]), ?_, fun s hs1 => ?_⟩
              · rw [PF_succ, step5]; dsimp only; rw [if_neg c1, if_pos c2, bnd_mk e1, putF_ok]
              · obtain rfl := Option.some.inj hs1
                dsimp only
                rw [List.length_append]
                simp only [List.length_cons, List.length_nil]
                omega
          · by_cases c3 : a.f0 = 17
            · obtain ⟨k1, r1, e1, w1⟩ := down 3 (by omega) (l, o) (by simp) trivial
              cases r1 with
              | none => exact ⟨k1 + 1, none, by rw [PF_succ, step5]; dsimp only; rw [if_neg c1, if_neg c2, if_pos c3, bnd_mk_none e1], fun s hs => by cases hs⟩
              | some s1 =>
                obtain ⟨w1a, w1b⟩ := w1 s1 rfl
                dsimp only at w1a w1b
                refine ⟨k1 + 1, if seesF 18 s1 = true then some (s1.1.tail, s1.2) else none, ?_, fun s hs1 => ?_⟩
                · rw [PF_succ, step5]; dsimp only; rw [if_neg c1, if_neg c2, if_pos c3, bnd_mk e1]
                  unfold takeF
                  split <;> rfl
                · split at hs1
                  · obtain rfl := Option.some.inj hs1
                    dsimp only
                    rw [List.length_tail]
                    simp only [List.length_cons]
                    omega
                  · cases hs1
            · exact ⟨1, none, by rw [PF_succ, step5]; dsimp only; rw [if_neg c1, if_neg c2, if_neg c3], fun s hs => by cases hs⟩
end Go.Proofs.YtikbgoppmailjaaDoor.Pure
/- What stands behind a guard does not touch it; what lies there before, neither. -/
namespace Go.Proofs.YtikbgoppmailjaaDoor.Pure
open Go.Proofs.YtikbgoppmailjaaDoor.H
set_option linter.unusedVariables false
set_option linter.unusedSimpArgs false
theorem rowL_nil (th : ST → Rz) (ks : List Int) (k : Nat) (o : List S33) (r : Option ST) (h : rowL th ks k ([], o) = some r) : r = some ([], o) := by
  cases k with
  | zero => cases h
  | succ k => exact (Option.some.inj h).symm
theorem rowL_cons {th : ST → Rz} {ks : List Int} {k : Nat} {a : S33} {l o : List S33} {r : Option ST} (h : rowL th ks (k + 1) (a :: l, o) = some r) :
    (ks.contains a.f0 = false ∧ r = some (a :: l, o)) ∨ (ks.contains a.f0 = true ∧ ((th (l, o) = some none ∧ r = none) ∨ ∃ l1 o1, th (l, o) = some (some (l1, o1)) ∧ rowL th ks k (l1, o1 ++ [(⟨a.f0, 0⟩ : S33)]) = some r)) := by
  simp only [rowL] at h
  split at h
  · rename_i hc
    refine .inr ⟨hc, ?_⟩
    rcases bnd_some h with ⟨h1, rfl⟩ | ⟨s, h1, h2⟩
    · exact .inl ⟨h1, rfl⟩
    · obtain ⟨l1, o1⟩ := s
      exact .inr ⟨l1, o1, h1, h2⟩
  · rename_i hc
    exact .inl ⟨by simpa using hc, (Option.some.inj h).symm⟩
theorem rowL_go {th : ST → Rz} {ks : List Int} {k : Nat} {a : S33} {l o : List S33} (hc : ks.contains a.f0 = true) {l1 o1 : List S33} (h : th (l, o) = some (some (l1, o1))) : rowL th ks (k + 1) (a :: l, o) = rowL th ks k (l1, o1 ++ [(⟨a.f0, 0⟩ : S33)]) := by
  simp only [rowL]
  rw [if_pos hc, bnd_mk h]
  rfl
theorem rowL_stop {th : ST → Rz} {ks : List Int} {k : Nat} {a : S33} {l o : List S33} (hc : ks.contains a.f0 = false) : rowL th ks (k + 1) (a :: l, o) = some (some (a :: l, o)) := by
  simp only [rowL]
  rw [if_neg (by rw [hc]; decide)]
theorem rowF_some {th : ST → Rz} {ks : List Int} {k : Nat} {st : ST} {r : Option ST} (h : rowF th ks k st = some r) : (th st = some none ∧ r = none) ∨ ∃ l1 o1, th st = some (some (l1, o1)) ∧ rowL th ks k (l1, o1) = some r := by
  rcases bnd_some h with ⟨h1, rfl⟩ | ⟨s, h1, h2⟩
  · exact .inl ⟨h1, rfl⟩
  · obtain ⟨l1, o1⟩ := s
    exact .inr ⟨l1, o1, h1, h2⟩
theorem rowF_mk {th : ST → Rz} {ks : List Int} {k : Nat} {st : ST} {l1 o1 : List S33} (h : th st = some (some (l1, o1))) : rowF th ks k st = rowL th ks k (l1, o1) := bnd_mk h
theorem nosucc : ∀ (k lev : Nat) (o : List S33) (s : ST), PF k lev ([], o) ≠ some (some s)
  | 0, _, _, _, h => by cases h
  | k + 1, lev, o, s, h => by
    rw [PF_succ] at h
    have row : ∀ lev2 ks, rowF (PF k lev2) ks k ([], o) = some (some s) → False := fun lev2 ks h => by
      rcases rowF_some h with ⟨_, h2⟩ | ⟨l1, o1, h1, _⟩
      · cases h2
      · exact nosucc k lev2 o _ h1
    unfold stepF at h
    split at h
    · exact row _ _ h
    · split at h
      · exact row _ _ h
      · split at h
        · rw [if_neg (show ¬ (seesF 14 ([], o) = true) from Bool.false_ne_true), if_neg (show ¬ (seesF 15 ([], o) = true) from Bool.false_ne_true)] at h
          rcases bnd_some h with ⟨_, h2⟩ | ⟨s1, h1, _⟩
          · cases h2
          · exact nosucc k 3 o _ h1
        · split at h
          · exact row _ _ h
          · split at h
            · exact row _ _ h
            · cases h
theorem ext_row {th : ST → Rz} {ks : List Int} {c : S33} {r : List S33} (P : Prop) (hP : P → ks.contains c.f0 = false)
    (hth : ∀ l o l' o', th (l, o) = some (some (l', o')) → (l' = [] → P) → th (l ++ c :: r, o) = some (some (l' ++ c :: r, o'))) :
    ∀ (k : Nat) (l o l' o' : List S33), rowL th ks k (l, o) = some (some (l', o')) → (l' = [] → P) → rowL th ks k (l ++ c :: r, o) = some (some (l' ++ c :: r, o'))
  | 0, _, _, _, _, h, _ => by cases h
  | k + 1, [], o, l', o', h, hp => by
    have := rowL_nil _ _ _ _ _ h
    obtain ⟨rfl, rfl⟩ := Prod.mk.inj (Option.some.inj this)
    exact rowL_stop (hP (hp rfl))
  | k + 1, a :: l, o, l', o', h, hp => by
    rcases rowL_cons h with ⟨hc, h1⟩ | ⟨hc, ⟨_, h1⟩ | ⟨l1, o1, h1, h2⟩⟩
    · obtain ⟨rfl, rfl⟩ := Prod.mk.inj (Option.some.inj h1)
      exact rowL_stop hc
    · cases h1
    · have hp1 : l1 = [] → P := by
        rintro rfl
        have := rowL_nil _ _ _ _ _ h2
        exact hp (Prod.mk.inj (Option.some.inj this)).1
      have h3 := hth _ _ _ _ h1 hp1
      show rowL th ks (k + 1) (a :: (l ++ c :: r), o) = _
      rw [rowL_go hc h3]
      exact ext_row P hP hth k l1 _ l' o' h2 hp
def OKc (lev : Nat) (x : Int) : Prop := (lev ≤ 0 → x ≠ 13) ∧ (lev ≤ 1 → x ≠ 12) ∧ (lev ≤ 3 → x ≠ 3 ∧ x ≠ 4) ∧ (lev ≤ 4 → x ≠ 5)
theorem OKc.up {lev lev2 : Nat} {x : Int} (h : OKc lev x) (hl : lev ≤ lev2) : OKc lev2 x := ⟨fun q => h.1 (by omega), fun q => h.2.1 (by omega), fun q => h.2.2.1 (by omega), fun q => h.2.2.2 (by omega)⟩
theorem seesF_app (kind : Int) (l t o : List S33) (h : l ≠ []) : seesF kind (l ++ t, o) = seesF kind (l, o) := by
  cases l with
  | nil => exact absurd rfl h
  | cons a l => rfl
theorem ext (c : S33) (r : List S33) : ∀ (k lev : Nat) (l o l' o' : List S33), PF k lev (l, o) = some (some (l', o')) → (l' = [] → OKc lev c.f0) → PF k lev (l ++ c :: r, o) = some (some (l' ++ c :: r, o'))
  | 0, _, _, _, _, _, h, _ => by cases h
  | k + 1, lev, l, o, l', o', h, hp => by
    have hne : l ≠ [] := by rintro rfl; exact nosucc _ _ _ _ h
    have row : ∀ lev2 ks, lev < lev2 → (OKc lev c.f0 → ks.contains c.f0 = false) → rowF (PF k lev2) ks k (l, o) = some (some (l', o')) → rowF (PF k lev2) ks k (l ++ c :: r, o) = some (some (l' ++ c :: r, o')) := by
      intro lev2 ks hl hks h
      rcases rowF_some h with ⟨_, h2⟩ | ⟨l1, o1, h1, h2⟩
      · cases h2
      · have hp1 : l1 = [] → OKc lev c.f0 := by
          rintro rfl
          have := rowL_nil _ _ _ _ _ h2
          exact hp (Prod.mk.inj (Option.some.inj this)).1
        have hth : ∀ l o l' o', PF k lev2 (l, o) = some (some (l', o')) → (l' = [] → OKc lev c.f0) → PF k lev2 (l ++ c :: r, o) = some (some (l' ++ c :: r, o')) :=
          fun l o l' o' q1 q2 => ext c r k lev2 l o l' o' q1 (fun e => (q2 e).up (by omega))
        rw [rowF_mk (hth _ _ _ _ h1 hp1)]
        exact ext_row (OKc lev c.f0) hks hth k l1 o1 l' o' h2 hp
    have htl : ∀ t : List S33, l.tail ++ t = (l ++ t).tail := fun t => by cases l with
      | nil => exact absurd rfl hne
      | cons a l => rfl
    rw [PF_succ] at h ⊢
    unfold stepF at h ⊢
    by_cases c0 : lev = 0
    · subst c0
      rw [if_pos rfl] at h ⊢
      exact row 1 [13] (by omega) (fun q => by have := q.1 (by omega); simp; omega) h
    · rw [if_neg c0] at h ⊢
      by_cases c1 : lev = 1
      · subst c1
        rw [if_pos rfl] at h ⊢
        exact row 2 [12] (by omega) (fun q => by have := q.2.1 (by omega); simp; omega) h
      · rw [if_neg c1] at h ⊢
        by_cases c2 : lev = 2
        · subst c2
          rw [if_pos rfl] at h ⊢
          rw [seesF_app 14 _ _ _ hne, seesF_app 15 _ _ _ hne]
          dsimp only at h ⊢
          rw [← htl]
          split at h
          · rename_i q
            rw [if_pos q]
            rcases bnd_some h with ⟨_, h2⟩ | ⟨⟨l1, o1⟩, h1, h2⟩
            · cases h2
            · obtain ⟨rfl, rfl⟩ := Prod.mk.inj (Option.some.inj (Option.some.inj h2))
              rw [bnd_mk (ext c r k 2 _ _ _ _ h1 hp)]
              rfl
          · rename_i q
            rw [if_neg q]
            split at h
            · rename_i q
              rw [if_pos q]
              rcases bnd_some h with ⟨_, h2⟩ | ⟨⟨l1, o1⟩, h1, h2⟩
              · cases h2
              · unfold takeF at h2
                split at h2
                · rename_i q2
                  have hne1 : l1 ≠ [] := by rintro rfl; cases q2
                  obtain ⟨rfl, rfl⟩ := Prod.mk.inj (Option.some.inj (Option.some.inj h2))
                  rw [bnd_mk (ext c r k 0 _ _ _ _ h1 (fun e => absurd e hne1))]
                  unfold takeF
                  rw [seesF_app _ _ _ _ hne1, if_pos q2]
                  cases l1 with
                  | nil => exact absurd rfl hne1
                  | cons a l1 => rfl
                · cases h2
            · rename_i q
              rw [if_neg q]
              rcases bnd_some h with ⟨_, h2⟩ | ⟨⟨l1, o1⟩, h1, h2⟩
              · cases h2
              · cases l1 with
                | nil => cases h2
                | cons a l1 =>
                  dsimp only at h2
                  rw [bnd_mk (ext c r k 3 _ _ _ _ h1 (fun e => by cases e))]
                  show (if decide (6 ≤ a.f0 ∧ a.f0 ≤ 11) = true then bnd (PF k 3 (l1 ++ c :: r, o1)) (putF a.f0) else some none) = _
                  split at h2
                  · rename_i q
                    rw [if_pos q]
                    rcases bnd_some h2 with ⟨_, h3⟩ | ⟨⟨l2, o2⟩, h3, h4⟩
                    · cases h3
                    · obtain ⟨rfl, rfl⟩ := Prod.mk.inj (Option.some.inj (Option.some.inj h4))
                      rw [bnd_mk (ext c r k 3 _ _ _ _ h3 (fun e => (hp e).up (by omega)))]
                      rfl
                  · cases h2
        · rw [if_neg c2] at h ⊢
          by_cases c3 : lev = 3
          · subst c3
            rw [if_pos rfl] at h ⊢
            exact row 4 [3, 4] (by omega) (fun q => by have := q.2.2.1 (by omega); simp; omega) h
          · rw [if_neg c3] at h ⊢
            by_cases c4 : lev = 4
            · subst c4
              rw [if_pos rfl] at h ⊢
              exact row 5 [5] (by omega) (fun q => by have := q.2.2.2 (by omega); simp; omega) h
            · rw [if_neg c4] at h ⊢
              cases l with
              | nil => exact absurd rfl hne
              | cons a l =>
                dsimp only [List.cons_append] at h ⊢
                split at h
                · rename_i q
                  rw [if_pos q]
                  obtain ⟨rfl, rfl⟩ := Prod.mk.inj (Option.some.inj (Option.some.inj h))
                  rfl
                · rename_i q
                  rw [if_neg q]
                  split at h
                  · rename_i q
                    rw [if_pos q]
                    rcases bnd_some h with ⟨_, h2⟩ | ⟨⟨l1, o1⟩, h1, h2⟩
                    · cases h2
                    · obtain ⟨rfl, rfl⟩ := Prod.mk.inj (Option.some.inj (Option.some.inj h2))
                      rw [bnd_mk (ext c r k 5 _ _ _ _ h1 (fun e => ⟨fun q => by omega, fun q => by omega, fun q => by omega, fun q => by omega⟩))]
                      rfl
                  · rename_i q
                    rw [if_neg q]
                    split at h
                    · rename_i q
                      rw [if_pos q]
                      rcases bnd_some h with ⟨_, h2⟩ | ⟨⟨l1, o1⟩, h1, h2⟩
                      · cases h2
                      · unfold takeF at h2
                        split at h2
                        · rename_i q2
                          have hne1 : l1 ≠ [] := by rintro rfl; cases q2
                          obtain ⟨rfl, rfl⟩ := Prod.mk.inj (Option.some.inj (Option.some.inj h2))
                          rw [bnd_mk (ext c r k 3 _ _ _ _ h1 (fun e => absurd e hne1))]
                          unfold takeF
                          rw [seesF_app _ _ _ _ hne1, if_pos q2]
                          cases l1 with
                          | nil => exact absurd rfl hne1
                          | cons a l1 => rfl
                        · cases h2
                    · cases h
/-- A row goes on where it ended, if a sign of its own follows. -/
theorem cont_row {th : ST → Rz} {ks : List Int} {c : S33} {r : List S33}
    (hth : ∀ l o l' o', th (l, o) = some (some (l', o')) → th (l ++ c :: r, o) = some (some (l' ++ c :: r, o'))) :
    ∀ (k : Nat) (l o o' : List S33), rowL th ks k (l, o) = some (some ([], o')) → ∀ (k2 : Nat) (res : Option ST), rowL th ks k2 (c :: r, o') = some res → rowL th ks (k + k2) (l ++ c :: r, o) = some res
  | 0, _, _, _, h, _, _, _ => by cases h
  | k + 1, [], o, o', h, k2, res, h2 => by
    have := rowL_nil _ _ _ _ _ h
    obtain ⟨-, rfl⟩ := Prod.mk.inj (Option.some.inj this)
    exact rowL_mono th th ks (fun _ _ q => q) k2 (k + 1 + k2) _ _ (by omega) h2
  | k + 1, a :: l, o, o', h, k2, res, h2 => by
    rcases rowL_cons h with ⟨hc, h1⟩ | ⟨hc, ⟨_, h1⟩ | ⟨l1, o1, h1, h3⟩⟩
    · cases (Prod.mk.inj (Option.some.inj h1)).1
    · cases h1
    · have e : k + 1 + k2 = (k + k2) + 1 := by omega
      rw [e]
      show rowL th ks ((k + k2) + 1) (a :: (l ++ c :: r), o) = _
      rw [rowL_go hc (hth _ _ _ _ h1)]
      exact cont_row hth k l1 _ o' h3 k2 res h2
/-- What lies there before stays ahead. -/
def ahead (p : List S33) (r : Option ST) : Option ST := r.map fun s => (s.1, p ++ s.2)
theorem acc_row {th : ST → Rz} {ks : List Int} (p : List S33) (hth : ∀ l o r, th (l, o) = some r → th (l, p ++ o) = some (ahead p r)) :
    ∀ (k : Nat) (l o : List S33) (r : Option ST), rowL th ks k (l, o) = some r → rowL th ks k (l, p ++ o) = some (ahead p r)
  | 0, _, _, _, h => by cases h
  | k + 1, [], o, r, h => by
    obtain rfl := rowL_nil _ _ _ _ _ h
    rfl
  | k + 1, a :: l, o, r, h => by
    rcases rowL_cons h with ⟨hc, rfl⟩ | ⟨hc, ⟨h0, rfl⟩ | ⟨l1, o1, h1, h2⟩⟩
    · exact rowL_stop hc
    · simp only [rowL]
      rw [if_pos hc, bnd_mk_none (hth _ _ _ h0)]
      rfl
    · rw [rowL_go hc (hth _ _ _ h1), List.append_assoc]
      exact acc_row p hth k l1 _ r h2
theorem acc (p : List S33) : ∀ (k lev : Nat) (l o : List S33) (r : Option ST), PF k lev (l, o) = some r → PF k lev (l, p ++ o) = some (ahead p r)
  | 0, _, _, _, _, h => by cases h
  | k + 1, lev, l, o, r, h => by
    have ih := acc p k
    have row : ∀ lev2 ks, rowF (PF k lev2) ks k (l, o) = some r → rowF (PF k lev2) ks k (l, p ++ o) = some (ahead p r) := by
      intro lev2 ks h
      rcases rowF_some h with ⟨h1, rfl⟩ | ⟨l1, o1, h1, h2⟩
      · exact bnd_mk_none (ih _ _ _ _ h1)
      · rw [rowF_mk (ih _ _ _ _ h1)]
        exact acc_row p (fun l o r q => ih lev2 l o r q) k l1 o1 r h2
    have put : ∀ lev2 l kind, bnd (PF k lev2 (l, o)) (putF kind) = some r → bnd (PF k lev2 (l, p ++ o)) (putF kind) = some (ahead p r) := by
      intro lev2 l kind h
      rcases bnd_some h with ⟨h1, rfl⟩ | ⟨⟨l1, o1⟩, h1, h2⟩
      · exact bnd_mk_none (ih _ _ _ _ h1)
      · rw [bnd_mk (ih _ _ _ _ h1)]
        obtain rfl := Option.some.inj h2
        show some (some (l1, (p ++ o1) ++ [_])) = _
        rw [List.append_assoc]
        rfl
    have take : ∀ lev2 l kind, bnd (PF k lev2 (l, o)) (takeF kind) = some r → bnd (PF k lev2 (l, p ++ o)) (takeF kind) = some (ahead p r) := by
      intro lev2 l kind h
      rcases bnd_some h with ⟨h1, rfl⟩ | ⟨⟨l1, o1⟩, h1, h2⟩
      · exact bnd_mk_none (ih _ _ _ _ h1)
      · rw [bnd_mk (ih _ _ _ _ h1)]
        unfold takeF at h2
        show takeF kind (l1, p ++ o1) = _
        unfold takeF
        split at h2
        · rename_i q
          rw [if_pos (show seesF kind (l1, p ++ o1) = true from q)]
          obtain rfl := Option.some.inj h2
          rfl
        · rename_i q
          rw [if_neg (show ¬ seesF kind (l1, p ++ o1) = true from q)]
          obtain rfl := Option.some.inj h2
          rfl
    have hs : ∀ kind, seesF kind (l, p ++ o) = seesF kind (l, o) := fun _ => rfl
    rw [PF_succ] at h ⊢
    unfold stepF at h ⊢
    split at h
    · rename_i q; rw [if_pos q]; exact row _ _ h
    · rename_i q; rw [if_neg q]
      split at h
      · rename_i q; rw [if_pos q]; exact row _ _ h
      · rename_i q; rw [if_neg q]
        split at h
        · rename_i q; rw [if_pos q, hs, hs]
          split at h
          · rename_i q; rw [if_pos q]; exact put _ _ _ h
          · rename_i q; rw [if_neg q]
            split at h
            · rename_i q; rw [if_pos q]; exact take _ _ _ h
            · rename_i q; rw [if_neg q]
              rcases bnd_some h with ⟨h1, rfl⟩ | ⟨⟨l1, o1⟩, h1, h2⟩
              · exact bnd_mk_none (ih _ _ _ _ h1)
              · rw [bnd_mk (ih _ _ _ _ h1)]
                cases l1 with
                | nil => obtain rfl := Option.some.inj h2; rfl
                | cons a l1 =>
                  dsimp only at h2
                  show (if decide (6 ≤ a.f0 ∧ a.f0 ≤ 11) = true then bnd (PF k 3 (l1, p ++ o1)) (putF a.f0) else some none) = _
                  split at h2
                  · rename_i q
                    rw [if_pos q]
                    rcases bnd_some h2 with ⟨h3, rfl⟩ | ⟨⟨l2, o2⟩, h3, h4⟩
                    · exact bnd_mk_none (ih _ _ _ _ h3)
                    · rw [bnd_mk (ih _ _ _ _ h3)]
                      obtain rfl := Option.some.inj h4
                      show some (some (l2, (p ++ o2) ++ [_])) = _
                      rw [List.append_assoc]
                      rfl
                  · rename_i q
                    rw [if_neg q]
                    obtain rfl := Option.some.inj h2
                    rfl
        · rename_i q; rw [if_neg q]
          split at h
          · rename_i q; rw [if_pos q]; exact row _ _ h
          · rename_i q; rw [if_neg q]
            split at h
            · rename_i q; rw [if_pos q]; exact row _ _ h
            · rename_i q; rw [if_neg q]
              cases l with
              | nil => obtain rfl := Option.some.inj h; rfl
              | cons a l =>
                dsimp only at h ⊢
                split at h
                · rename_i q
                  rw [if_pos q]
                  obtain rfl := Option.some.inj h
                  show some (some (l, (p ++ o) ++ [a])) = _
                  rw [List.append_assoc]
                  rfl
                · rename_i q
                  rw [if_neg q]
                  split at h
                  · rename_i q; rw [if_pos q]; exact put _ _ _ h
                  · rename_i q
                    rw [if_neg q]
                    split at h
                    · rename_i q; rw [if_pos q]; exact take _ _ _ h
                    · rename_i q
                      rw [if_neg q]
                      obtain rfl := Option.some.inj h
                      rfl
end Go.Proofs.YtikbgoppmailjaaDoor.Pure
/- Guards in brackets, turned, joined. -/
namespace Go.Proofs.YtikbgoppmailjaaDoor.Pure
open Go.Proofs.YtikbgoppmailjaaDoor.H
set_option linter.unusedVariables false
set_option linter.unusedSimpArgs false
/-- The signs are a guard, and this is how it lies behind. -/
def Guard (x o : List S33) : Prop := ∃ k, PF k 0 (x, []) = some (some ([], o))
/-- With ! ahead. -/
theorem nt {l p t q : List S33} (n : Int) (h : ∃ k, PF k 2 (l, p) = some (some (t, q))) : ∃ k, PF k 2 ((⟨14, n⟩ : S33) :: l, p) = some (some (t, q ++ [(⟨14, 0⟩ : S33)])) := by
  obtain ⟨k, hk⟩ := h
  refine ⟨k + 1, ?_⟩
  rw [PF_succ, step2, if_pos (show seesF 14 _ = true by show ((14 : Int) == 14) = true; decide)]
  show bnd (PF k 2 (l, p)) (putF 14) = _
  rw [bnd_mk hk]
  rfl
/-- One level up, at the end. -/
theorem up_end {lev lev2 : Nat} {ks : List Int} (hs : ∀ k st, PF (k + 1) lev st = rowF (PF k lev2) ks k st) {l p q : List S33} (h : ∃ k, PF k lev2 (l, p) = some (some ([], q))) : ∃ k, PF k lev (l, p) = some (some ([], q)) := by
  obtain ⟨k, hk⟩ := h
  refine ⟨k + 2, ?_⟩
  rw [hs, rowF_mk (PF_mono (by omega) hk)]
  rfl
end Go.Proofs.YtikbgoppmailjaaDoor.Pure
/- What the reader lays behind is a guard, behind. -/
namespace Go.Proofs.YtikbgoppmailjaaDoor.Pure
open Go.Proofs.YtikbgoppmailjaaDoor.H
set_option linter.unusedVariables false
set_option linter.unusedSimpArgs false
/-- A guard (true), or a number (false), behind. -/
inductive Post : Bool → List S33 → Prop
  | num (n : Int) : 0 ≤ n → n ≤ 2147483647 → Post false [⟨1, n⟩]
  | name (n : Int) : 0 ≤ n → n < 26 → Post false [⟨2, n⟩]
  | neg {p} : Post false p → Post false (p ++ [⟨19, 0⟩])
  | op {p q} (k : Int) : 3 ≤ k → k ≤ 5 → Post false p → Post false q → Post false (p ++ q ++ [⟨k, 0⟩])
  | cmp {p q} (k : Int) : 6 ≤ k → k ≤ 11 → Post false p → Post false q → Post true (p ++ q ++ [⟨k, 0⟩])
  | con {p q} (k : Int) : (k = 12 ∨ k = 13) → Post true p → Post true q → Post true (p ++ q ++ [⟨k, 0⟩])
  | nt {p} : Post true p → Post true (p ++ [⟨14, 0⟩])
/-- What a sign that is read may be. -/
def tok (s : S33) : Prop := (s.f0 = 1 → 0 ≤ s.f1 ∧ s.f1 ≤ 2147483647) ∧ (s.f0 = 2 → 0 ≤ s.f1 ∧ s.f1 ≤ 25)
def Lays (b : Bool) (th : ST → Rz) : Prop := ∀ l o l' o', (∀ s ∈ l, tok s) → th (l, o) = some (some (l', o')) → (∀ s ∈ l', tok s) ∧ ∃ p, Post b p ∧ o' = o ++ p
theorem lays_row {b : Bool} {th : ST → Rz} {ks : List Int} (hth : Lays b th) (hop : ∀ k, ks.contains k = true → ∀ p q, Post b p → Post b q → Post b (p ++ q ++ [⟨k, 0⟩])) :
    ∀ (k : Nat) (l o p l' o' : List S33), (∀ s ∈ l, tok s) → Post b p → rowL th ks k (l, o ++ p) = some (some (l', o')) → (∀ s ∈ l', tok s) ∧ ∃ p, Post b p ∧ o' = o ++ p
  | 0, _, _, _, _, _, _, _, h => by cases h
  | k + 1, [], o, p, l', o', ht, hp, h => by
    obtain ⟨rfl, rfl⟩ := Prod.mk.inj (Option.some.inj (rowL_nil _ _ _ _ _ h))
    exact ⟨ht, p, hp, rfl⟩
  | k + 1, a :: l, o, p, l', o', ht, hp, h => by
    rcases rowL_cons h with ⟨hc, h1⟩ | ⟨hc, ⟨_, h1⟩ | ⟨l1, o1, h1, h2⟩⟩
    · obtain ⟨rfl, rfl⟩ := Prod.mk.inj (Option.some.inj h1)
      exact ⟨ht, p, hp, rfl⟩
    · cases h1
    · obtain ⟨ht1, q, hq, rfl⟩ := hth _ _ _ _ (fun s hs => ht s (by simp [hs])) h1
      have e : o ++ p ++ q ++ [(⟨a.f0, 0⟩ : S33)] = o ++ (p ++ q ++ [(⟨a.f0, 0⟩ : S33)]) := by simp
      rw [e] at h2
      exact lays_row hth hop k l1 o _ l' o' ht1 (hop _ hc _ _ hp hq) h2
theorem lays_rowF {b : Bool} {th : ST → Rz} {ks : List Int} (hth : Lays b th) (hop : ∀ k, ks.contains k = true → ∀ p q, Post b p → Post b q → Post b (p ++ q ++ [⟨k, 0⟩])) (k : Nat) : Lays b (rowF th ks k) := by
  intro l o l' o' ht h
  rcases rowF_some h with ⟨_, h2⟩ | ⟨l1, o1, h1, h2⟩
  · cases h2
  · obtain ⟨ht1, p, hp, rfl⟩ := hth _ _ _ _ ht h1
    exact lays_row hth hop k l1 o p l' o' ht1 hp h2
theorem lays : ∀ (k lev : Nat), Lays (decide (lev ≤ 2)) (PF k lev)
  | 0, _ => fun _ _ _ _ _ h => by cases h
  | k + 1, lev => by
    intro l o l' o' ht h
    have ih := lays k
    rw [PF_succ] at h
    unfold stepF at h
    have htl : ∀ {a : S33} {t : List S33}, l = a :: t → ∀ s ∈ t, tok s := by
      rintro a t rfl s hs
      exact ht s (by simp [hs])
    have htt : ∀ s ∈ l.tail, tok s := fun s hs => ht s (List.mem_of_mem_tail hs)
    by_cases c0 : lev = 0
    · subst c0
      rw [if_pos rfl] at h
      exact lays_rowF (b := true) (ih 1) (fun k hk p q hp hq => by have e : k = 13 := by simpa using hk
                                                                   exact Post.con k (Or.inr e) hp hq) k l o l' o' ht h
    · rw [if_neg c0] at h
      by_cases c1 : lev = 1
      · subst c1
        rw [if_pos rfl] at h
        exact lays_rowF (b := true) (ih 2) (fun k hk p q hp hq => by have e : k = 12 := by simpa using hk
                                                                     exact Post.con k (Or.inl e) hp hq) k l o l' o' ht h
      · rw [if_neg c1] at h
        by_cases c2 : lev = 2
        · subst c2
          rw [if_pos rfl] at h
          dsimp only at h
          split at h
          · rcases bnd_some h with ⟨_, h2⟩ | ⟨⟨l1, o1⟩, h1, h2⟩
            · cases h2
            · obtain ⟨rfl, rfl⟩ := Prod.mk.inj (Option.some.inj (Option.some.inj h2))
              obtain ⟨ht1, p, hp, rfl⟩ := ih 2 _ _ _ _ htt h1
              exact ⟨ht1, _, Post.nt hp, by simp⟩
          · split at h
            · rcases bnd_some h with ⟨_, h2⟩ | ⟨⟨l1, o1⟩, h1, h2⟩
              · cases h2
              · obtain ⟨ht1, p, hp, rfl⟩ := ih 0 _ _ _ _ htt h1
                unfold takeF at h2
                split at h2
                · obtain ⟨rfl, rfl⟩ := Prod.mk.inj (Option.some.inj (Option.some.inj h2))
                  exact ⟨fun s hs => ht1 s (List.mem_of_mem_tail hs), p, hp, rfl⟩
                · cases h2
            · rcases bnd_some h with ⟨_, h2⟩ | ⟨⟨l1, o1⟩, h1, h2⟩
              · cases h2
              · obtain ⟨ht1, p, hp, rfl⟩ := ih 3 _ _ _ _ ht h1
                cases l1 with
                | nil => cases h2
                | cons a l1 =>
                  dsimp only at h2
                  split at h2
                  · rename_i q
                    rcases bnd_some h2 with ⟨_, h3⟩ | ⟨⟨l2, o2⟩, h3, h4⟩
                    · cases h3
                    · obtain ⟨rfl, rfl⟩ := Prod.mk.inj (Option.some.inj (Option.some.inj h4))
                      obtain ⟨ht2, p2, hp2, rfl⟩ := ih 3 _ _ _ _ (fun s hs => ht1 s (by simp [hs])) h3
                      have q2 := of_decide_eq_true q
                      exact ⟨ht2, _, Post.cmp a.f0 q2.1 q2.2 hp hp2, by simp⟩
                  · cases h2
        · rw [if_neg c2] at h
          by_cases c3 : lev = 3
          · subst c3
            rw [if_pos rfl] at h
            exact lays_rowF (b := false) (ih 4) (fun k hk p q hp hq => by have e : k = 3 ∨ k = 4 := by simpa using hk
                                                                          exact Post.op k (by omega) (by omega) hp hq) k l o l' o' ht h
          · rw [if_neg c3] at h
            by_cases c4 : lev = 4
            · subst c4
              rw [if_pos rfl] at h
              exact lays_rowF (b := false) (ih 5) (fun k hk p q hp hq => by have e : k = 5 := by simpa using hk
                                                                            exact Post.op k (by omega) (by omega) hp hq) k l o l' o' ht h
            · rw [if_neg c4] at h
              have hd : decide (lev ≤ 2) = false := decide_eq_false (by omega)
              rw [hd]
              cases l with
              | nil => cases h
              | cons a l =>
                dsimp only at h
                have hta := ht a (by simp)
                split at h
                · rename_i q
                  obtain ⟨rfl, rfl⟩ := Prod.mk.inj (Option.some.inj (Option.some.inj h))
                  refine ⟨htl rfl, [a], ?_, rfl⟩
                  obtain ⟨a0, a1⟩ := a
                  rcases q with q | q
                  · obtain rfl : a0 = 1 := q
                    exact Post.num _ (hta.1 rfl).1 (hta.1 rfl).2
                  · obtain rfl : a0 = 2 := q
                    exact Post.name _ (hta.2 rfl).1 (by have := (hta.2 rfl).2; show a1 < 26; have e : (a1 : Int) ≤ 25 := this; omega)
                · split at h
                  · rcases bnd_some h with ⟨_, h2⟩ | ⟨⟨l1, o1⟩, h1, h2⟩
                    · cases h2
                    · obtain ⟨rfl, rfl⟩ := Prod.mk.inj (Option.some.inj (Option.some.inj h2))
                      obtain ⟨ht1, p, hp, rfl⟩ := ih 5 _ _ _ _ (htl rfl) h1
                      exact ⟨ht1, _, Post.neg hp, by simp⟩
                  · split at h
                    · rcases bnd_some h with ⟨_, h2⟩ | ⟨⟨l1, o1⟩, h1, h2⟩
                      · cases h2
                      · obtain ⟨ht1, p, hp, rfl⟩ := ih 3 _ _ _ _ (htl rfl) h1
                        unfold takeF at h2
                        split at h2
                        · obtain ⟨rfl, rfl⟩ := Prod.mk.inj (Option.some.inj (Option.some.inj h2))
                          exact ⟨fun s hs => ht1 s (List.mem_of_mem_tail hs), p, hp, rfl⟩
                        · cases h2
                    · cases h
theorem guard_post {x o : List S33} (hx : ∀ s ∈ x, tok s) (h : Guard x o) : Post true o := by
  obtain ⟨k, hk⟩ := h
  obtain ⟨_, p, hp, rfl⟩ := lays k 0 _ _ _ _ hx hk
  exact hp
end Go.Proofs.YtikbgoppmailjaaDoor.Pure
/- Small laws of this session, over any program: an operation met by its run; a scope with several labels. -/
namespace Go.HK
open Go Go.RowKit

theorem wpList_doTo {P : Program} {ops : Array Oper} {rest : List Oper} {o : Oper} {a : Act} {w : World} {Q : Exit → Act → World → Prop} (hg : o.guard = none) (w' : World)
    (hrun : (execOp a.eval o).run P w = .ok .skip w')
    (h : wpList P ops Q rest (a.put o.dst undef) w') : wpList P ops Q (o :: rest) a w := by
  refine wpList_plain hg fun K hK => ?_
  unfold Oper.wp
  rw [hrun, Oper.upon_skip]
  exact hK _ _ h
theorem results_cell1 {fn : Func} {p : Tmp} {ty : TypeId} (h : fn.results = #[.cell p ty]) (tmps : Array Value) (P : Program) (w w' : World) (ad : Addr) (v : Value) (hp : tmps.getD p undef = .pointer (some ad)) (hl : (loadVar ty ad).run P w = .ok v w') :
    (results fn tmps).run P w = .ok v w' := by
  simp only [results, h]
  simp only [List.mapM_toArray, List.mapM_cons, List.mapM_nil, hp, asAddr]
  simp [hl]
theorem exec_store {P : Program} {ρ : Operand → Value} {o : Oper} {t : TypeId} {a x : Operand} (ho : o.op = .store t a x) {w w' : World} (h : (Instr.storeAt t (ρ a) (ρ x)).run P w = .ok () w') : (execOp ρ o).run P w = .ok .skip w' := by
  unfold execOp
  rw [ho]
  simp only [Sem.run_bind, h, Result.andThen]
  rfl
theorem exec_index {P : Program} {ρ : Operand → Value} {o : Oper} {t : TypeId} {a x : Operand} (ho : o.op = .index t a x) {w w' : World} {v : Value} (h : (Instr.index t (ρ a) (ρ x)).run P w = .ok v w') : (execOp ρ o).run P w = .ok (.value v) w' := by
  unfold execOp
  rw [ho]
  simp only [Sem.run_bind, h, Result.andThen]
  rfl

/-- As Q; by a goto to label l: J l. -/
def jumps (J : Nat → Act → World → Prop) (Q : Exit → Act → World → Prop) : Exit → Act → World → Prop
  | .goto l, a, w => J l a w
  | e, a, w => Q e a w

section
variable {P : Program} {a : Act} {w : World} {Q : Exit → Act → World → Prop}
theorem jumps_ret {J : Nat → Act → World → Prop} (h : Q .ret a w) : jumps J Q .ret a w := h
theorem wp_scope_labels {c : Code} (I : Nat → Nat → Act → World → Prop)
    (pass : ∀ l n a w, I l n a w → ∀ K : Nat → Act → World → Prop, (∀ l' n' a' w', n' < n → I l' n' a' w' → K l' a' w') → ∃ rest, findLabel c l = some (.seq .skip rest) ∧ rest.wp P (jumps K Q) a w)
    (first : ∀ K : Nat → Act → World → Prop, (∀ l n a' w', I l n a' w' → K l a' w') → (∀ l rest, findLabel c l = some (.seq .skip rest) → ∀ n a' w', I l n a' w' → rest.wp P (jumps K Q) a' w') → c.wp P (jumps K Q) a w) : (Code.scope c).wp P Q a w := by
  intro b k cs
  have key : ∀ n l a w, I l n a w → ∃ rest, findLabel c l = some rest ∧ ∃ e a' w', Q e a' w' ∧ Arrives P (lone (b.at a (.code rest :: .inScope c :: k)) cs w) b k cs e a' w' := by
    intro n
    induction n using Nat.strongRecOn with
    | _ n ih =>
      intro l a w hJ
      obtain ⟨rest, hr, hw0⟩ := pass l n a w hJ (fun l' a' w' => ∃ n', n' < n ∧ I l' n' a' w') (fun l' n' a' w' h1 h2 => ⟨n', h1, h2⟩)
      refine ⟨_, hr, ?_⟩
      have hw := wp_seq (x := Code.skip) (y := rest) (P := P) (Q := jumps (fun l' a' w' => ∃ n', n' < n ∧ I l' n' a' w') Q) (wp_skip hw0)
      obtain ⟨e, a₁, w₁, hq, harr⟩ := hw b (.inScope c :: k) cs
      cases e with
      | normal => exact ⟨.normal, a₁, w₁, hq, Steps.trans harr (.one step_inScope)⟩
      | exit id => exact ⟨.exit id, a₁, w₁, hq, fun k' hk => harr k' (by simp [exitTo, hk])⟩
      | goto l' =>
        obtain ⟨n', hlt, hJ'⟩ := hq
        obtain ⟨rest', hr', e₂, a₂, w₂, hq₂, harr₂⟩ := ih n' hlt l' a₁ w₁ hJ'
        exact ⟨e₂, a₂, w₂, hq₂, .of_steps (harr _ (by simp [gotoIn, hr'])) harr₂⟩
      | ret => exact ⟨_, a₁, w₁, hq, harr⟩
      | panic ch => exact ⟨_, a₁, w₁, hq, harr⟩
      | outgrown => exact ⟨_, a₁, w₁, hq, harr⟩
  obtain ⟨e, a₁, w₁, hq, harr⟩ := first (fun l a w => ∃ n, I l n a w) (fun l n a' w' h => ⟨n, h⟩) (fun l rest hr n a' w' h => by
    obtain ⟨rest', hr', hw⟩ := pass l n a' w' h (fun l a w => ∃ n, I l n a w) (fun l' n' a' w' _ h2 => ⟨n', h2⟩)
    rw [hr] at hr'
    simp only [Option.some.injEq, Code.seq.injEq, true_and] at hr'
    subst hr'
    exact hw) b (.inScope c :: k) cs
  cases e with
  | normal => exact ⟨.normal, a₁, w₁, hq, .head step_scope (Steps.trans harr (.one step_inScope))⟩
  | exit id => exact ⟨.exit id, a₁, w₁, hq, fun k' hk => .head step_scope (harr k' (by simp [exitTo, hk]))⟩
  | goto l' =>
    obtain ⟨n', hJ'⟩ := hq
    obtain ⟨rest', hr', e₂, a₂, w₂, hq₂, harr₂⟩ := key n' l' a₁ w₁ hJ'
    exact ⟨e₂, a₂, w₂, hq₂, .of_steps (.head step_scope (harr _ (by simp [gotoIn, hr']))) harr₂⟩
  | ret => exact ⟨_, a₁, w₁, hq, .of_steps (.one step_scope) harr⟩
  | panic ch => exact ⟨_, a₁, w₁, hq, .of_steps (.one step_scope) harr⟩
  | outgrown => exact ⟨_, a₁, w₁, hq, .of_steps (.one step_scope) harr⟩
end
end Go.HK
/- The shelf's contracts at this dump, in plain words (lay-plain.mjs), only those that are used. -/
namespace Go.Proofs
open Go.Shelf
def Tryd.lays156_ren : Go.Shelf.Ren := ⟨fun | 156 => 28 | 165 => 41 | 166 => 42 | 169 => 43 | 240 => 56 | 241 => 57 | 276 => 71 | 277 => 72 | n => n, fun | 31 => 44 | 9 => 9 | 3 => 3 | 4 => 4 | 0 => 0 | 20 => 20 | 72 => 82 | 76 => 74 | 70 => 80 | 37 => 64 | 75 => 58 | 127 => 95 | 164 => 108 | 5 => 5 | 80 => 84 | n => n, fun | n => n⟩
theorem Tryd.lays156 : Go.Proofs.Lays.n156 Tryd.prog Tryd.lays156_ren := {
  mixed := by kernel_rfl
  f156 := Tryd.func28.trans (congrArg some (by kernel_rfl))
  f165 := Tryd.func41.trans (congrArg some (by kernel_rfl))
  f166 := Tryd.func42.trans (congrArg some (by kernel_rfl))
  f169 := Tryd.func43.trans (congrArg some (by kernel_rfl))
  f240 := Tryd.func56.trans (congrArg some (by kernel_rfl))
  f241 := Tryd.func57.trans (congrArg some (by kernel_rfl))
  f276 := Tryd.func71.trans (congrArg some (by kernel_rfl))
  f277 := Tryd.func72.trans (congrArg some (by kernel_rfl))
  t0 := Tryd.underlying0
  a0 := Tryd.isAgg0
  z0 := Tryd.sizeOf0
  v0 := Tryd.zeroValue0
  t3 := Tryd.underlying3
  a3 := Tryd.isAgg3
  z3 := Tryd.sizeOf3
  v3 := Tryd.zeroValue3
  t4 := Tryd.underlying4
  a4 := Tryd.isAgg4
  z4 := Tryd.sizeOf4
  v4 := Tryd.zeroValue4
  t9 := Tryd.underlying9
  a9 := Tryd.isAgg9
  z9 := Tryd.sizeOf9
  v9 := Tryd.zeroValue9
  t20 := Tryd.underlying20
  a20 := Tryd.isAgg20
  z20 := Tryd.sizeOf20
  v20 := Tryd.zeroValue20
  t31 := Tryd.underlying44
  a31 := Tryd.isAgg44
  z31 := Tryd.sizeOf44
  v31 := Tryd.zeroValue44
  t37 := Tryd.underlying64
  a37 := Tryd.isAgg64
  z37 := Tryd.sizeOf64
  v37 := Tryd.zeroValue64
  t70 := Tryd.underlying80
  a70 := Tryd.isAgg80
  z70 := Tryd.sizeOf80
  v70 := Tryd.zeroValue80
  t72 := Tryd.underlying82
  a72 := Tryd.isAgg82
  z72 := Tryd.sizeOf82
  v72 := Tryd.zeroValue82
  t75 := Tryd.underlying58
  a75 := Tryd.isAgg58
  z75 := Tryd.sizeOf58
  v75 := Tryd.zeroValue58
  t76 := Tryd.underlying74
  a76 := Tryd.isAgg74
  z76 := Tryd.sizeOf74
  v76 := Tryd.zeroValue74
  t127 := Tryd.underlying95
  a127 := Tryd.isAgg95
  z127 := Tryd.sizeOf95
  v127 := Tryd.zeroValue95
  t164 := Tryd.underlying108
  a164 := Tryd.isAgg108
  z164 := Tryd.sizeOf108
  v164 := Tryd.zeroValue108 }
theorem Tryd.Builder_Extra_156 : Builder.Extra Tryd.prog Tryd.lays156_ren := {
  sizeBuilder := by kernel_rfl
  liesBuilder := by kernel_rfl
  t5 := Tryd.underlying5
  a5 := Tryd.isAgg5
  z5 := Tryd.sizeOf5
  v5 := Tryd.zeroValue5
  infoByte := by kernel_rfl
  cellsByte := by kernel_rfl
  sizeByte := by kernel_rfl
  neB5 := by decide }
open Go.RowKit in
theorem Tryd.strings_Join_none (a : Option Addr) (c : Nat) (sep : ByteArray) (w : World) :
    Calls Tryd.prog 28 #[.slice a 0 c, .string sep] w fun e w' => e = .returned (.string ⟨#[]⟩) ∧ w' = w := Any.strings_Join_none Tryd.lays156 Tryd.Builder_Extra_156 a c sep w
open Go.RowKit in
theorem Tryd.strings_Join (bk o c : Nat) (xs : List ByteArray) (sep : ByteArray) (w : World) (hcells : ∀ (j : Nat) x, xs[j]? = some x → w.cell? ⟨bk, o + j, none⟩ = some (.string x)) (hbk : bk < w.heap.size) (hN : xs.length ≤ 140737488355328) (hcap : xs.length ≤ c) (hlen : (Lib.join (xs.map (·.data.toList)) sep.data.toList).length ≤ 140737488355328) :
    Calls Tryd.prog 28 #[.slice (some ⟨bk, o, none⟩) xs.length c, .string sep] w fun e w' => e = .returned (.string ⟨(Lib.join (xs.map (·.data.toList)) sep.data.toList).toArray⟩) ∧ Below w.heap.size w w' := Any.strings_Join Tryd.lays156 Tryd.Builder_Extra_156 bk o c xs sep w hcells hbk hN hcap hlen
def Tryd.lays161_ren : Go.Shelf.Ren := ⟨fun | 161 => 31 | 231 => 44 | 227 => 45 | 233 => 46 | 235 => 47 | 228 => 58 | 197 => 59 | 151 => 60 | 260 => 73 | 152 => 74 | 137 => 83 | 119 => 84 | 224 => 85 | 225 => 86 | 217 => 95 | 266 => 98 | n => n, fun | 9 => 9 | 4 => 4 | 3 => 3 | 5 => 5 | 117 => 88 | 116 => 87 | 0 => 0 | 124 => 91 | 105 => 97 | 21 => 21 | 119 => 124 | 46 => 114 | 139 => 127 | 138 => 126 | n => n, fun | 3 => 4 | 4 => 5 | n => n⟩
theorem Tryd.lays161 : Go.Proofs.Lays.n161 Tryd.prog Tryd.lays161_ren := {
  mixed := by kernel_rfl
  f119 := Tryd.func84.trans (congrArg some (by kernel_rfl))
  f137 := Tryd.func83.trans (congrArg some (by kernel_rfl))
  f151 := Tryd.func60.trans (congrArg some (by kernel_rfl))
  f152 := Tryd.func74.trans (congrArg some (by kernel_rfl))
  f161 := Tryd.func31.trans (congrArg some (by kernel_rfl))
  f197 := Tryd.func59.trans (congrArg some (by kernel_rfl))
  f217 := Tryd.func95.trans (congrArg some (by kernel_rfl))
  f224 := Tryd.func85.trans (congrArg some (by kernel_rfl))
  f225 := Tryd.func86.trans (congrArg some (by kernel_rfl))
  f227 := Tryd.func45.trans (congrArg some (by kernel_rfl))
  f228 := Tryd.func58.trans (congrArg some (by kernel_rfl))
  f231 := Tryd.func44.trans (congrArg some (by kernel_rfl))
  f233 := Tryd.func46.trans (congrArg some (by kernel_rfl))
  f235 := Tryd.func47.trans (congrArg some (by kernel_rfl))
  f260 := Tryd.func73.trans (congrArg some (by kernel_rfl))
  f266 := Tryd.func98.trans (congrArg some (by kernel_rfl))
  t0 := Tryd.underlying0
  a0 := Tryd.isAgg0
  z0 := Tryd.sizeOf0
  v0 := Tryd.zeroValue0
  t3 := Tryd.underlying3
  a3 := Tryd.isAgg3
  z3 := Tryd.sizeOf3
  v3 := Tryd.zeroValue3
  t4 := Tryd.underlying4
  a4 := Tryd.isAgg4
  z4 := Tryd.sizeOf4
  v4 := Tryd.zeroValue4
  t5 := Tryd.underlying5
  a5 := Tryd.isAgg5
  z5 := Tryd.sizeOf5
  v5 := Tryd.zeroValue5
  t9 := Tryd.underlying9
  a9 := Tryd.isAgg9
  z9 := Tryd.sizeOf9
  v9 := Tryd.zeroValue9
  t21 := Tryd.underlying21
  a21 := Tryd.isAgg21
  z21 := Tryd.sizeOf21
  v21 := Tryd.zeroValue21
  t46 := Tryd.underlying114
  a46 := Tryd.isAgg114
  z46 := Tryd.sizeOf114
  v46 := Tryd.zeroValue114
  t105 := Tryd.underlying97
  a105 := Tryd.isAgg97
  z105 := Tryd.sizeOf97
  v105 := Tryd.zeroValue97
  t116 := Tryd.underlying87
  a116 := Tryd.isAgg87
  z116 := Tryd.sizeOf87
  t117 := Tryd.underlying88
  a117 := Tryd.isAgg88
  z117 := Tryd.sizeOf88
  v117 := Tryd.zeroValue88
  t119 := Tryd.underlying124
  a119 := Tryd.isAgg124
  z119 := Tryd.sizeOf124
  t124 := Tryd.underlying91
  a124 := Tryd.isAgg91
  z124 := Tryd.sizeOf91
  v124 := Tryd.zeroValue91
  t138 := Tryd.underlying126
  a138 := Tryd.isAgg126
  z138 := Tryd.sizeOf126
  v138 := Tryd.zeroValue126
  t139 := Tryd.underlying127
  a139 := Tryd.isAgg127
  z139 := Tryd.sizeOf127
  v139 := Tryd.zeroValue127
  g3 := by kernel_rfl
  g4 := by kernel_rfl }
open Go.RowKit in
theorem Tryd.strings_TrimLeft_one (s : ByteArray) (c : UInt8) (hc : c.toNat < 128) (w : World) :
    Calls Tryd.prog 31 #[.string s, .string ⟨#[c]⟩] w fun e w' => e = .returned (.string ⟨(Lib.trimLeftB s.data.toList c).toArray⟩) ∧ w' = w := Any.strings_TrimLeft_one Tryd.lays161 s c hc w
def Tryd.lays172_ren : Go.Shelf.Ren := ⟨fun | 172 => 34 | 244 => 49 | 245 => 50 | 247 => 62 | 279 => 63 | 280 => 64 | 281 => 65 | 282 => 66 | 287 => 75 | 316 => 76 | 171 => 39 | 205 => 77 | 321 => 87 | 322 => 88 | 243 => 55 | 246 => 70 | 283 => 79 | 284 => 80 | 285 => 81 | 286 => 82 | 129 => 91 | 317 => 90 | 318 => 92 | 319 => 93 | 320 => 94 | 337 => 96 | 338 => 97 | n => n, fun | 9 => 9 | 3 => 3 | 75 => 58 | 76 => 74 | 4 => 4 | 5 => 5 | 167 => 100 | 37 => 64 | 0 => 0 | 85 => 101 | 2 => 2 | 168 => 103 | 53 => 63 | 175 => 112 | 46 => 114 | 210 => 117 | 127 => 95 | 145 => 136 | 143 => 134 | 21 => 21 | 171 => 119 | 173 => 122 | 212 => 138 | 51 => 139 | 20 => 20 | 213 => 140 | 232 => 143 | 233 => 144 | 80 => 84 | n => n, fun | 15 => 1 | 16 => 2 | 17 => 6 | 18 => 7 | 19 => 8 | n => n⟩
theorem Tryd.lays172 : Go.Proofs.Lays.n172 Tryd.prog Tryd.lays172_ren := {
  mixed := by kernel_rfl
  f129 := Tryd.func91.trans (congrArg some (by kernel_rfl))
  f171 := Tryd.func39.trans (congrArg some (by kernel_rfl))
  f172 := Tryd.func34.trans (congrArg some (by kernel_rfl))
  f205 := Tryd.func77.trans (congrArg some (by kernel_rfl))
  f243 := Tryd.func55.trans (congrArg some (by kernel_rfl))
  f244 := Tryd.func49.trans (congrArg some (by kernel_rfl))
  f245 := Tryd.func50.trans (congrArg some (by kernel_rfl))
  f246 := Tryd.func70.trans (congrArg some (by kernel_rfl))
  f247 := Tryd.func62.trans (congrArg some (by kernel_rfl))
  f279 := Tryd.func63.trans (congrArg some (by kernel_rfl))
  f280 := Tryd.func64.trans (congrArg some (by kernel_rfl))
  f281 := Tryd.func65.trans (congrArg some (by kernel_rfl))
  f282 := Tryd.func66.trans (congrArg some (by kernel_rfl))
  f283 := Tryd.func79.trans (congrArg some (by kernel_rfl))
  f284 := Tryd.func80.trans (congrArg some (by kernel_rfl))
  f285 := Tryd.func81.trans (congrArg some (by kernel_rfl))
  f286 := Tryd.func82.trans (congrArg some (by kernel_rfl))
  f287 := Tryd.func75.trans (congrArg some (by kernel_rfl))
  f316 := Tryd.func76.trans (congrArg some (by kernel_rfl))
  f317 := Tryd.func90.trans (congrArg some (by kernel_rfl))
  f318 := Tryd.func92.trans (congrArg some (by kernel_rfl))
  f319 := Tryd.func93.trans (congrArg some (by kernel_rfl))
  f320 := Tryd.func94.trans (congrArg some (by kernel_rfl))
  f321 := Tryd.func87.trans (congrArg some (by kernel_rfl))
  f322 := Tryd.func88.trans (congrArg some (by kernel_rfl))
  f337 := Tryd.func96.trans (congrArg some (by kernel_rfl))
  f338 := Tryd.func97.trans (congrArg some (by kernel_rfl))
  t0 := Tryd.underlying0
  a0 := Tryd.isAgg0
  z0 := Tryd.sizeOf0
  v0 := Tryd.zeroValue0
  t2 := Tryd.underlying2
  a2 := Tryd.isAgg2
  z2 := Tryd.sizeOf2
  v2 := Tryd.zeroValue2
  t3 := Tryd.underlying3
  a3 := Tryd.isAgg3
  z3 := Tryd.sizeOf3
  v3 := Tryd.zeroValue3
  t4 := Tryd.underlying4
  a4 := Tryd.isAgg4
  z4 := Tryd.sizeOf4
  v4 := Tryd.zeroValue4
  t5 := Tryd.underlying5
  a5 := Tryd.isAgg5
  z5 := Tryd.sizeOf5
  v5 := Tryd.zeroValue5
  t9 := Tryd.underlying9
  a9 := Tryd.isAgg9
  z9 := Tryd.sizeOf9
  v9 := Tryd.zeroValue9
  t20 := Tryd.underlying20
  a20 := Tryd.isAgg20
  z20 := Tryd.sizeOf20
  v20 := Tryd.zeroValue20
  t21 := Tryd.underlying21
  a21 := Tryd.isAgg21
  z21 := Tryd.sizeOf21
  v21 := Tryd.zeroValue21
  t37 := Tryd.underlying64
  a37 := Tryd.isAgg64
  z37 := Tryd.sizeOf64
  v37 := Tryd.zeroValue64
  t46 := Tryd.underlying114
  a46 := Tryd.isAgg114
  z46 := Tryd.sizeOf114
  v46 := Tryd.zeroValue114
  t51 := Tryd.underlying139
  a51 := Tryd.isAgg139
  z51 := Tryd.sizeOf139
  v51 := Tryd.zeroValue139
  t53 := Tryd.underlying63
  a53 := Tryd.isAgg63
  z53 := Tryd.sizeOf63
  v53 := Tryd.zeroValue63
  t75 := Tryd.underlying58
  a75 := Tryd.isAgg58
  z75 := Tryd.sizeOf58
  v75 := Tryd.zeroValue58
  t76 := Tryd.underlying74
  a76 := Tryd.isAgg74
  z76 := Tryd.sizeOf74
  v76 := Tryd.zeroValue74
  t85 := Tryd.underlying101
  a85 := Tryd.isAgg101
  z85 := Tryd.sizeOf101
  v85 := Tryd.zeroValue101
  t127 := Tryd.underlying95
  a127 := Tryd.isAgg95
  z127 := Tryd.sizeOf95
  v127 := Tryd.zeroValue95
  t143 := Tryd.underlying134
  a143 := Tryd.isAgg134
  z143 := Tryd.sizeOf134
  v143 := Tryd.zeroValue134
  t145 := Tryd.underlying136
  a145 := Tryd.isAgg136
  z145 := Tryd.sizeOf136
  v145 := Tryd.zeroValue136
  t167 := Tryd.underlying100
  a167 := Tryd.isAgg100
  z167 := Tryd.sizeOf100
  v167 := Tryd.zeroValue100
  t168 := Tryd.underlying103
  a168 := Tryd.isAgg103
  z168 := Tryd.sizeOf103
  v168 := Tryd.zeroValue103
  t171 := Tryd.underlying119
  a171 := Tryd.isAgg119
  z171 := Tryd.sizeOf119
  v171 := Tryd.zeroValue119
  t173 := Tryd.underlying122
  a173 := Tryd.isAgg122
  z173 := Tryd.sizeOf122
  v173 := Tryd.zeroValue122
  t175 := Tryd.underlying112
  a175 := Tryd.isAgg112
  z175 := Tryd.sizeOf112
  v175 := Tryd.zeroValue112
  t210 := Tryd.underlying117
  a210 := Tryd.isAgg117
  z210 := Tryd.sizeOf117
  v210 := Tryd.zeroValue117
  t212 := Tryd.underlying138
  a212 := Tryd.isAgg138
  z212 := Tryd.sizeOf138
  v212 := Tryd.zeroValue138
  t213 := Tryd.underlying140
  a213 := Tryd.isAgg140
  z213 := Tryd.sizeOf140
  t232 := Tryd.underlying143
  a232 := Tryd.isAgg143
  z232 := Tryd.sizeOf143
  v232 := Tryd.zeroValue143
  t233 := Tryd.underlying144
  a233 := Tryd.isAgg144
  z233 := Tryd.sizeOf144
  v233 := Tryd.zeroValue144
  g15 := by kernel_rfl
  g16 := by kernel_rfl
  g17 := by kernel_rfl
  g18 := by kernel_rfl
  g19 := by kernel_rfl }
open Go.RowKit in
theorem Tryd.strconv_Atoi (s : ByteArray) (n : Int) (hl : s.size ≤ 18) (h : Lib.atoi s.data.toList = some n) (w : World) :
    Calls Tryd.prog 34 #[.string s] w fun e w' => e = .returned (.tuple #[.int .i64 n, .nilIface]) ∧ ∃ t, w' = Lib.bytesWorld w 5 t := Any.strconv_Atoi Tryd.lays172 s n hl h w
def Tryd.laysM171_ren : Go.Shelf.Ren := ⟨fun | 171 => 39 | 243 => 55 | 246 => 70 | 283 => 79 | 284 => 80 | 285 => 81 | 286 => 82 | 129 => 91 | 317 => 90 | 318 => 92 | 319 => 93 | 320 => 94 | 337 => 96 | 338 => 97 | n => n, fun | 3 => 3 | 9 => 9 | 2 => 2 | 4 => 4 | 171 => 119 | 0 => 0 | 53 => 63 | 37 => 64 | 5 => 5 | 173 => 122 | 212 => 138 | 51 => 139 | 20 => 20 | 213 => 140 | 46 => 114 | 232 => 143 | 233 => 144 | n => n, fun | 17 => 6 | 18 => 7 | 19 => 8 | n => n⟩
theorem Tryd.laysM171 : Go.Proofs.LaysM.n171 Tryd.prog Tryd.laysM171_ren := {
  mixed := by kernel_rfl
  f129 := Tryd.func91.trans (congrArg some (by kernel_rfl))
  f171 := Tryd.func39.trans (congrArg some (by kernel_rfl))
  f243 := Tryd.func55.trans (congrArg some (by kernel_rfl))
  f246 := Tryd.func70.trans (congrArg some (by kernel_rfl))
  f283 := Tryd.func79.trans (congrArg some (by kernel_rfl))
  f284 := Tryd.func80.trans (congrArg some (by kernel_rfl))
  f285 := Tryd.func81.trans (congrArg some (by kernel_rfl))
  f286 := Tryd.func82.trans (congrArg some (by kernel_rfl))
  f317 := Tryd.func90.trans (congrArg some (by kernel_rfl))
  f318 := Tryd.func92.trans (congrArg some (by kernel_rfl))
  f319 := Tryd.func93.trans (congrArg some (by kernel_rfl))
  f320 := Tryd.func94.trans (congrArg some (by kernel_rfl))
  f337 := Tryd.func96.trans (congrArg some (by kernel_rfl))
  f338 := Tryd.func97.trans (congrArg some (by kernel_rfl))
  t0 := Tryd.underlying0
  a0 := Tryd.isAgg0
  z0 := Tryd.sizeOf0
  v0 := Tryd.zeroValue0
  t2 := Tryd.underlying2
  a2 := Tryd.isAgg2
  z2 := Tryd.sizeOf2
  v2 := Tryd.zeroValue2
  t3 := Tryd.underlying3
  a3 := Tryd.isAgg3
  z3 := Tryd.sizeOf3
  v3 := Tryd.zeroValue3
  t4 := Tryd.underlying4
  a4 := Tryd.isAgg4
  z4 := Tryd.sizeOf4
  v4 := Tryd.zeroValue4
  t5 := Tryd.underlying5
  a5 := Tryd.isAgg5
  z5 := Tryd.sizeOf5
  v5 := Tryd.zeroValue5
  t9 := Tryd.underlying9
  a9 := Tryd.isAgg9
  z9 := Tryd.sizeOf9
  v9 := Tryd.zeroValue9
  t20 := Tryd.underlying20
  a20 := Tryd.isAgg20
  z20 := Tryd.sizeOf20
  v20 := Tryd.zeroValue20
  t37 := Tryd.underlying64
  a37 := Tryd.isAgg64
  z37 := Tryd.sizeOf64
  v37 := Tryd.zeroValue64
  t46 := Tryd.underlying114
  a46 := Tryd.isAgg114
  z46 := Tryd.sizeOf114
  v46 := Tryd.zeroValue114
  t51 := Tryd.underlying139
  a51 := Tryd.isAgg139
  z51 := Tryd.sizeOf139
  v51 := Tryd.zeroValue139
  t53 := Tryd.underlying63
  a53 := Tryd.isAgg63
  z53 := Tryd.sizeOf63
  v53 := Tryd.zeroValue63
  t171 := Tryd.underlying119
  a171 := Tryd.isAgg119
  z171 := Tryd.sizeOf119
  v171 := Tryd.zeroValue119
  t173 := Tryd.underlying122
  a173 := Tryd.isAgg122
  z173 := Tryd.sizeOf122
  v173 := Tryd.zeroValue122
  t212 := Tryd.underlying138
  a212 := Tryd.isAgg138
  z212 := Tryd.sizeOf138
  v212 := Tryd.zeroValue138
  t213 := Tryd.underlying140
  a213 := Tryd.isAgg140
  z213 := Tryd.sizeOf140
  t232 := Tryd.underlying143
  a232 := Tryd.isAgg143
  z232 := Tryd.sizeOf143
  v232 := Tryd.zeroValue143
  t233 := Tryd.underlying144
  a233 := Tryd.isAgg144
  z233 := Tryd.sizeOf144
  v233 := Tryd.zeroValue144
  g17 := by kernel_rfl
  g18 := by kernel_rfl
  g19 := by kernel_rfl
  i0 := by kernel_rfl
  i2 := by kernel_rfl
  i3 := by kernel_rfl
  i4 := by kernel_rfl
  i5 := by kernel_rfl
  i9 := by kernel_rfl
  i20 := by kernel_rfl
  i37 := by kernel_rfl
  i46 := by kernel_rfl
  i51 := by kernel_rfl
  i53 := by kernel_rfl
  i171 := by kernel_rfl
  i173 := by kernel_rfl
  i212 := by kernel_rfl
  i232 := by kernel_rfl
  i233 := by kernel_rfl
  m17 := by kernel_rfl
  m18 := by kernel_rfl
  m19 := by kernel_rfl }
open Go.RowKit Go.Sort Go.Lib in
theorem Tryd.strconv_Itoa (n : Int) (h0 : -9223372036854775808 ≤ n) (h1 : n ≤ 9223372036854775807) (w : World) (htab : Lib.TabIs Tryd.prog w "internal/strconv.uint64pow10" .u64 Lib.pow10Tab) :
    Calls Tryd.prog 39 #[.int .i64 n] w fun e w' => e = .returned (.string ⟨(Lib.itoa n).toArray⟩) ∧ ∃ k os, w' = grow (w.drewN k) os := Any.strconv_Itoa Tryd.laysM171 n h0 h1 w htab
def Tryd.lays99_ren : Go.Shelf.Ren := ⟨fun | 99 => 48 | 206 => 61 | n => n, fun | 9 => 9 | 4 => 4 | 3 => 3 | n => n, fun | n => n⟩
theorem Tryd.lays99 : Go.Proofs.Lays.n99 Tryd.prog Tryd.lays99_ren := {
  mixed := by kernel_rfl
  f99 := Tryd.func48.trans (congrArg some (by kernel_rfl))
  f206 := Tryd.func61.trans (congrArg some (by kernel_rfl))
  t3 := Tryd.underlying3
  a3 := Tryd.isAgg3
  z3 := Tryd.sizeOf3
  v3 := Tryd.zeroValue3
  t4 := Tryd.underlying4
  a4 := Tryd.isAgg4
  z4 := Tryd.sizeOf4
  v4 := Tryd.zeroValue4
  t9 := Tryd.underlying9
  a9 := Tryd.isAgg9
  z9 := Tryd.sizeOf9
  v9 := Tryd.zeroValue9 }
open Go.RowKit Go.Lib in
theorem Tryd.strings_HasPrefix (s p : ByteArray) (w : World) :
    Calls Tryd.prog 48 #[.string s, .string p] w fun e w' => e = .returned (.bool (Lib.hasPrefix s.data.toList p.data.toList)) ∧ w' = w := Any.strings_HasPrefix Tryd.lays99 s p w
open Go.RowKit in
theorem Tryd.strings_TrimLeft_set (s cutset : ByteArray) (w : World) (hcs : cutset.size < 4294967281) (hascii : ∀ (j : Nat) b, cutset.data.toList[j]? = some b → b.toNat < 128) :
    Calls Tryd.prog 31 #[.string s, .string cutset] w fun e w' => e = .returned (.string ⟨(Lib.trimLeftS s.data.toList cutset.data.toList).toArray⟩) ∧ Below w.heap.size w w' :=
  Any.strings_TrimLeft_laid Tryd.lays161 (by kernel_rfl) s cutset w hcs hascii
end Go.Proofs
/- What a call asks of the package-level tables that it reads: 'Tabs w'. -/
namespace Go.Proofs.YtikbgoppmailjaaDoor.H
open Go.RowKit Go.Sort
set_option linter.unusedVariables false
structure Tabs (w : World) : Prop where
  pow : Lib.TabIs Tryd.prog w "internal/strconv.uint64pow10" .u64 Lib.pow10Tab
theorem tabs_glob : Tryd.prog.globalNamed "internal/strconv.uint64pow10" = some 6 := by kernel_rfl
theorem Tabs.below {w w' : World} (h : Tabs w) (hb : Below w.heap.size w w') : Tabs w' := by
  have hlt : 6 < w.heap.size := World.block_lt_of_cell? w _ (h.pow.cell tabs_glob 0 (by decide))
  exact ⟨var?_below hb tabs_glob hlt h.pow⟩
theorem below_grow (w : World) (k : Nat) (os : Array Obj) : Below w.heap.size w (grow (w.drewN k) os) :=
  ⟨rfl, rfl, rfl, by show w.heap.size ≤ (w.heap ++ os).size; simp, fun j hj => by show (w.heap ++ os)[j]? = w.heap[j]?; rw [Array.getElem?_append_left hj]⟩
theorem itoa_calls (n : Int) (h0 : -9223372036854775808 ≤ n) (h1 : n ≤ 9223372036854775807) (w : World) (hT : Tabs w) :
    Calls Tryd.prog 39 #[.int .i64 n] w fun e w' => e = .returned (.string ⟨(Lib.itoa n).toArray⟩) ∧ Below w.heap.size w w' :=
  (Tryd.strconv_Itoa n h0 h1 w hT.pow).mono fun e w' ⟨he, k, os, hw⟩ => ⟨he, hw ▸ below_grow w k os⟩
/-- The decimal digits of u, by so many steps (what the kernel can reckon). -/
def digS : Nat → Nat → List UInt8
  | 0, _ => []
  | f + 1, u => if u < 10 then [UInt8.ofNat (48 + u)] else digS f (u / 10) ++ [UInt8.ofNat (48 + u % 10)]
theorem digS_eq : ∀ (f u : Nat), u < 10 ^ f → 0 < f → digS f u = Lib.decDigits u
  | 0, _, _, h => by omega
  | f + 1, u, h, _ => by
    rw [Lib.decDigits]
    unfold digS
    by_cases hu : u < 10
    · rw [if_pos hu, dif_pos hu]
    · rw [if_neg hu, dif_neg hu]
      have hf : 0 < f := by
        rcases Nat.eq_zero_or_pos f with rfl | h1
        · omega
        · exact h1
      rw [digS_eq f (u / 10) (by rw [Nat.pow_succ] at h; omega) hf]
def itoaS (n : Int) : List UInt8 := digS 20 n.toNat
theorem itoaS_eq (n : Int) (h0 : 0 ≤ n) (h1 : n ≤ 9223372036854775807) : Lib.itoa n = itoaS n := by
  unfold Lib.itoa itoaS
  have e : (10 : Nat) ^ 20 = 100000000000000000000 := by decide
  have hlt : n.toNat < 10 ^ 20 := by rw [e]; omega
  rw [if_neg (by omega), digS_eq 20 _ hlt (by decide)]
theorem itoaS_calls (n : Int) (h0 : 0 ≤ n) (h1 : n ≤ 2147483647) (w : World) (hT : Tabs w) :
    Calls Tryd.prog 39 #[.int .i64 n] w fun e w' => e = .returned (.string ⟨(itoaS n).toArray⟩) ∧ Below w.heap.size w w' := by
  rw [← itoaS_eq n h0 (by omega)]
  exact itoa_calls n (by omega) (by omega) w hT
end Go.Proofs.YtikbgoppmailjaaDoor.H
/- What a call asks of the package-level tables and of guard's own error: 'Tabs2 w'. -/
namespace Go.Proofs.YtikbgoppmailjaaDoor.H
open Go.RowKit
structure Tabs2 (w : World) : Prop extends Tabs w where
  wrong : ∃ T pv, w.cell? ⟨0, 0, none⟩ = some (.iface T pv)
theorem Tabs2.below {w w' : World} (h : Tabs2 w) (hb : Below w.heap.size w w') : Tabs2 w' := by
  obtain ⟨T, pv, hc⟩ := h.wrong
  have hlt : 0 < w.heap.size := World.block_lt_of_cell? w _ hc
  exact ⟨h.toTabs.below hb, T, pv, (hb.cell (p := ⟨0, 0, none⟩) hlt).trans hc⟩
end Go.Proofs.YtikbgoppmailjaaDoor.H
-- Written by hp.py (a program of this session, over the kit's print.py), with hand-made contracts beside it.
namespace Go.Proofs.YtikbgoppmailjaaDoor.H
open Go.RowKit Go.Proofs.YtikbgoppmailjaaDoorW.PrintWords Go.Proofs.YtikbgoppmailjaaDoorW.PrintLast Go.Proofs.YtikbgoppmailjaaDoorW.PrintMore
attribute [local go_sem] max2_int min2_int max_two min_two max_three min_three max_four min_four   -- for this text's walks alone
set_option linter.unusedVariables false
set_option linter.unusedSimpArgs false

/-! ### slices_Index_int_int: function 67 -/
def slices_Index_int_int.l0 : Nat → List Int → Int → Int → Int → Option (Int)
  | 0, _, _, _, _ => none
  | k + 1, x0, x1, x7, x8 => if x8 < x7 then (if 0 ≤ x8 then (if x8 < (x0.length : Int) then (if x1 = (rd x0 x8) then (some x8) else (slices_Index_int_int.l0 k x0 x1 x7 (wrap64 (x8 + 1)))) else (none)) else (none)) else (some (-1))
def slices_Index_int_int.f (k : Nat) (l0 : List Int) (a1 : Int) : Option (Int) := slices_Index_int_int.l0 k l0 a1 (l0.length : Int) 0
theorem slices_Index_int_int.mono_l : ∀ k, (∀ y0 y1 y2 y3, LeO (slices_Index_int_int.l0 k y0 y1 y2 y3) (slices_Index_int_int.l0 (k + 1) y0 y1 y2 y3))
  | 0 => fun _ _ _ _ r h => by simp [slices_Index_int_int.l0] at h
  | k + 1 => by
    have ih0 := slices_Index_int_int.mono_l k
    · intro y0 y1 y2 y3
      unfold slices_Index_int_int.l0
      repeat' first
      | (with_reducible exact ih0 _ _ _ _)
      | (with_reducible exact LeO.refl _)
      | (with_reducible exact LeO.none _)
      | (with_reducible refine LeO.ite ?_ ?_)
      | (with_reducible refine LeO.bind ?_ (fun _ => ?_))
      | exact ih0 _ _ _ _
      | exact LeO.none _
      | refine LeO.ite ?_ ?_
      | refine LeO.bind ?_ (fun _ => ?_)
theorem slices_Index_int_int.mono : ∀ a0 a1 k, LeO (slices_Index_int_int.f k a0 a1) (slices_Index_int_int.f (k + 1) a0 a1) := by
  intro a0 a1 k
  have ih0 := slices_Index_int_int.mono_l k
  unfold slices_Index_int_int.f
  repeat' first
      | (with_reducible exact ih0 _ _ _ _)
      | (with_reducible exact LeO.refl _)
      | (with_reducible exact LeO.none _)
      | (with_reducible refine LeO.ite ?_ ?_)
      | (with_reducible refine LeO.bind ?_ (fun _ => ?_))
      | exact ih0 _ _ _ _
      | exact LeO.none _
      | refine LeO.ite ?_ ?_
      | refine LeO.bind ?_ (fun _ => ?_)
set_option maxHeartbeats 8000000 in
set_option maxRecDepth 100000 in
theorem slices_Index_int_int.calls (k : Nat) (A0 : Option Addr) (c0 : Nat) (l0 : List Int) (a1 : Int) (r : Int) (w : World) (hr0 : Kd.C (Kd.int .i64) w A0 l0.length l0) (hc0 : l0.length ≤ c0) (h : slices_Index_int_int.f k l0 a1 = some r) :
    Calls Tryd.prog 67 #[.slice A0 l0.length c0, .int .i64 a1] w fun e w' => e = .returned (.int .i64 r) ∧ Drawn0 w w' := by
  have HR0 := Aside0.mk hr0
  have HC0 := Aside0.mk hc0
  clear hr0 hc0
  have H : (slices_Index_int_int.l0 k l0 a1 (l0.length : Int) 0) = some r := h
  clear h
  have H' := Aside0.mk H
  clear H
  go_enter Tryd.func67, Tryd.ntmps67
  go_wp2
  go_loopg [8] k (fun kq v8 w' => ∃ (x8_1 : Int), v8 = .int .i64 x8_1 ∧ Aside0 (slices_Index_int_int.l0 kq l0 a1 (l0.length : Int) x8_1 = some r) ∧ Aside0 (kq ≤ k) ∧ Drawn0 w w')
  case atStart => exact ⟨(0), (by first | rfl | (simp; done) | (simp [*]; done)), H', ⟨Nat.le_refl _⟩, by repeat (first | exact Drawn0.refl _ | apply Drawn0.step)⟩
  case round =>
    clear H'
    try clear p2
    obtain ⟨x8_1, rfl, HA, HK1, ⟨m1, rfl⟩⟩ := hrel
    cases gk with
    | zero => exact absurd HA.out (by simp [slices_Index_int_int.l0])
    | succ k1 =>
      have H := HA.out
      clear HA
      simp only [slices_Index_int_int.l0] at H
      by_cases c3 : x8_1 < (l0.length : Int)
      · rw [if_pos c3] at H
        have c3b0 : decide (x8_1 < (l0.length : Int)) = true := decide_eq_true c3
        clear c3
        by_cases c4 : 0 ≤ x8_1
        · rw [if_pos c4] at H
          have c4b0 : decide (0 ≤ x8_1) = true := decide_eq_true c4
          clear c4
          by_cases c5 : x8_1 < (l0.length : Int)
          · rw [if_pos c5] at H
            have c5b0 : decide (x8_1 < (l0.length : Int)) = true := decide_eq_true c5
            clear c5
            by_cases c6 : a1 = (rd l0 x8_1)
            · rw [if_pos c6] at H
              have c6b0 : (a1 == (rd l0 x8_1)) = true := beq_iff_eq.mpr c6
              have c6b1 : (a1 != (rd l0 x8_1)) = false := bne_eq_false_iff_eq.mpr c6
              clear c6
              obtain rfl := Option.some.inj H
              have p137 : 0 ≤ (x8_1 : Int) := of_decide_eq_true (by first | (with_reducible assumption) | assumption)
              have q137 : x8_1 < (l0.length : Int) := of_decide_eq_true (by first | (with_reducible assumption) | assumption)
              obtain ⟨ad137, e137, hx137_0⟩ := Kd.at_int HR0.out x8_1 p137 q137
              cases e137
              replace p137 := eq_true p137
              replace q137 := eq_true q137
              go_wp2
              go_ret
              exact ⟨by first | rfl | (simp; done) | (simp [*]; done), by repeat (first | exact Drawn0.refl _ | apply Drawn0.step)⟩
            · rw [if_neg c6] at H
              have c6b0 : (a1 == (rd l0 x8_1)) = false := beq_eq_false_iff_ne.mpr c6
              have c6b1 : (a1 != (rd l0 x8_1)) = true := bne_iff_ne.mpr c6
              have H' := Aside0.mk H
              clear H
              have p137 : 0 ≤ (x8_1 : Int) := of_decide_eq_true (by first | (with_reducible assumption) | assumption)
              have q137 : x8_1 < (l0.length : Int) := of_decide_eq_true (by first | (with_reducible assumption) | assumption)
              obtain ⟨ad137, e137, hx137_0⟩ := Kd.at_int HR0.out x8_1 p137 q137
              cases e137
              replace p137 := eq_true p137
              replace q137 := eq_true q137
              go_wp2
              go_roundg k1
              case measure => have := HK1.out; omega
              case rel => exact ⟨(wrap64 (x8_1 + 1)), (by first | rfl | (simp; done) | (simp [*]; done)), H', ⟨by have := HK1.out; omega⟩, by repeat (first | exact Drawn0.refl _ | apply Drawn0.step)⟩
          · rw [if_neg c5] at H
            exact absurd H (by simp)
        · rw [if_neg c4] at H
          exact absurd H (by simp)
      · rw [if_neg c3] at H
        have c3b0 : decide (x8_1 < (l0.length : Int)) = false := decide_eq_false c3
        clear c3
        obtain rfl := Option.some.inj H
        go_wp2
        go_ret
        exact ⟨by first | rfl | (simp; done) | (simp [*]; done), by repeat (first | exact Drawn0.refl _ | apply Drawn0.step)⟩

/-! ### slices_Contains_int_int: function 51 -/
def slices_Contains_int_int.f (k : Nat) (l0 : List Int) (a1 : Int) : Option (Bool) := (slices_Index_int_int.f k l0 a1).bind fun t138 => (some (decide (t138 ≥ 0)))
theorem slices_Contains_int_int.mono : ∀ a0 a1 k, LeO (slices_Contains_int_int.f k a0 a1) (slices_Contains_int_int.f (k + 1) a0 a1) := by
  intro a0 a1 k
  unfold slices_Contains_int_int.f
  repeat' first
      | (with_reducible exact slices_Index_int_int.mono _ _ _)
      | (with_reducible exact LeO.refl _)
      | (with_reducible exact LeO.none _)
      | (with_reducible refine LeO.ite ?_ ?_)
      | (with_reducible refine LeO.bind ?_ (fun _ => ?_))
      | exact slices_Index_int_int.mono _ _ _
      | exact LeO.none _
      | refine LeO.ite ?_ ?_
      | refine LeO.bind ?_ (fun _ => ?_)
set_option maxHeartbeats 8000000 in
set_option maxRecDepth 100000 in
theorem slices_Contains_int_int.calls (k : Nat) (A0 : Option Addr) (c0 : Nat) (l0 : List Int) (a1 : Int) (r : Bool) (w : World) (hr0 : Kd.C (Kd.int .i64) w A0 l0.length l0) (hc0 : l0.length ≤ c0) (h : slices_Contains_int_int.f k l0 a1 = some r) :
    Calls Tryd.prog 51 #[.slice A0 l0.length c0, .int .i64 a1] w fun e w' => e = .returned (.bool r) ∧ Drawn0 w w' := by
  have HR0 := Aside0.mk hr0
  have HC0 := Aside0.mk hc0
  clear hr0 hc0
  have H : ((slices_Index_int_int.f k l0 a1).bind fun t138 => (some (decide (t138 ≥ 0)))) = some r := h
  clear h
  replace H := Option.bind_eq_some_iff.mp H
  obtain ⟨t138, A30, H⟩ := H
  replace H : (some (decide (t138 ≥ 0))) = some r := H
  have A3 := Aside0.mk A30
  clear A30
  obtain rfl := Option.some.inj H
  go_enter Tryd.func51, Tryd.ntmps51
  go_wp2_with (first | ((with_reducible refine gate_callee (f := 67) rfl ?_); refine goesL_ (some 7) rfl rfl Tryd.func67 (by kernel_rfl) rfl #[.slice A0 l0.length c0, .int .i64 a1] rfl (by (try simp only [List.map_toArray, List.map_cons, List.map_nil]); first | done | rfl | (simp only [List.length_drop, List.length_take]; rfl)) ?_; (with_reducible refine (slices_Index_int_int.calls k _ _ l0 a1 t138 _ ?side1 ?side2 A3.out).mono ?_); (case side1 => repeat (first | exact HR0.out | (with_reducible refine Kd.C_alloc ?_ _) | (with_reducible refine Kd.C_drewN ?_ _) | (with_reducible refine Kd.C_drew ?_))); (case side2 => exact HC0.out); rintro e w' ⟨rfl, ⟨nd, rfl⟩⟩; refine ⟨_, rfl, ?_⟩))
  go_ret
  exact ⟨by first | rfl | (simp; done) | (simp [*]; done), by repeat (first | exact Drawn0.refl _ | apply Drawn0.step)⟩

end Go.Proofs.YtikbgoppmailjaaDoor.H
-- Written by hp.py (a program of this session, over the kit's print.py), with hand-made contracts beside it.
namespace Go.Proofs.YtikbgoppmailjaaDoor.H
open Go.RowKit Go.Proofs.YtikbgoppmailjaaDoorW.PrintWords Go.Proofs.YtikbgoppmailjaaDoorW.PrintLast Go.Proofs.YtikbgoppmailjaaDoorW.PrintMore
attribute [local go_sem] max2_int min2_int max_two min_two max_three min_three max_four min_four   -- for this text's walks alone
set_option linter.unusedVariables false
set_option linter.unusedSimpArgs false

/-! ### guard_sums: function 25 -/
def guard_sums.f (a0 : Int) : Option (Bool) := if a0 = 3 then (some true) else (some (a0 == 4))
set_option maxHeartbeats 8000000 in
set_option maxRecDepth 100000 in
theorem guard_sums.calls (a0 : Int) (r : Bool) (w : World) (h : guard_sums.f a0 = some r) :
    Calls Tryd.prog 25 #[.int .i64 a0] w fun e w' => e = .returned (.bool r) ∧ Drawn0 w w' := by
  have H : (if a0 = 3 then (some true) else (some (a0 == 4))) = some r := h
  clear h
  by_cases c2 : a0 = 3
  · rw [if_pos c2] at H
    have c2b0 : (a0 == 3) = true := beq_iff_eq.mpr c2
    have c2b1 : (a0 != 3) = false := bne_eq_false_iff_eq.mpr c2
    clear c2
    obtain rfl := Option.some.inj H
    go_enter Tryd.func25, Tryd.ntmps25
    go_wp2
    go_ret
    exact ⟨by first | rfl | (simp; done) | (simp [*]; done), by repeat (first | exact Drawn0.refl _ | apply Drawn0.step)⟩
  · rw [if_neg c2] at H
    have c2b0 : (a0 == 3) = false := beq_eq_false_iff_ne.mpr c2
    have c2b1 : (a0 != 3) = true := bne_iff_ne.mpr c2
    obtain rfl := Option.some.inj H
    go_enter Tryd.func25, Tryd.ntmps25
    go_wp2
    go_ret
    exact ⟨by first | rfl | (simp; done) | (simp [*]; done), by repeat (first | exact Drawn0.refl _ | apply Drawn0.step)⟩

/-! ### guard_compares: function 26 -/
def guard_compares.f (a0 : Int) : Option (Bool) := if a0 ≥ 6 then (some (decide (a0 ≤ 11))) else (some false)
set_option maxHeartbeats 8000000 in
set_option maxRecDepth 100000 in
theorem guard_compares.calls (a0 : Int) (r : Bool) (w : World) (h : guard_compares.f a0 = some r) :
    Calls Tryd.prog 26 #[.int .i64 a0] w fun e w' => e = .returned (.bool r) ∧ Drawn0 w w' := by
  have H : (if a0 ≥ 6 then (some (decide (a0 ≤ 11))) else (some false)) = some r := h
  clear h
  by_cases c2 : a0 ≥ 6
  · rw [if_pos c2] at H
    have c2b0 : decide (6 ≤ a0) = true := decide_eq_true c2
    clear c2
    obtain rfl := Option.some.inj H
    go_enter Tryd.func26, Tryd.ntmps26
    go_wp2
    go_ret
    exact ⟨by first | rfl | (simp; done) | (simp [*]; done), by repeat (first | exact Drawn0.refl _ | apply Drawn0.step)⟩
  · rw [if_neg c2] at H
    have c2b0 : decide (6 ≤ a0) = false := decide_eq_false c2
    clear c2
    obtain rfl := Option.some.inj H
    go_enter Tryd.func26, Tryd.ntmps26
    go_wp2
    go_ret
    exact ⟨by first | rfl | (simp; done) | (simp [*]; done), by repeat (first | exact Drawn0.refl _ | apply Drawn0.step)⟩

end Go.Proofs.YtikbgoppmailjaaDoor.H
