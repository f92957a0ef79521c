/- Parts of the proof of LawGuardLeft: words, contracts of the functions, plain laws. -/
import Derived.Test.YtikbgoppmailjaaDoorLA06
import Derived.Test.YtikbgoppmailjaaDoorLA03
import Derived.Test.YtikbgoppmailjaaDoorLA04
import Derived.KernelRfl
import Derived.Test.YtikbgoppmailjaaDoorLA08
import Derived.Test.YtikbgoppmailjaaDoorRows
import Derived.Test.YtikbgoppmailjaaDoorLA02
import Derived.LaidMore
import Derived.Lay
import Derived.Stop.LaidErr
import Derived.Stop.Joined
import Derived.MakeChecks
import Derived.Lib.LaidTab
import Derived.OpenShut
import Derived.ChangeKeysEq
import Derived.Deep.Slices
import Derived.ChangeArms
/- Two rows of signs that are one; the loop's fuel. -/
namespace Go.Proofs.YtikbgoppmailjaaDoor.Pure
open Go.RowKit Go.Proofs.YtikbgoppmailjaaDoor.H Go.Proofs.YtikbgoppmailjaaDoorW.PrintWords Go.Proofs.YtikbgoppmailjaaDoorW.PrintLast
set_option linter.unusedVariables false
set_option linter.unusedSimpArgs false
theorem signs_loop (l : List S33) (hl : l.length ≤ 4611686018427387904) : ∀ (d k : Nat) (i : Nat), i + d = l.length → d < k → remontoirkeep_Signs.l0 k l l (i : Int) = some true := by
  intro d
  induction d with
  | zero =>
    intro k i h hk
    obtain ⟨k, rfl⟩ : ∃ m, k = m + 1 := ⟨k - 1, by omega⟩
    simp only [remontoirkeep_Signs.l0]
    rw [if_neg (by omega)]
  | succ d ih =>
    intro k i h hk
    obtain ⟨k, rfl⟩ : ∃ m, k = m + 1 := ⟨k - 1, by omega⟩
    simp only [remontoirkeep_Signs.l0]
    rw [if_pos (by omega), if_pos (by omega), if_pos (by omega), if_neg (by simp)]
    have e : wrap64 ((i : Int) + 1) = ((i + 1 : Nat) : Int) := by unfold wrap64; omega
    rw [e]
    exact ih k (i + 1) (by omega) (by omega)
theorem signs_same (l : List S33) (hl : l.length ≤ 4611686018427387904) (k : Nat) (hk : l.length < k) : remontoirkeep_Signs.f k l l = some true := by
  unfold remontoirkeep_Signs.f
  rw [if_pos rfl]
  exact signs_loop l hl l.length k 0 (by omega) hk
end Go.Proofs.YtikbgoppmailjaaDoor.Pure
/- What guard.Parse says of a text. -/
namespace Go.Proofs.YtikbgoppmailjaaDoor.Pure
open Go.RowKit Go.Proofs.YtikbgoppmailjaaDoor.H Go.Proofs.YtikbgoppmailjaaDoorW.PrintWords Go.Proofs.YtikbgoppmailjaaDoorW.PrintLast Go.Proofs.YtikbgoppmailjaaDoorW.PrintMore
set_option linter.unusedVariables false
set_option linter.unusedSimpArgs false
theorem parse_gx {s : ByteArray} {o : List S33} (hs : s.size ≤ 60) (h : Gx s.data.toList o) : ∃ K, ∀ k, K ≤ k → guard_Parse.f k s = some (o, 0) := by
  obtain ⟨x, hx, k, hk⟩ := h
  refine ⟨k, fun k' hk' => ?_⟩
  unfold guard_Parse.f
  rw [lex_list, if_neg (by omega)]
  have e : lexF s.data.toList [] = some (x, 0) := hx
  rw [e]
  simp only [Option.bind_some, if_true]
  rw [PF_mono hk' hk]
  rfl
/-- Signs that the reader gives up at, or of which some are left. -/
def Ungood (x : List S33) : Prop := ∃ k r, PF k 0 (x, []) = some r ∧ ∀ o, r ≠ some ([], o)
end Go.Proofs.YtikbgoppmailjaaDoor.Pure
/- The examples of chapter 14. -/
namespace Go.Proofs.YtikbgoppmailjaaDoor.Pure
open Go.RowKit Go.Proofs.YtikbgoppmailjaaDoor.H Go.Proofs.YtikbgoppmailjaaDoorW.PrintWords Go.Proofs.YtikbgoppmailjaaDoorW.PrintLast
theorem wakes14_50 : remontoirlaw14_wakes.f 50 = some true := by kernel_rfl
theorem wakes14 (k : Nat) (hk : 50 ≤ k) : remontoirlaw14_wakes.f k = some true := at_rounds (remontoirlaw14_wakes.mono) hk wakes14_50
end Go.Proofs.YtikbgoppmailjaaDoor.Pure
/- Signs behind a guard, and brackets about it, that make it none. -/
namespace Go.Proofs.YtikbgoppmailjaaDoor.Pure
open Go.RowKit Go.Proofs.YtikbgoppmailjaaDoor.H Go.Proofs.YtikbgoppmailjaaDoorW.PrintWords Go.Proofs.YtikbgoppmailjaaDoorW.PrintLast Go.Proofs.YtikbgoppmailjaaDoorW.PrintMore
set_option linter.unusedVariables false
set_option linter.unusedSimpArgs false
/-! texts -/
/-- No digit, and never behind the first byte of a sign's text. -/
def Sep2 (c : UInt8) : Prop := dg c = false ∧ ∀ t ∈ lexT, c ∉ t.data.toList.tail
/-- A byte that begins one sign's text alone, and is it. -/
theorem longL_one (c : UInt8) (t : List UInt8) (h : ∀ x ∈ lexT, x.data.toList.isPrefixOf (c :: t) = x.data.toList.isPrefixOf [c]) : ∀ k, longL (c :: t) k = longL [c] k
  | 0 => rfl
  | k + 1 => by
    unfold longL
    rw [longL_one c t h k]
    unfold Lib.hasPrefix
    have e : (lexT.getD k ⟨#[]⟩).data.toList.isPrefixOf (c :: t) = (lexT.getD k ⟨#[]⟩).data.toList.isPrefixOf [c] := by
      by_cases hk : k < lexT.length
      · have e : lexT.getD k ⟨#[]⟩ = lexT[k] := by simp [List.getD, hk]
        rw [e]
        exact h _ (List.getElem_mem hk)
      · have e : lexT.getD k ⟨#[]⟩ = ⟨#[]⟩ := by rw [List.getD_eq_getElem?_getD, List.getElem?_eq_none (by omega)]; rfl
        rw [e]; simp
    rw [e]
end Go.Proofs.YtikbgoppmailjaaDoor.Pure
/- GuardLeft's texts: which signs they have, and how these lie behind. -/
namespace Go.Proofs.YtikbgoppmailjaaDoor.Pure
open Go.RowKit Go.Proofs.YtikbgoppmailjaaDoor.H Go.Proofs.YtikbgoppmailjaaDoorW.PrintWords Go.Proofs.YtikbgoppmailjaaDoorW.PrintLast Go.Proofs.YtikbgoppmailjaaDoorW.PrintMore
set_option linter.unusedVariables false
set_option linter.unusedSimpArgs false
/-- The byte of a name. -/
def nm (a : Nat) : UInt8 := UInt8.ofNat (97 + a)
theorem nm_nat (a : Nat) (h : a < 26) : (nm a).toNat = 97 + a := by
  unfold nm
  rw [UInt8.toNat_ofNat']
  omega
theorem nm_lw (a : Nat) (h : a < 26) : lw (nm a) = true := by
  unfold lw
  rw [nm_nat a h]
  exact decide_eq_true (by omega)
theorem nm_ne (a : Nat) (h : a < 26) (c : UInt8) (hc : c.toNat < 97) : nm a ≠ c := by
  intro e
  have := nm_nat a h
  rw [e] at this
  omega
theorem lex_nm (a : Nat) (h : a < 26) (t : List UInt8) (x : List S33) : lexF (nm a :: t) x = lexF t (x ++ [⟨2, (a : Int)⟩]) := by
  rw [lexF_low _ _ _ (nm_lw a h)]
  have e : ((nm a).toNat : Int) - 97 = (a : Int) := by rw [nm_nat a h]; omega
  rw [e]
theorem lex_of_long (c : UInt8) (t : List UInt8) (x : List S33) (h32 : c ≠ 32) (hd : dg c = false) (hw : lw c = false) (k : Int) (m : Nat) (hm : 0 < m) (h : ∀ n, n = 19 → longL (c :: t) n = (k, (m : Int))) : lexF (c :: t) x = lexF ((c :: t).drop m) (x ++ [⟨k, 0⟩]) := by
  obtain ⟨n, hn⟩ : ∃ n : Nat, n = 19 := ⟨19, rfl⟩
  rw [lexF_symN c t x h32 hd hw n hn, h n hn, if_neg (by show ¬ ((m : Int) = 0); omega)]
  have e : ((k, (m : Int)) : Int × Int).2.toNat = m := Int.toNat_natCast m
  rw [e]
theorem long_43 : longL [43] 19 = (3, 1) := by kernel_rfl
theorem lex_43 (t : List UInt8) (x : List S33) : lexF (43 :: t) x = lexF t (x ++ [⟨3, 0⟩]) := by
  refine (lex_of_long 43 t x (by decide) (by decide) (by decide) 3 1 (by decide) (fun n hn => ?_))
  rw [longL_one 43 t ( by
    intro y hy
    simp only [lexT, List.mem_cons, List.mem_nil_iff, or_false] at hy
    rcases hy with rfl | rfl | rfl | rfl | rfl | rfl | rfl | rfl | rfl | rfl | rfl | rfl | rfl | rfl | rfl | rfl | rfl | rfl | rfl <;> simp [List.isPrefixOf]), hn, long_43]
  rfl
theorem long_45 : longL [45] 19 = (4, 1) := by kernel_rfl
theorem lex_45 (t : List UInt8) (x : List S33) : lexF (45 :: t) x = lexF t (x ++ [⟨4, 0⟩]) := by
  refine (lex_of_long 45 t x (by decide) (by decide) (by decide) 4 1 (by decide) (fun n hn => ?_))
  rw [longL_one 45 t ( by
    intro y hy
    simp only [lexT, List.mem_cons, List.mem_nil_iff, or_false] at hy
    rcases hy with rfl | rfl | rfl | rfl | rfl | rfl | rfl | rfl | rfl | rfl | rfl | rfl | rfl | rfl | rfl | rfl | rfl | rfl | rfl <;> simp [List.isPrefixOf]), hn, long_45]
  rfl
theorem long_42 : longL [42] 19 = (5, 1) := by kernel_rfl
theorem lex_42 (t : List UInt8) (x : List S33) : lexF (42 :: t) x = lexF t (x ++ [⟨5, 0⟩]) := by
  refine (lex_of_long 42 t x (by decide) (by decide) (by decide) 5 1 (by decide) (fun n hn => ?_))
  rw [longL_one 42 t ( by
    intro y hy
    simp only [lexT, List.mem_cons, List.mem_nil_iff, or_false] at hy
    rcases hy with rfl | rfl | rfl | rfl | rfl | rfl | rfl | rfl | rfl | rfl | rfl | rfl | rfl | rfl | rfl | rfl | rfl | rfl | rfl <;> simp [List.isPrefixOf]), hn, long_42]
  rfl
theorem long_38 : longL [38] 19 = (12, 1) := by kernel_rfl
theorem lex_38 (t : List UInt8) (x : List S33) : lexF (38 :: t) x = lexF t (x ++ [⟨12, 0⟩]) := by
  refine (lex_of_long 38 t x (by decide) (by decide) (by decide) 12 1 (by decide) (fun n hn => ?_))
  rw [longL_one 38 t ( by
    intro y hy
    simp only [lexT, List.mem_cons, List.mem_nil_iff, or_false] at hy
    rcases hy with rfl | rfl | rfl | rfl | rfl | rfl | rfl | rfl | rfl | rfl | rfl | rfl | rfl | rfl | rfl | rfl | rfl | rfl | rfl <;> simp [List.isPrefixOf]), hn, long_38]
  rfl
theorem long_124 : longL [124] 19 = (13, 1) := by kernel_rfl
theorem lex_124 (t : List UInt8) (x : List S33) : lexF (124 :: t) x = lexF t (x ++ [⟨13, 0⟩]) := by
  refine (lex_of_long 124 t x (by decide) (by decide) (by decide) 13 1 (by decide) (fun n hn => ?_))
  rw [longL_one 124 t ( by
    intro y hy
    simp only [lexT, List.mem_cons, List.mem_nil_iff, or_false] at hy
    rcases hy with rfl | rfl | rfl | rfl | rfl | rfl | rfl | rfl | rfl | rfl | rfl | rfl | rfl | rfl | rfl | rfl | rfl | rfl | rfl <;> simp [List.isPrefixOf]), hn, long_124]
  rfl
theorem long_40 : longL [40] 19 = (15, 1) := by kernel_rfl
theorem lex_40 (t : List UInt8) (x : List S33) : lexF (40 :: t) x = lexF t (x ++ [⟨15, 0⟩]) := by
  refine (lex_of_long 40 t x (by decide) (by decide) (by decide) 15 1 (by decide) (fun n hn => ?_))
  rw [longL_one 40 t ( by
    intro y hy
    simp only [lexT, List.mem_cons, List.mem_nil_iff, or_false] at hy
    rcases hy with rfl | rfl | rfl | rfl | rfl | rfl | rfl | rfl | rfl | rfl | rfl | rfl | rfl | rfl | rfl | rfl | rfl | rfl | rfl <;> simp [List.isPrefixOf]), hn, long_40]
  rfl
theorem long_41 : longL [41] 19 = (16, 1) := by kernel_rfl
theorem lex_41 (t : List UInt8) (x : List S33) : lexF (41 :: t) x = lexF t (x ++ [⟨16, 0⟩]) := by
  refine (lex_of_long 41 t x (by decide) (by decide) (by decide) 16 1 (by decide) (fun n hn => ?_))
  rw [longL_one 41 t ( by
    intro y hy
    simp only [lexT, List.mem_cons, List.mem_nil_iff, or_false] at hy
    rcases hy with rfl | rfl | rfl | rfl | rfl | rfl | rfl | rfl | rfl | rfl | rfl | rfl | rfl | rfl | rfl | rfl | rfl | rfl | rfl <;> simp [List.isPrefixOf]), hn, long_41]
  rfl
theorem long_91 : longL [91] 19 = (17, 1) := by kernel_rfl
theorem lex_91 (t : List UInt8) (x : List S33) : lexF (91 :: t) x = lexF t (x ++ [⟨17, 0⟩]) := by
  refine (lex_of_long 91 t x (by decide) (by decide) (by decide) 17 1 (by decide) (fun n hn => ?_))
  rw [longL_one 91 t ( by
    intro y hy
    simp only [lexT, List.mem_cons, List.mem_nil_iff, or_false] at hy
    rcases hy with rfl | rfl | rfl | rfl | rfl | rfl | rfl | rfl | rfl | rfl | rfl | rfl | rfl | rfl | rfl | rfl | rfl | rfl | rfl <;> simp [List.isPrefixOf]), hn, long_91]
  rfl
theorem long_93 : longL [93] 19 = (18, 1) := by kernel_rfl
theorem lex_93 (t : List UInt8) (x : List S33) : lexF (93 :: t) x = lexF t (x ++ [⟨18, 0⟩]) := by
  refine (lex_of_long 93 t x (by decide) (by decide) (by decide) 18 1 (by decide) (fun n hn => ?_))
  rw [longL_one 93 t ( by
    intro y hy
    simp only [lexT, List.mem_cons, List.mem_nil_iff, or_false] at hy
    rcases hy with rfl | rfl | rfl | rfl | rfl | rfl | rfl | rfl | rfl | rfl | rfl | rfl | rfl | rfl | rfl | rfl | rfl | rfl | rfl <;> simp [List.isPrefixOf]), hn, long_93]
  rfl
theorem longL_two (c d : UInt8) (t : List UInt8) (h : ∀ x ∈ lexT, x.data.toList.isPrefixOf (c :: d :: t) = x.data.toList.isPrefixOf [c, d]) : ∀ k, longL (c :: d :: t) k = longL [c, d] k
  | 0 => rfl
  | k + 1 => by
    unfold longL
    rw [longL_two c d t h k]
    unfold Lib.hasPrefix
    have e : (lexT.getD k ⟨#[]⟩).data.toList.isPrefixOf (c :: d :: t) = (lexT.getD k ⟨#[]⟩).data.toList.isPrefixOf [c, d] := by
      by_cases hk : k < lexT.length
      · have e : lexT.getD k ⟨#[]⟩ = lexT[k] := by simp [List.getD, hk]
        rw [e]
        exact h _ (List.getElem_mem hk)
      · have e : lexT.getD k ⟨#[]⟩ = ⟨#[]⟩ := by rw [List.getD_eq_getElem?_getD, List.getElem?_eq_none (by omega)]; rfl
        rw [e]; simp
    rw [e]
theorem long_60_49 : longL [60, 49] 19 = (6, 1) := by kernel_rfl
theorem lex_60_49 (t : List UInt8) (x : List S33) : lexF (60 :: 49 :: t) x = lexF (49 :: t) (x ++ [⟨6, 0⟩]) := by
  refine (lex_of_long 60 (49 :: t) x (by decide) (by decide) (by decide) 6 1 (by decide) (fun n hn => ?_))
  rw [longL_two 60 49 t ( by
    intro y hy
    simp only [lexT, List.mem_cons, List.mem_nil_iff, or_false] at hy
    rcases hy with rfl | rfl | rfl | rfl | rfl | rfl | rfl | rfl | rfl | rfl | rfl | rfl | rfl | rfl | rfl | rfl | rfl | rfl | rfl <;> simp [List.isPrefixOf]), hn, long_60_49]
  rfl
theorem long_33_61 : longL [33, 61] 19 = (11, 2) := by kernel_rfl
theorem lex_33_61 (t : List UInt8) (x : List S33) : lexF (33 :: 61 :: t) x = lexF (t) (x ++ [⟨11, 0⟩]) := by
  refine (lex_of_long 33 (61 :: t) x (by decide) (by decide) (by decide) 11 2 (by decide) (fun n hn => ?_))
  rw [longL_two 33 61 t ( by
    intro y hy
    simp only [lexT, List.mem_cons, List.mem_nil_iff, or_false] at hy
    rcases hy with rfl | rfl | rfl | rfl | rfl | rfl | rfl | rfl | rfl | rfl | rfl | rfl | rfl | rfl | rfl | rfl | rfl | rfl | rfl <;> simp [List.isPrefixOf]), hn, long_33_61]
  rfl
theorem long_62_61 : longL [62, 61] 19 = (9, 2) := by kernel_rfl
theorem lex_62_61 (t : List UInt8) (x : List S33) : lexF (62 :: 61 :: t) x = lexF (t) (x ++ [⟨9, 0⟩]) := by
  refine (lex_of_long 62 (61 :: t) x (by decide) (by decide) (by decide) 9 2 (by decide) (fun n hn => ?_))
  rw [longL_two 62 61 t ( by
    intro y hy
    simp only [lexT, List.mem_cons, List.mem_nil_iff, or_false] at hy
    rcases hy with rfl | rfl | rfl | rfl | rfl | rfl | rfl | rfl | rfl | rfl | rfl | rfl | rfl | rfl | rfl | rfl | rfl | rfl | rfl <;> simp [List.isPrefixOf]), hn, long_62_61]
  rfl
theorem long_33_40 : longL [33, 40] 19 = (14, 1) := by kernel_rfl
theorem lex_33_40 (t : List UInt8) (x : List S33) : lexF (33 :: 40 :: t) x = lexF (40 :: t) (x ++ [⟨14, 0⟩]) := by
  refine (lex_of_long 33 (40 :: t) x (by decide) (by decide) (by decide) 14 1 (by decide) (fun n hn => ?_))
  rw [longL_two 33 40 t ( by
    intro y hy
    simp only [lexT, List.mem_cons, List.mem_nil_iff, or_false] at hy
    rcases hy with rfl | rfl | rfl | rfl | rfl | rfl | rfl | rfl | rfl | rfl | rfl | rfl | rfl | rfl | rfl | rfl | rfl | rfl | rfl <;> simp [List.isPrefixOf]), hn, long_33_40]
  rfl
theorem long_33 : longL [33] 19 = (14, 1) := by kernel_rfl
theorem lex_33_nm (a : Nat) (h : a < 26) (t : List UInt8) (x : List S33) : lexF (33 :: nm a :: t) x = lexF (nm a :: t) (x ++ [⟨14, 0⟩]) := by
  have hne : (61 == nm a) = false := beq_eq_false_iff_ne.2 (fun e => nm_ne a h 61 (by decide) e.symm)
  refine (lex_of_long 33 (nm a :: t) x (by decide) (by decide) (by decide) 14 1 (by decide) (fun n hn => ?_))
  rw [longL_one 33 (nm a :: t) (by
    intro y hy
    simp only [lexT, List.mem_cons, List.mem_nil_iff, or_false] at hy
    rcases hy with rfl | rfl | rfl | rfl | rfl | rfl | rfl | rfl | rfl | rfl | rfl | rfl | rfl | rfl | rfl | rfl | rfl | rfl | rfl <;> simp [List.isPrefixOf, hne]), hn, long_33]
  rfl
/-- The number 1, ahead of what is no digit. -/
theorem lex_1 (t : List UInt8) (x : List S33) (h : t.takeWhile dg = []) : lexF (49 :: t) x = lexF t (x ++ [⟨1, 1⟩]) := by
  have e : (49 :: t).takeWhile dg = [49] := by rw [List.takeWhile_cons, if_pos (by decide), h]
  rw [lexF_num 49 t x (by decide), e]
  rw [if_neg (by decide), if_neg (by decide)]
  rfl
theorem lex_end (x : List S33) : lexF [] x = some (x, 0) := rfl
theorem tw_sym (c : UInt8) (t : List UInt8) (h : dg c = false) : (c :: t).takeWhile dg = [] := by rw [List.takeWhile_cons, if_neg (by rw [h]; decide)]
theorem tw_nil : ([] : List UInt8).takeWhile dg = [] := rfl
theorem left_1a (a0 a1 a2 : Nat) (h0 : a0 < 26) (h1 : a1 < 26) (h2 : a2 < 26) (p : Int) (p' : UInt8) (hp : (p = 3 ∧ p' = 43) ∨ (p = 4 ∧ p' = 45)) (q : Int) (q' : UInt8) (hq : (q = 3 ∧ q' = 43) ∨ (q = 4 ∧ q' = 45)) : Gx [nm a0, p', nm a1, q', nm a2, 60, 49] [⟨2, (a0 : Int)⟩, ⟨2, (a1 : Int)⟩, ⟨p, 0⟩, ⟨2, (a2 : Int)⟩, ⟨q, 0⟩, ⟨1, 1⟩, ⟨6, 0⟩] := by
  rcases hp with ⟨rfl, rfl⟩ | ⟨rfl, rfl⟩ <;> rcases hq with ⟨rfl, rfl⟩ | ⟨rfl, rfl⟩
  · skip
    exact ⟨[⟨2, (a0 : Int)⟩, ⟨3, 0⟩, ⟨2, (a1 : Int)⟩, ⟨3, 0⟩, ⟨2, (a2 : Int)⟩, ⟨6, 0⟩, ⟨1, 1⟩], by unfold Lx; rw [lex_nm a0 h0, lex_43, lex_nm a1 h1, lex_43, lex_nm a2 h2, lex_60_49, lex_1 _ _ (tw_nil), lex_end]; rfl, 40, by kernel_rfl⟩
  · skip
    exact ⟨[⟨2, (a0 : Int)⟩, ⟨3, 0⟩, ⟨2, (a1 : Int)⟩, ⟨4, 0⟩, ⟨2, (a2 : Int)⟩, ⟨6, 0⟩, ⟨1, 1⟩], by unfold Lx; rw [lex_nm a0 h0, lex_43, lex_nm a1 h1, lex_45, lex_nm a2 h2, lex_60_49, lex_1 _ _ (tw_nil), lex_end]; rfl, 40, by kernel_rfl⟩
  · skip
    exact ⟨[⟨2, (a0 : Int)⟩, ⟨4, 0⟩, ⟨2, (a1 : Int)⟩, ⟨3, 0⟩, ⟨2, (a2 : Int)⟩, ⟨6, 0⟩, ⟨1, 1⟩], by unfold Lx; rw [lex_nm a0 h0, lex_45, lex_nm a1 h1, lex_43, lex_nm a2 h2, lex_60_49, lex_1 _ _ (tw_nil), lex_end]; rfl, 40, by kernel_rfl⟩
  · skip
    exact ⟨[⟨2, (a0 : Int)⟩, ⟨4, 0⟩, ⟨2, (a1 : Int)⟩, ⟨4, 0⟩, ⟨2, (a2 : Int)⟩, ⟨6, 0⟩, ⟨1, 1⟩], by unfold Lx; rw [lex_nm a0 h0, lex_45, lex_nm a1 h1, lex_45, lex_nm a2 h2, lex_60_49, lex_1 _ _ (tw_nil), lex_end]; rfl, 40, by kernel_rfl⟩
theorem left_1b (a0 a1 a2 : Nat) (h0 : a0 < 26) (h1 : a1 < 26) (h2 : a2 < 26) (p : Int) (p' : UInt8) (hp : (p = 3 ∧ p' = 43) ∨ (p = 4 ∧ p' = 45)) (q : Int) (q' : UInt8) (hq : (q = 3 ∧ q' = 43) ∨ (q = 4 ∧ q' = 45)) : Gx [91, nm a0, p', nm a1, 93, q', nm a2, 60, 49] [⟨2, (a0 : Int)⟩, ⟨2, (a1 : Int)⟩, ⟨p, 0⟩, ⟨2, (a2 : Int)⟩, ⟨q, 0⟩, ⟨1, 1⟩, ⟨6, 0⟩] := by
  rcases hp with ⟨rfl, rfl⟩ | ⟨rfl, rfl⟩ <;> rcases hq with ⟨rfl, rfl⟩ | ⟨rfl, rfl⟩
  · skip
    exact ⟨[⟨17, 0⟩, ⟨2, (a0 : Int)⟩, ⟨3, 0⟩, ⟨2, (a1 : Int)⟩, ⟨18, 0⟩, ⟨3, 0⟩, ⟨2, (a2 : Int)⟩, ⟨6, 0⟩, ⟨1, 1⟩], by unfold Lx; rw [lex_91, lex_nm a0 h0, lex_43, lex_nm a1 h1, lex_93, lex_43, lex_nm a2 h2, lex_60_49, lex_1 _ _ (tw_nil), lex_end]; rfl, 40, by kernel_rfl⟩
  · skip
    exact ⟨[⟨17, 0⟩, ⟨2, (a0 : Int)⟩, ⟨3, 0⟩, ⟨2, (a1 : Int)⟩, ⟨18, 0⟩, ⟨4, 0⟩, ⟨2, (a2 : Int)⟩, ⟨6, 0⟩, ⟨1, 1⟩], by unfold Lx; rw [lex_91, lex_nm a0 h0, lex_43, lex_nm a1 h1, lex_93, lex_45, lex_nm a2 h2, lex_60_49, lex_1 _ _ (tw_nil), lex_end]; rfl, 40, by kernel_rfl⟩
  · skip
    exact ⟨[⟨17, 0⟩, ⟨2, (a0 : Int)⟩, ⟨4, 0⟩, ⟨2, (a1 : Int)⟩, ⟨18, 0⟩, ⟨3, 0⟩, ⟨2, (a2 : Int)⟩, ⟨6, 0⟩, ⟨1, 1⟩], by unfold Lx; rw [lex_91, lex_nm a0 h0, lex_45, lex_nm a1 h1, lex_93, lex_43, lex_nm a2 h2, lex_60_49, lex_1 _ _ (tw_nil), lex_end]; rfl, 40, by kernel_rfl⟩
  · skip
    exact ⟨[⟨17, 0⟩, ⟨2, (a0 : Int)⟩, ⟨4, 0⟩, ⟨2, (a1 : Int)⟩, ⟨18, 0⟩, ⟨4, 0⟩, ⟨2, (a2 : Int)⟩, ⟨6, 0⟩, ⟨1, 1⟩], by unfold Lx; rw [lex_91, lex_nm a0 h0, lex_45, lex_nm a1 h1, lex_93, lex_45, lex_nm a2 h2, lex_60_49, lex_1 _ _ (tw_nil), lex_end]; rfl, 40, by kernel_rfl⟩
theorem left_2a (a0 a1 a2 : Nat) (h0 : a0 < 26) (h1 : a1 < 26) (h2 : a2 < 26) (p : Int) (p' : UInt8) (hp : (p = 3 ∧ p' = 43) ∨ (p = 4 ∧ p' = 45)) : Gx [nm a0, p', nm a1, 42, nm a2, 60, 49] [⟨2, (a0 : Int)⟩, ⟨2, (a1 : Int)⟩, ⟨2, (a2 : Int)⟩, ⟨5, 0⟩, ⟨p, 0⟩, ⟨1, 1⟩, ⟨6, 0⟩] := by
  rcases hp with ⟨rfl, rfl⟩ | ⟨rfl, rfl⟩
  · skip
    exact ⟨[⟨2, (a0 : Int)⟩, ⟨3, 0⟩, ⟨2, (a1 : Int)⟩, ⟨5, 0⟩, ⟨2, (a2 : Int)⟩, ⟨6, 0⟩, ⟨1, 1⟩], by unfold Lx; rw [lex_nm a0 h0, lex_43, lex_nm a1 h1, lex_42, lex_nm a2 h2, lex_60_49, lex_1 _ _ (tw_nil), lex_end]; rfl, 40, by kernel_rfl⟩
  · skip
    exact ⟨[⟨2, (a0 : Int)⟩, ⟨4, 0⟩, ⟨2, (a1 : Int)⟩, ⟨5, 0⟩, ⟨2, (a2 : Int)⟩, ⟨6, 0⟩, ⟨1, 1⟩], by unfold Lx; rw [lex_nm a0 h0, lex_45, lex_nm a1 h1, lex_42, lex_nm a2 h2, lex_60_49, lex_1 _ _ (tw_nil), lex_end]; rfl, 40, by kernel_rfl⟩
theorem left_2b (a0 a1 a2 : Nat) (h0 : a0 < 26) (h1 : a1 < 26) (h2 : a2 < 26) (p : Int) (p' : UInt8) (hp : (p = 3 ∧ p' = 43) ∨ (p = 4 ∧ p' = 45)) : Gx [nm a0, p', 91, nm a1, 42, nm a2, 93, 60, 49] [⟨2, (a0 : Int)⟩, ⟨2, (a1 : Int)⟩, ⟨2, (a2 : Int)⟩, ⟨5, 0⟩, ⟨p, 0⟩, ⟨1, 1⟩, ⟨6, 0⟩] := by
  rcases hp with ⟨rfl, rfl⟩ | ⟨rfl, rfl⟩
  · skip
    exact ⟨[⟨2, (a0 : Int)⟩, ⟨3, 0⟩, ⟨17, 0⟩, ⟨2, (a1 : Int)⟩, ⟨5, 0⟩, ⟨2, (a2 : Int)⟩, ⟨18, 0⟩, ⟨6, 0⟩, ⟨1, 1⟩], by unfold Lx; rw [lex_nm a0 h0, lex_43, lex_91, lex_nm a1 h1, lex_42, lex_nm a2 h2, lex_93, lex_60_49, lex_1 _ _ (tw_nil), lex_end]; rfl, 40, by kernel_rfl⟩
  · skip
    exact ⟨[⟨2, (a0 : Int)⟩, ⟨4, 0⟩, ⟨17, 0⟩, ⟨2, (a1 : Int)⟩, ⟨5, 0⟩, ⟨2, (a2 : Int)⟩, ⟨18, 0⟩, ⟨6, 0⟩, ⟨1, 1⟩], by unfold Lx; rw [lex_nm a0 h0, lex_45, lex_91, lex_nm a1 h1, lex_42, lex_nm a2 h2, lex_93, lex_60_49, lex_1 _ _ (tw_nil), lex_end]; rfl, 40, by kernel_rfl⟩
theorem left_3a (a0 a1 a2 : Nat) (h0 : a0 < 26) (h1 : a1 < 26) (h2 : a2 < 26)  : Gx [nm a0, 42, nm a1, 42, nm a2, 33, 61, 49] [⟨2, (a0 : Int)⟩, ⟨2, (a1 : Int)⟩, ⟨5, 0⟩, ⟨2, (a2 : Int)⟩, ⟨5, 0⟩, ⟨1, 1⟩, ⟨11, 0⟩] := by
  exact ⟨[⟨2, (a0 : Int)⟩, ⟨5, 0⟩, ⟨2, (a1 : Int)⟩, ⟨5, 0⟩, ⟨2, (a2 : Int)⟩, ⟨11, 0⟩, ⟨1, 1⟩], by unfold Lx; rw [lex_nm a0 h0, lex_42, lex_nm a1 h1, lex_42, lex_nm a2 h2, lex_33_61, lex_1 _ _ (tw_nil), lex_end]; rfl, 40, by kernel_rfl⟩
theorem left_3b (a0 a1 a2 : Nat) (h0 : a0 < 26) (h1 : a1 < 26) (h2 : a2 < 26)  : Gx [91, nm a0, 42, nm a1, 93, 42, nm a2, 33, 61, 49] [⟨2, (a0 : Int)⟩, ⟨2, (a1 : Int)⟩, ⟨5, 0⟩, ⟨2, (a2 : Int)⟩, ⟨5, 0⟩, ⟨1, 1⟩, ⟨11, 0⟩] := by
  exact ⟨[⟨17, 0⟩, ⟨2, (a0 : Int)⟩, ⟨5, 0⟩, ⟨2, (a1 : Int)⟩, ⟨18, 0⟩, ⟨5, 0⟩, ⟨2, (a2 : Int)⟩, ⟨11, 0⟩, ⟨1, 1⟩], by unfold Lx; rw [lex_91, lex_nm a0 h0, lex_42, lex_nm a1 h1, lex_93, lex_42, lex_nm a2 h2, lex_33_61, lex_1 _ _ (tw_nil), lex_end]; rfl, 40, by kernel_rfl⟩
theorem left_4a (a0 a1 a2 : Nat) (h0 : a0 < 26) (h1 : a1 < 26) (h2 : a2 < 26) (p : Int) (p' : UInt8) (hp : (p = 3 ∧ p' = 43) ∨ (p = 4 ∧ p' = 45)) : Gx [45, nm a0, 42, nm a1, p', nm a2, 62, 61, 49] [⟨2, (a0 : Int)⟩, ⟨19, 0⟩, ⟨2, (a1 : Int)⟩, ⟨5, 0⟩, ⟨2, (a2 : Int)⟩, ⟨p, 0⟩, ⟨1, 1⟩, ⟨9, 0⟩] := by
  rcases hp with ⟨rfl, rfl⟩ | ⟨rfl, rfl⟩
  · skip
    exact ⟨[⟨4, 0⟩, ⟨2, (a0 : Int)⟩, ⟨5, 0⟩, ⟨2, (a1 : Int)⟩, ⟨3, 0⟩, ⟨2, (a2 : Int)⟩, ⟨9, 0⟩, ⟨1, 1⟩], by unfold Lx; rw [lex_45, lex_nm a0 h0, lex_42, lex_nm a1 h1, lex_43, lex_nm a2 h2, lex_62_61, lex_1 _ _ (tw_nil), lex_end]; rfl, 40, by kernel_rfl⟩
  · skip
    exact ⟨[⟨4, 0⟩, ⟨2, (a0 : Int)⟩, ⟨5, 0⟩, ⟨2, (a1 : Int)⟩, ⟨4, 0⟩, ⟨2, (a2 : Int)⟩, ⟨9, 0⟩, ⟨1, 1⟩], by unfold Lx; rw [lex_45, lex_nm a0 h0, lex_42, lex_nm a1 h1, lex_45, lex_nm a2 h2, lex_62_61, lex_1 _ _ (tw_nil), lex_end]; rfl, 40, by kernel_rfl⟩
theorem left_4b (a0 a1 a2 : Nat) (h0 : a0 < 26) (h1 : a1 < 26) (h2 : a2 < 26) (p : Int) (p' : UInt8) (hp : (p = 3 ∧ p' = 43) ∨ (p = 4 ∧ p' = 45)) : Gx [91, 91, 45, nm a0, 93, 42, nm a1, 93, p', nm a2, 62, 61, 49] [⟨2, (a0 : Int)⟩, ⟨19, 0⟩, ⟨2, (a1 : Int)⟩, ⟨5, 0⟩, ⟨2, (a2 : Int)⟩, ⟨p, 0⟩, ⟨1, 1⟩, ⟨9, 0⟩] := by
  rcases hp with ⟨rfl, rfl⟩ | ⟨rfl, rfl⟩
  · skip
    exact ⟨[⟨17, 0⟩, ⟨17, 0⟩, ⟨4, 0⟩, ⟨2, (a0 : Int)⟩, ⟨18, 0⟩, ⟨5, 0⟩, ⟨2, (a1 : Int)⟩, ⟨18, 0⟩, ⟨3, 0⟩, ⟨2, (a2 : Int)⟩, ⟨9, 0⟩, ⟨1, 1⟩], by unfold Lx; rw [lex_91, lex_91, lex_45, lex_nm a0 h0, lex_93, lex_42, lex_nm a1 h1, lex_93, lex_43, lex_nm a2 h2, lex_62_61, lex_1 _ _ (tw_nil), lex_end]; rfl, 40, by kernel_rfl⟩
  · skip
    exact ⟨[⟨17, 0⟩, ⟨17, 0⟩, ⟨4, 0⟩, ⟨2, (a0 : Int)⟩, ⟨18, 0⟩, ⟨5, 0⟩, ⟨2, (a1 : Int)⟩, ⟨18, 0⟩, ⟨4, 0⟩, ⟨2, (a2 : Int)⟩, ⟨9, 0⟩, ⟨1, 1⟩], by unfold Lx; rw [lex_91, lex_91, lex_45, lex_nm a0 h0, lex_93, lex_42, lex_nm a1 h1, lex_93, lex_45, lex_nm a2 h2, lex_62_61, lex_1 _ _ (tw_nil), lex_end]; rfl, 40, by kernel_rfl⟩
theorem left_5a (a0 a1 a2 : Nat) (h0 : a0 < 26) (h1 : a1 < 26) (h2 : a2 < 26)  : Gx [nm a0, 60, 49, 124, nm a1, 60, 49, 38, nm a2, 60, 49] [⟨2, (a0 : Int)⟩, ⟨1, 1⟩, ⟨6, 0⟩, ⟨2, (a1 : Int)⟩, ⟨1, 1⟩, ⟨6, 0⟩, ⟨2, (a2 : Int)⟩, ⟨1, 1⟩, ⟨6, 0⟩, ⟨12, 0⟩, ⟨13, 0⟩] := by
  exact ⟨[⟨2, (a0 : Int)⟩, ⟨6, 0⟩, ⟨1, 1⟩, ⟨13, 0⟩, ⟨2, (a1 : Int)⟩, ⟨6, 0⟩, ⟨1, 1⟩, ⟨12, 0⟩, ⟨2, (a2 : Int)⟩, ⟨6, 0⟩, ⟨1, 1⟩], by unfold Lx; rw [lex_nm a0 h0, lex_60_49, lex_1 _ _ (tw_sym _ _ (by decide)), lex_124, lex_nm a1 h1, lex_60_49, lex_1 _ _ (tw_sym _ _ (by decide)), lex_38, lex_nm a2 h2, lex_60_49, lex_1 _ _ (tw_nil), lex_end]; rfl, 40, by kernel_rfl⟩
theorem left_5b (a0 a1 a2 : Nat) (h0 : a0 < 26) (h1 : a1 < 26) (h2 : a2 < 26)  : Gx [nm a0, 60, 49, 124, 40, nm a1, 60, 49, 38, nm a2, 60, 49, 41] [⟨2, (a0 : Int)⟩, ⟨1, 1⟩, ⟨6, 0⟩, ⟨2, (a1 : Int)⟩, ⟨1, 1⟩, ⟨6, 0⟩, ⟨2, (a2 : Int)⟩, ⟨1, 1⟩, ⟨6, 0⟩, ⟨12, 0⟩, ⟨13, 0⟩] := by
  exact ⟨[⟨2, (a0 : Int)⟩, ⟨6, 0⟩, ⟨1, 1⟩, ⟨13, 0⟩, ⟨15, 0⟩, ⟨2, (a1 : Int)⟩, ⟨6, 0⟩, ⟨1, 1⟩, ⟨12, 0⟩, ⟨2, (a2 : Int)⟩, ⟨6, 0⟩, ⟨1, 1⟩, ⟨16, 0⟩], by unfold Lx; rw [lex_nm a0 h0, lex_60_49, lex_1 _ _ (tw_sym _ _ (by decide)), lex_124, lex_40, lex_nm a1 h1, lex_60_49, lex_1 _ _ (tw_sym _ _ (by decide)), lex_38, lex_nm a2 h2, lex_60_49, lex_1 _ _ (tw_sym _ _ (by decide)), lex_41, lex_end]; rfl, 40, by kernel_rfl⟩
theorem left_6a (a0 a1 : Nat) (h0 : a0 < 26) (h1 : a1 < 26)  : Gx [33, nm a0, 60, 49, 38, nm a1, 60, 49] [⟨2, (a0 : Int)⟩, ⟨1, 1⟩, ⟨6, 0⟩, ⟨14, 0⟩, ⟨2, (a1 : Int)⟩, ⟨1, 1⟩, ⟨6, 0⟩, ⟨12, 0⟩] := by
  exact ⟨[⟨14, 0⟩, ⟨2, (a0 : Int)⟩, ⟨6, 0⟩, ⟨1, 1⟩, ⟨12, 0⟩, ⟨2, (a1 : Int)⟩, ⟨6, 0⟩, ⟨1, 1⟩], by unfold Lx; rw [lex_33_nm a0 h0, lex_nm a0 h0, lex_60_49, lex_1 _ _ (tw_sym _ _ (by decide)), lex_38, lex_nm a1 h1, lex_60_49, lex_1 _ _ (tw_nil), lex_end]; rfl, 40, by kernel_rfl⟩
theorem left_6b (a0 a1 : Nat) (h0 : a0 < 26) (h1 : a1 < 26)  : Gx [40, 33, 40, nm a0, 60, 49, 41, 41, 38, nm a1, 60, 49] [⟨2, (a0 : Int)⟩, ⟨1, 1⟩, ⟨6, 0⟩, ⟨14, 0⟩, ⟨2, (a1 : Int)⟩, ⟨1, 1⟩, ⟨6, 0⟩, ⟨12, 0⟩] := by
  exact ⟨[⟨15, 0⟩, ⟨14, 0⟩, ⟨15, 0⟩, ⟨2, (a0 : Int)⟩, ⟨6, 0⟩, ⟨1, 1⟩, ⟨16, 0⟩, ⟨16, 0⟩, ⟨12, 0⟩, ⟨2, (a1 : Int)⟩, ⟨6, 0⟩, ⟨1, 1⟩], by unfold Lx; rw [lex_40, lex_33_40, lex_40, lex_nm a0 h0, lex_60_49, lex_1 _ _ (tw_sym _ _ (by decide)), lex_41, lex_41, lex_38, lex_nm a1 h1, lex_60_49, lex_1 _ _ (tw_nil), lex_end]; rfl, 40, by kernel_rfl⟩
theorem left_7b (a0 a1 a2 : Nat) (h0 : a0 < 26) (h1 : a1 < 26) (h2 : a2 < 26) (p : Int) (p' : UInt8) (hp : (p = 3 ∧ p' = 43) ∨ (p = 4 ∧ p' = 45)) (q : Int) (q' : UInt8) (hq : (q = 3 ∧ q' = 43) ∨ (q = 4 ∧ q' = 45)) : Gx [nm a0, p', 91, nm a1, q', nm a2, 93, 60, 49] [⟨2, (a0 : Int)⟩, ⟨2, (a1 : Int)⟩, ⟨2, (a2 : Int)⟩, ⟨q, 0⟩, ⟨p, 0⟩, ⟨1, 1⟩, ⟨6, 0⟩] := by
  rcases hp with ⟨rfl, rfl⟩ | ⟨rfl, rfl⟩ <;> rcases hq with ⟨rfl, rfl⟩ | ⟨rfl, rfl⟩
  · skip
    exact ⟨[⟨2, (a0 : Int)⟩, ⟨3, 0⟩, ⟨17, 0⟩, ⟨2, (a1 : Int)⟩, ⟨3, 0⟩, ⟨2, (a2 : Int)⟩, ⟨18, 0⟩, ⟨6, 0⟩, ⟨1, 1⟩], by unfold Lx; rw [lex_nm a0 h0, lex_43, lex_91, lex_nm a1 h1, lex_43, lex_nm a2 h2, lex_93, lex_60_49, lex_1 _ _ (tw_nil), lex_end]; rfl, 40, by kernel_rfl⟩
  · skip
    exact ⟨[⟨2, (a0 : Int)⟩, ⟨3, 0⟩, ⟨17, 0⟩, ⟨2, (a1 : Int)⟩, ⟨4, 0⟩, ⟨2, (a2 : Int)⟩, ⟨18, 0⟩, ⟨6, 0⟩, ⟨1, 1⟩], by unfold Lx; rw [lex_nm a0 h0, lex_43, lex_91, lex_nm a1 h1, lex_45, lex_nm a2 h2, lex_93, lex_60_49, lex_1 _ _ (tw_nil), lex_end]; rfl, 40, by kernel_rfl⟩
  · skip
    exact ⟨[⟨2, (a0 : Int)⟩, ⟨4, 0⟩, ⟨17, 0⟩, ⟨2, (a1 : Int)⟩, ⟨3, 0⟩, ⟨2, (a2 : Int)⟩, ⟨18, 0⟩, ⟨6, 0⟩, ⟨1, 1⟩], by unfold Lx; rw [lex_nm a0 h0, lex_45, lex_91, lex_nm a1 h1, lex_43, lex_nm a2 h2, lex_93, lex_60_49, lex_1 _ _ (tw_nil), lex_end]; rfl, 40, by kernel_rfl⟩
  · skip
    exact ⟨[⟨2, (a0 : Int)⟩, ⟨4, 0⟩, ⟨17, 0⟩, ⟨2, (a1 : Int)⟩, ⟨4, 0⟩, ⟨2, (a2 : Int)⟩, ⟨18, 0⟩, ⟨6, 0⟩, ⟨1, 1⟩], by unfold Lx; rw [lex_nm a0 h0, lex_45, lex_91, lex_nm a1 h1, lex_45, lex_nm a2 h2, lex_93, lex_60_49, lex_1 _ _ (tw_nil), lex_end]; rfl, 40, by kernel_rfl⟩
end Go.Proofs.YtikbgoppmailjaaDoor.Pure
/- GuardLeft: what is said of numbers goes from the left, a product ahead of sums; brackets turn that. -/
namespace Go.Proofs.YtikbgoppmailjaaDoor.Pure
open Go.RowKit Go.Proofs.YtikbgoppmailjaaDoor.H Go.Proofs.YtikbgoppmailjaaDoorW.PrintWords Go.Proofs.YtikbgoppmailjaaDoorW.PrintLast Go.Proofs.YtikbgoppmailjaaDoorW.PrintMore
set_option linter.unusedVariables false
set_option linter.unusedSimpArgs false
theorem text_nm (a : Nat) (h : a < 26) : remontoirref13_Text.f 60 2 (a : Int) = some ⟨#[nm a]⟩ := by
  obtain rfl | rfl | rfl | rfl | rfl | rfl | rfl | rfl | rfl | rfl | rfl | rfl | rfl | rfl | rfl | rfl | rfl | rfl | rfl | rfl | rfl | rfl | rfl | rfl | rfl | rfl : a = 0 ∨ a = 1 ∨ a = 2 ∨ a = 3 ∨ a = 4 ∨ a = 5 ∨ a = 6 ∨ a = 7 ∨ a = 8 ∨ a = 9 ∨ a = 10 ∨ a = 11 ∨ a = 12 ∨ a = 13 ∨ a = 14 ∨ a = 15 ∨ a = 16 ∨ a = 17 ∨ a = 18 ∨ a = 19 ∨ a = 20 ∨ a = 21 ∨ a = 22 ∨ a = 23 ∨ a = 24 ∨ a = 25 := by omega
  all_goals kernel_rfl
theorem text_3 : remontoirlaw14_text.f 60 3 = some ⟨#[43]⟩ := by kernel_rfl
theorem text_4 : remontoirlaw14_text.f 60 4 = some ⟨#[45]⟩ := by kernel_rfl
theorem u8_mod {n : Int} (h : (Lit.int .u8 n).wf = true) : ∃ a : Nat, a < 26 ∧ Int.tmod n 26 = (a : Int) ∧ wrap64 n = n := by
  have h1 : IntKind.u8.min ≤ n ∧ n ≤ IntKind.u8.max := by simpa [Lit.wf] using h
  have h0 : 0 ≤ n ∧ n ≤ 255 := h1
  refine ⟨(n % 26).toNat, by omega, ?_, by unfold wrap64; omega⟩
  rw [Int.tmod_eq_emod_of_nonneg h0.1]; omega
theorem left_differ (a0 a1 a2 : Nat) (p q : Int) (cp : p = 3 ∨ p = 4) (cq : q = 3 ∨ q = 4) (k : Nat) (hk : 50 ≤ k) : remontoirkeep_Signs.f k ([⟨2, (a0 : Int)⟩, ⟨2, (a1 : Int)⟩, ⟨p, 0⟩, ⟨2, (a2 : Int)⟩, ⟨q, 0⟩, ⟨1, 1⟩, ⟨6, 0⟩] : List S33) [⟨2, (a0 : Int)⟩, ⟨2, (a1 : Int)⟩, ⟨2, (a2 : Int)⟩, ⟨q, 0⟩, ⟨p, 0⟩, ⟨1, 1⟩, ⟨6, 0⟩] = some false := by
  refine at_rounds (remontoirkeep_Signs.mono _ _) (Nat.le_trans (show 4 ≤ 50 by omega) hk) ?_
  unfold remontoirkeep_Signs.f
  have hp : (p == 2) = false := by rcases cp with rfl | rfl <;> rfl
  simp [remontoirkeep_Signs.l0, rd_T33, hp, wrap64]
set_option maxRecDepth 100000 in
theorem GuardLeft (n0 n1 n2 : Int) (f g : Bool) (w0 : (Lit.int .u8 n0).wf = true) (w1 : (Lit.int .u8 n1).wf = true) (w2 : (Lit.int .u8 n2).wf = true) : ∃ k, leftOk k n0 n1 n2 f g true := by
  obtain ⟨a0, l0, m0, r0⟩ := u8_mod w0
  obtain ⟨a1, l1, m1, r1⟩ := u8_mod w1
  obtain ⟨a2, l2, m2, r2⟩ := u8_mod w2
  obtain ⟨p, p', pt, pf, cp, hp⟩ : ∃ (p : Int) (p' : UInt8), (f = true → p = 4) ∧ (f = false → p = 3) ∧ ((p = 3 ∧ p' = 43) ∨ (p = 4 ∧ p' = 45)) ∧ remontoirlaw14_text.f 60 p = some ⟨#[p']⟩ := by
    cases f
    · exact ⟨3, 43, by simp, by simp, by simp, text_3⟩
    · exact ⟨4, 45, by simp, by simp, by simp, text_4⟩
  obtain ⟨q, q', qt, qf, cq, hq⟩ : ∃ (p : Int) (p' : UInt8), (g = true → p = 4) ∧ (g = false → p = 3) ∧ ((p = 3 ∧ p' = 43) ∨ (p = 4 ∧ p' = 45)) ∧ remontoirlaw14_text.f 60 p = some ⟨#[p']⟩ := by
    cases g
    · exact ⟨3, 43, by simp, by simp, by simp, text_3⟩
    · exact ⟨4, 45, by simp, by simp, by simp, text_4⟩
  have cp' : p = 3 ∨ p = 4 := cp.elim (fun h => .inl h.1) (fun h => .inr h.1)
  have cq' : q = 3 ∨ q = 4 := cq.elim (fun h => .inl h.1) (fun h => .inr h.1)
  obtain ⟨K1a, u1a⟩ := parse_gx (s := ((((((⟨#[nm a0]⟩ : ByteArray) ++ (⟨#[p']⟩ : ByteArray)) ++ (⟨#[nm a1]⟩ : ByteArray)) ++ (⟨#[q']⟩ : ByteArray)) ++ (⟨#[nm a2]⟩ : ByteArray)) ++ (⟨#[60, 49]⟩ : ByteArray))) (by simp only [ByteArray.size_append]; exact Nat.le_of_ble_eq_true rfl) (by simpa using left_1a a0 a1 a2 l0 l1 l2 p p' cp q q' cq)
  obtain ⟨K1b, u1b⟩ := parse_gx (s := ((((((((⟨#[91]⟩ : ByteArray) ++ (⟨#[nm a0]⟩ : ByteArray)) ++ (⟨#[p']⟩ : ByteArray)) ++ (⟨#[nm a1]⟩ : ByteArray)) ++ (⟨#[93]⟩ : ByteArray)) ++ (⟨#[q']⟩ : ByteArray)) ++ (⟨#[nm a2]⟩ : ByteArray)) ++ (⟨#[60, 49]⟩ : ByteArray))) (by simp only [ByteArray.size_append]; exact Nat.le_of_ble_eq_true rfl) (by simpa using left_1b a0 a1 a2 l0 l1 l2 p p' cp q q' cq)
  obtain ⟨K2a, u2a⟩ := parse_gx (s := ((((((⟨#[nm a0]⟩ : ByteArray) ++ (⟨#[p']⟩ : ByteArray)) ++ (⟨#[nm a1]⟩ : ByteArray)) ++ (⟨#[42]⟩ : ByteArray)) ++ (⟨#[nm a2]⟩ : ByteArray)) ++ (⟨#[60, 49]⟩ : ByteArray))) (by simp only [ByteArray.size_append]; exact Nat.le_of_ble_eq_true rfl) (by simpa using left_2a a0 a1 a2 l0 l1 l2 p p' cp)
  obtain ⟨K2b, u2b⟩ := parse_gx (s := (((((((⟨#[nm a0]⟩ : ByteArray) ++ (⟨#[p']⟩ : ByteArray)) ++ (⟨#[91]⟩ : ByteArray)) ++ (⟨#[nm a1]⟩ : ByteArray)) ++ (⟨#[42]⟩ : ByteArray)) ++ (⟨#[nm a2]⟩ : ByteArray)) ++ (⟨#[93, 60, 49]⟩ : ByteArray))) (by simp only [ByteArray.size_append]; exact Nat.le_of_ble_eq_true rfl) (by simpa using left_2b a0 a1 a2 l0 l1 l2 p p' cp)
  obtain ⟨K3a, u3a⟩ := parse_gx (s := ((((((⟨#[nm a0]⟩ : ByteArray) ++ (⟨#[42]⟩ : ByteArray)) ++ (⟨#[nm a1]⟩ : ByteArray)) ++ (⟨#[42]⟩ : ByteArray)) ++ (⟨#[nm a2]⟩ : ByteArray)) ++ (⟨#[33, 61, 49]⟩ : ByteArray))) (by simp only [ByteArray.size_append]; exact Nat.le_of_ble_eq_true rfl) (by simpa using left_3a a0 a1 a2 l0 l1 l2)
  obtain ⟨K3b, u3b⟩ := parse_gx (s := (((((((⟨#[91]⟩ : ByteArray) ++ (⟨#[nm a0]⟩ : ByteArray)) ++ (⟨#[42]⟩ : ByteArray)) ++ (⟨#[nm a1]⟩ : ByteArray)) ++ (⟨#[93, 42]⟩ : ByteArray)) ++ (⟨#[nm a2]⟩ : ByteArray)) ++ (⟨#[33, 61, 49]⟩ : ByteArray))) (by simp only [ByteArray.size_append]; exact Nat.le_of_ble_eq_true rfl) (by simpa using left_3b a0 a1 a2 l0 l1 l2)
  obtain ⟨K4a, u4a⟩ := parse_gx (s := (((((((⟨#[45]⟩ : ByteArray) ++ (⟨#[nm a0]⟩ : ByteArray)) ++ (⟨#[42]⟩ : ByteArray)) ++ (⟨#[nm a1]⟩ : ByteArray)) ++ (⟨#[p']⟩ : ByteArray)) ++ (⟨#[nm a2]⟩ : ByteArray)) ++ (⟨#[62, 61, 49]⟩ : ByteArray))) (by simp only [ByteArray.size_append]; exact Nat.le_of_ble_eq_true rfl) (by simpa using left_4a a0 a1 a2 l0 l1 l2 p p' cp)
  obtain ⟨K4b, u4b⟩ := parse_gx (s := ((((((((⟨#[91, 91, 45]⟩ : ByteArray) ++ (⟨#[nm a0]⟩ : ByteArray)) ++ (⟨#[93, 42]⟩ : ByteArray)) ++ (⟨#[nm a1]⟩ : ByteArray)) ++ (⟨#[93]⟩ : ByteArray)) ++ (⟨#[p']⟩ : ByteArray)) ++ (⟨#[nm a2]⟩ : ByteArray)) ++ (⟨#[62, 61, 49]⟩ : ByteArray))) (by simp only [ByteArray.size_append]; exact Nat.le_of_ble_eq_true rfl) (by simpa using left_4b a0 a1 a2 l0 l1 l2 p p' cp)
  obtain ⟨K5a, u5a⟩ := parse_gx (s := ((((((⟨#[nm a0]⟩ : ByteArray) ++ (⟨#[60, 49, 124]⟩ : ByteArray)) ++ (⟨#[nm a1]⟩ : ByteArray)) ++ (⟨#[60, 49, 38]⟩ : ByteArray)) ++ (⟨#[nm a2]⟩ : ByteArray)) ++ (⟨#[60, 49]⟩ : ByteArray))) (by simp only [ByteArray.size_append]; exact Nat.le_of_ble_eq_true rfl) (by simpa using left_5a a0 a1 a2 l0 l1 l2)
  obtain ⟨K5b, u5b⟩ := parse_gx (s := ((((((⟨#[nm a0]⟩ : ByteArray) ++ (⟨#[60, 49, 124, 40]⟩ : ByteArray)) ++ (⟨#[nm a1]⟩ : ByteArray)) ++ (⟨#[60, 49, 38]⟩ : ByteArray)) ++ (⟨#[nm a2]⟩ : ByteArray)) ++ (⟨#[60, 49, 41]⟩ : ByteArray))) (by simp only [ByteArray.size_append]; exact Nat.le_of_ble_eq_true rfl) (by simpa using left_5b a0 a1 a2 l0 l1 l2)
  obtain ⟨K6a, u6a⟩ := parse_gx (s := (((((⟨#[33]⟩ : ByteArray) ++ (⟨#[nm a0]⟩ : ByteArray)) ++ (⟨#[60, 49, 38]⟩ : ByteArray)) ++ (⟨#[nm a1]⟩ : ByteArray)) ++ (⟨#[60, 49]⟩ : ByteArray))) (by simp only [ByteArray.size_append]; exact Nat.le_of_ble_eq_true rfl) (by simpa using left_6a a0 a1 l0 l1)
  obtain ⟨K6b, u6b⟩ := parse_gx (s := (((((⟨#[40, 33, 40]⟩ : ByteArray) ++ (⟨#[nm a0]⟩ : ByteArray)) ++ (⟨#[60, 49, 41, 41, 38]⟩ : ByteArray)) ++ (⟨#[nm a1]⟩ : ByteArray)) ++ (⟨#[60, 49]⟩ : ByteArray))) (by simp only [ByteArray.size_append]; exact Nat.le_of_ble_eq_true rfl) (by simpa using left_6b a0 a1 l0 l1)
  obtain ⟨K7b, u7b⟩ := parse_gx (s := (((((((⟨#[nm a0]⟩ : ByteArray) ++ (⟨#[p']⟩ : ByteArray)) ++ (⟨#[91]⟩ : ByteArray)) ++ (⟨#[nm a1]⟩ : ByteArray)) ++ (⟨#[q']⟩ : ByteArray)) ++ (⟨#[nm a2]⟩ : ByteArray)) ++ (⟨#[93, 60, 49]⟩ : ByteArray))) (by simp only [ByteArray.size_append]; exact Nat.le_of_ble_eq_true rfl) (by simpa using left_7b a0 a1 a2 l0 l1 l2 p p' cp q q' cq)
  obtain ⟨K, hK⟩ : ∃ K, K = K1a + K1b + K2a + K2b + K3a + K3b + K4a + K4b + K5a + K5b + K6a + K6b + K7b + 200 := ⟨_, rfl⟩
  refine ⟨K, fun W hT => left_walk K f g p q n0 n1 n2 a0 a1 a2 ⟨#[nm a0]⟩ ⟨#[nm a1]⟩ ⟨#[nm a2]⟩ ⟨#[p']⟩ ⟨#[q']⟩ [⟨2, (a0 : Int)⟩, ⟨2, (a1 : Int)⟩, ⟨p, 0⟩, ⟨2, (a2 : Int)⟩, ⟨q, 0⟩, ⟨1, 1⟩, ⟨6, 0⟩] [⟨2, (a0 : Int)⟩, ⟨2, (a1 : Int)⟩, ⟨2, (a2 : Int)⟩, ⟨5, 0⟩, ⟨p, 0⟩, ⟨1, 1⟩, ⟨6, 0⟩] [⟨2, (a0 : Int)⟩, ⟨2, (a1 : Int)⟩, ⟨5, 0⟩, ⟨2, (a2 : Int)⟩, ⟨5, 0⟩, ⟨1, 1⟩, ⟨11, 0⟩] [⟨2, (a0 : Int)⟩, ⟨19, 0⟩, ⟨2, (a1 : Int)⟩, ⟨5, 0⟩, ⟨2, (a2 : Int)⟩, ⟨p, 0⟩, ⟨1, 1⟩, ⟨9, 0⟩] [⟨2, (a0 : Int)⟩, ⟨1, 1⟩, ⟨6, 0⟩, ⟨2, (a1 : Int)⟩, ⟨1, 1⟩, ⟨6, 0⟩, ⟨2, (a2 : Int)⟩, ⟨1, 1⟩, ⟨6, 0⟩, ⟨12, 0⟩, ⟨13, 0⟩] [⟨2, (a0 : Int)⟩, ⟨1, 1⟩, ⟨6, 0⟩, ⟨14, 0⟩, ⟨2, (a1 : Int)⟩, ⟨1, 1⟩, ⟨6, 0⟩, ⟨12, 0⟩] [⟨2, (a0 : Int)⟩, ⟨2, (a1 : Int)⟩, ⟨2, (a2 : Int)⟩, ⟨q, 0⟩, ⟨p, 0⟩, ⟨1, 1⟩, ⟨6, 0⟩] W hT pt pf qt qf m0 m1 m2 r0 r1 r2 rfl rfl rfl rfl rfl (text_nm a0 l0) (text_nm a1 l1) (text_nm a2 l2) hp hq
    (u1a _ (by omega)) (u1b _ (by omega))
    (u2a _ (by omega)) (u2b _ (by omega))
    (u3a _ (by omega)) (u3b _ (by omega))
    (u4a _ (by omega)) (u4b _ (by omega))
    (u5a _ (by omega)) (u5b _ (by omega))
    (u6a _ (by omega)) (u6b _ (by omega))
    (u7b _ (by omega))
    (signs_same _ (by simp only [List.length_cons, List.length_nil]; omega) _ (by simp only [List.length_cons, List.length_nil]; omega)) (signs_same _ (by simp only [List.length_cons, List.length_nil]; omega) _ (by simp only [List.length_cons, List.length_nil]; omega)) (signs_same _ (by simp only [List.length_cons, List.length_nil]; omega) _ (by simp only [List.length_cons, List.length_nil]; omega)) (signs_same _ (by simp only [List.length_cons, List.length_nil]; omega) _ (by simp only [List.length_cons, List.length_nil]; omega)) (signs_same _ (by simp only [List.length_cons, List.length_nil]; omega) _ (by simp only [List.length_cons, List.length_nil]; omega)) (signs_same _ (by simp only [List.length_cons, List.length_nil]; omega) _ (by simp only [List.length_cons, List.length_nil]; omega))
    (left_differ a0 a1 a2 p q cp' cq' K (by omega)) (wakes14 K (by omega))⟩
end Go.Proofs.YtikbgoppmailjaaDoor.Pure
/- What the laid variables of a Guard row give: the power table and guard's own error. -/
namespace Go.Proofs.YtikbgoppmailjaaDoor.H
open Go.RowKit
theorem star_eq : "*" ++ "errors.errorString" = "*errors.errorString" := by decide
theorem tabs2_of {W : World} (h : laidMetH Tryd.prog Rows.guardJoinsRow.laid W) : Tabs2 W := by
  rw [MakeChecks.laidMetH_plain _ _ _ (by kernel_rfl)] at h
  have h1 : laidMet Tryd.prog ((_, Lib.tabData .u64 Lib.pow10Tab) :: _) W := laidMet.tail (laidMet.tail h)
  have h2 : laidMet Tryd.prog (("remontoir/guard.wrong", .iface "*errors.errorString" (.ptr (.agg [.lit (.string _)]))) :: _) W := laidMet.tail (laidMet.tail (laidMet.tail (laidMet.tail (laidMet.tail (laidMet.tail h)))))
  have ht : Tabs W := ⟨Lib.tabIs_of_head tabs_glob (by kernel_rfl) (n := 20) (t := 138) (e := 63) (by kernel_rfl) (by kernel_rfl) (by kernel_rfl) (by kernel_rfl) h1⟩
  obtain ⟨a, s, hv, _⟩ := laid_sentinel (g := 0) (ti := 58) (tp := 134) (te := 136) (ts := 9) h2 (by kernel_rfl) (by kernel_rfl) Tryd.underlying58 (by
    intro u hu
    exact typeName_ptr_named (nm := "errors.errorString") (by rw [star_eq]; kernel_rfl) (by kernel_rfl) (by decide) u (by rw [star_eq]; exact hu)) Tryd.underlying134 Tryd.underlying136 rfl rfl (by kernel_rfl) (by kernel_rfl) (by kernel_rfl)
  exact ⟨ht, _, _, World.var?_cell (by kernel_rfl) hv 0⟩
end Go.Proofs.YtikbgoppmailjaaDoor.H
/- Three bytes by value, as a parameter. -/
namespace Go.Proofs.YtikbgoppmailjaaDoor.H
open Go.RowKit Go.Deep
set_option maxRecDepth 100000 in
theorem open_a3 {K : Type} {enc : TypeId × Value → K} {W W2 : World} {r : Reach} {b b2 : Nat} {spare : Nat → Bool} {held : Bool} {v : Value} {d : DataW K} {p : List MemPlace} (hv : Value.okWide Tryd.prog W2 r b2 36 v) (h : DataW.Trod enc Tryd.prog W b spare held 36 v d p) :
    ∃ n0 n1 n2 : Int, v = .agg #[.int .u8 n0, .int .u8 n1, .int .u8 n2] ∧ (Lit.int .u8 n0).wf = true ∧ (Lit.int .u8 n1).wf = true ∧ (Lit.int .u8 n2).wf = true := by
  simp only [Value.okWide, Tryd.underlying36] at hv
  obtain ⟨cs, rfl, hsz, _⟩ := hv
  have hsz : cs.size = 3 := hsz.trans (by kernel_rfl)
  obtain ⟨fuel, hf⟩ := h
  obtain ⟨xs, m, _, _, hl, hxl, he⟩ := DataW.trod_array Tryd.underlying36 hf
  have hc : Tryd.prog.cellsOf 5 = 1 := by kernel_rfl
  have each : ∀ i, i < 3 → ∃ n, cs[i]? = some (.int .u8 n) ∧ (Lit.int .u8 n).wf = true := by
    intro i hi
    have g := he i hi
    rw [hc, Nat.mul_one] at g
    have hx : i < xs.length := by omega
    rw [List.getElem?_eq_getElem hx] at g
    obtain ⟨n, e, _, hw⟩ := DataW.trod_int Tryd.underlying5 g
    exact ⟨n, getElem?_of_chunk (xs := cs) e, hw⟩
  obtain ⟨n0, e0, w0⟩ := each 0 (by omega)
  obtain ⟨n1, e1, w1⟩ := each 1 (by omega)
  obtain ⟨n2, e2, w2⟩ := each 2 (by omega)
  refine ⟨n0, n1, n2, ?_, w0, w1, w2⟩
  refine congrArg Value.agg ?_
  apply Array.ext_getElem?
  intro i
  match i with
  | 0 => rw [e0]; rfl
  | 1 => rw [e1]; rfl
  | 2 => rw [e2]; rfl
  | j + 3 => rw [Array.getElem?_eq_none (by omega), Array.getElem?_eq_none (by show 3 ≤ j + 3; omega)]
end Go.Proofs.YtikbgoppmailjaaDoor.H
