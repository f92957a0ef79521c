import Derived.Test.YtojfdekiponccaaDoorHx10
import Derived.Test.YtojfdekiponccaaDoorHx5
import Derived.Test.YtojfdekiponccaaDoorPRefLex
/- A sign's text: the document's and the program's are one. -/
namespace Go.Proofs.YtojfdekiponccaaDoor.Pure
open Go.RowKit Go.Proofs.YtojfdekiponccaaDoor.H Go.Proofs.YtojfdekiponccaaDoorW.PrintWords Go.Proofs.YtojfdekiponccaaDoorW.PrintLast Go.Proofs.YtojfdekiponccaaDoorW.PrintMore
set_option linter.unusedVariables false
set_option linter.unusedSimpArgs false
theorem refGood (k n : Int) : remontoirref13_Good.f k n = some (goodB k n) := by
  unfold remontoirref13_Good.f goodB
  by_cases h1 : k = 1
  · rw [if_pos h1, if_pos h1]
    by_cases h : n ≥ 0
    · rw [if_pos h]; congr 1; rw [decide_eq_decide]; omega
    · rw [if_neg h]; congr 1; symm; rw [decide_eq_false_iff_not]; omega
  · rw [if_neg h1, if_neg h1]
    by_cases h2 : k = 2
    · rw [if_pos h2, if_pos h2]
      by_cases h : n ≥ 0
      · rw [if_pos h]; congr 1; rw [decide_eq_decide]; omega
      · rw [if_neg h]; congr 1; symm; rw [decide_eq_false_iff_not]; omega
    · rw [if_neg h2, if_neg h2]
      by_cases h3 : k ≥ 3
      · rw [if_pos h3]
        by_cases h4 : k ≤ 18
        · rw [if_pos h4, decide_eq_true (show 3 ≤ k ∧ k ≤ 18 from ⟨h3, h4⟩)]; rfl
        · rw [if_neg h4, decide_eq_false (show ¬ (3 ≤ k ∧ k ≤ 18) from fun h => h4 h.2)]; rfl
      · rw [if_neg h3, decide_eq_false (show ¬ (3 ≤ k ∧ k ≤ 18) from fun h => h3 h.1)]; rfl
theorem strOf_one (x : Int) : strOfNums [x] = ⟨#[UInt8.ofNat x.toNat]⟩ := rfl
theorem refDigits : ∀ (f u k : Nat), u < 10 ^ f → u < 18446744073709551616 → f ≤ 20 → f ≤ k → 0 < f → remontoirref02_Digits.f k (u : Int) = some ⟨(digS f u).toArray⟩ ∧ (digS f u).length ≤ f
  | 0, _, _, _, _, _, _, h => absurd h (by omega)
  | f + 1, u, k, hu, hu2, hf, hk, _ => by
    obtain ⟨k, rfl⟩ : ∃ m, k = m + 1 := ⟨k - 1, by omega⟩
    unfold digS
    simp only [remontoirref02_Digits.f]
    by_cases h : u < 10
    · rw [if_pos (by omega), if_pos h]
      refine ⟨?_, by simp⟩
      have e : (IntKind.u64.wrap (48 + (u : Int))) % 256 = ((48 + u : Nat) : Int) := by rw [IntKind.wrap_u64]; omega
      rw [e, strOf_one, Int.toNat_natCast]
    · rw [if_neg (by omega), if_neg h]
      have e1 : IntKind.u64.wrap (Int.tdiv (u : Int) 10) = ((u / 10 : Nat) : Int) := by
        rw [IntKind.wrap_u64]
        have : Int.tdiv (u : Int) 10 = ((u / 10 : Nat) : Int) := rfl
        rw [this]; omega
      have e2 : (IntKind.u64.wrap (48 + (Int.tmod (u : Int) 10))) % 256 = ((48 + u % 10 : Nat) : Int) := by
        rw [IntKind.wrap_u64]
        have : Int.tmod (u : Int) 10 = ((u % 10 : Nat) : Int) := rfl
        rw [this]; omega
      have hf0 : 0 < f := by
        rcases Nat.eq_zero_or_pos f with rfl | h1
        · simp at hu; omega
        · exact h1
      have hu' : u / 10 < 10 ^ f := by rw [Nat.pow_succ] at hu; omega
      obtain ⟨h1, h2⟩ := refDigits f (u / 10) k hu' (by omega) (by omega) (by omega) hf0
      rw [e1, h1, e2]
      simp only [Option.bind_some]
      have hsz : (⟨(digS f (u / 10)).toArray⟩ : ByteArray).size = (digS f (u / 10)).length := by rw [← data_len]
      have h1s : (⟨#[UInt8.ofNat (48 + u % 10)]⟩ : ByteArray).size = 1 := rfl
      refine ⟨?_, by rw [List.length_append]; simp; omega⟩
      rw [strOf_one, Int.toNat_natCast, if_pos (by rw [hsz, h1s]; omega)]
      congr 1
theorem refText_eq (k n : Int) (hg : goodB k n = true) (r : Nat) (hr : 20 ≤ r) : remontoirref13_Text.f r k n = some (lex_Text.t k n) := by
  unfold remontoirref13_Text.f
  rw [refGood, hg]
  simp only [Option.bind_some, if_true]
  unfold goodB at hg
  unfold lex_Text.t
  by_cases h1 : k = 1
  · rw [if_pos h1] at hg ⊢
    rw [if_pos h1]
    have hn := of_decide_eq_true hg
    obtain ⟨u, rfl⟩ : ∃ u : Nat, n = (u : Int) := ⟨n.toNat, by omega⟩
    have ew : IntKind.u64.wrap (u : Int) = (u : Int) := by rw [IntKind.wrap_u64]; omega
    have e20 : (10 : Nat) ^ 20 = 100000000000000000000 := by decide
    rw [ew, (refDigits 20 u r (by rw [e20]; omega) (by omega) (by omega) hr (by omega)).1]
    simp only [Option.bind_some]
    unfold itoaS
    rw [Int.toNat_natCast]
  · rw [if_neg h1] at hg ⊢
    rw [if_neg h1]
    by_cases h2 : k = 2
    · rw [if_pos h2] at hg ⊢
      rw [if_pos h2]
      have hn := of_decide_eq_true hg
      have e : (wrap64 (97 + n)) % 256 = 97 + n := by unfold wrap64; omega
      rw [e, strOf_one]
    · rw [if_neg h2] at hg ⊢
      rw [if_neg h2]
      obtain ⟨hk, _⟩ := (Bool.and_eq_true _ _).mp hg
      have hk := of_decide_eq_true hk
      obtain ⟨i, rfl⟩ : ∃ i : Nat, k = (i : Int) := ⟨k.toNat, by omega⟩
      rw [ofL i (by omega) (by omega), Int.toNat_natCast]
      rfl
theorem refText_bad (k n : Int) (hg : goodB k n = false) (r : Nat) : remontoirref13_Text.f r k n = some ⟨#[]⟩ := by
  unfold remontoirref13_Text.f
  rw [refGood, hg]
  rfl
theorem digS_len : ∀ (f u : Nat), (digS f u).length ≤ f
  | 0, u => by simp [digS]
  | f + 1, u => by
    unfold digS
    split
    · simp
    · rw [List.length_append]
      have := digS_len f (u / 10)
      simp; omega
theorem text_size (k n : Int) : (lex_Text.t k n).size ≤ 20 := by
  unfold lex_Text.t
  split
  · rw [← data_len]
    exact digS_len 20 _
  · split
    · show 1 ≤ 20; omega
    · have := lexT_size k.toNat
      omega
/-- What signs are written as. -/
def txts (l : List S35) : List (List UInt8) := l.map fun s => (lex_Text.t s.f0 s.f1).data.toList
def goodAll (l : List S35) : Bool := l.all fun s => goodB s.f0 s.f1
def prL (l : List S35) : List UInt8 := Lib.join (txts l) [32]
def prS (l : List S35) : ByteArray × Bool := if goodAll l = true then (⟨(prL l).toArray⟩, true) else (⟨#[]⟩, false)
theorem join_snoc (sep t : List UInt8) : ∀ xs : List (List UInt8), Lib.join (xs ++ [t]) sep = if xs = [] then t else Lib.join xs sep ++ sep ++ t
  | [] => by simp [Lib.join, List.intercalate]
  | [a] => by simp [Lib.join, List.intercalate, List.intersperse]
  | a :: b :: r => by
    have ih := join_snoc sep t (b :: r)
    rw [if_neg (by simp)] at ih ⊢
    have e1 : ∀ q : List (List UInt8), Lib.join (a :: b :: q) sep = a ++ sep ++ Lib.join (b :: q) sep := fun q => by
      simp [Lib.join, List.intercalate, List.intersperse]
    show Lib.join (a :: b :: (r ++ [t])) sep = _
    rw [e1, e1]
    have ih' : Lib.join (b :: (r ++ [t])) sep = Lib.join (b :: r) sep ++ sep ++ t := ih
    rw [ih']
    simp [List.append_assoc]
theorem txts_snoc (l : List S35) (s : S35) : txts (l ++ [s]) = txts l ++ [(lex_Text.t s.f0 s.f1).data.toList] := by simp [txts]
theorem txts_nil (l : List S35) : txts l = [] ↔ l = [] := by simp [txts]
theorem prL_snoc (l : List S35) (s : S35) : prL (l ++ [s]) = if l = [] then (lex_Text.t s.f0 s.f1).data.toList else prL l ++ [32] ++ (lex_Text.t s.f0 s.f1).data.toList := by
  unfold prL
  rw [txts_snoc, join_snoc]
  by_cases h : l = []
  · rw [if_pos h, if_pos ((txts_nil l).2 h)]
  · rw [if_neg h, if_neg (fun h' => h ((txts_nil l).1 h'))]
theorem take_snoc (l : List S35) (i : Nat) (h : i < l.length) : l.take (i + 1) = l.take i ++ [l[i]] := by
  rw [List.take_add_one, List.getElem?_eq_getElem h]
  rfl
theorem prL_len (l : List S35) : ∀ i, i ≤ l.length → (prL (l.take i)).length ≤ 21 * i
  | 0, _ => by simp [prL, txts, Lib.join, List.intercalate]
  | i + 1, h => by
    rw [take_snoc l i (by omega), prL_snoc]
    have ih := prL_len l i (by omega)
    have ht := text_size l[i].f0 l[i].f1
    rw [← data_len] at ht
    split
    · omega
    · simp only [List.length_append, List.length_cons, List.length_nil]
      omega
end Go.Proofs.YtojfdekiponccaaDoor.Pure
