-- Written by hp.py (a program of this session, over the kit's print.py), with hand-made contracts beside it.
import Derived.Test.YtojfdekiponccaaDoorTHx0
import Derived.Test.YtojfdekiponccaaDoorTHTexts
import Derived.Test.YtojfdekiponccaaDoorTHShelf
namespace Go.Proofs.YtojfdekiponccaaDoor.H
open Go.RowKit Go.Proofs.YtojfdekiponccaaDoorW.PrintWords Go.Proofs.YtojfdekiponccaaDoorW.PrintLast Go.Proofs.YtojfdekiponccaaDoorW.PrintMore
attribute [local go_sem] max2_int min2_int max_two min_two max_three min_three max_four min_four   -- for this text's walks alone
set_option linter.unusedVariables false
set_option linter.unusedSimpArgs false

-- HANDMADE remontoir/lex.longest
/-! ### lex_longest: function 34 -/
open Go.HK
def lexHas (s t : ByteArray) : Bool := Lib.hasPrefix s.data.toList t.data.toList
def lex_longest.to (s : ByteArray) : Nat → Int × Int
  | 0 => (0, 0)
  | k + 1 => if (lex_longest.to s k).2 < ((lexT.getD k ⟨#[]⟩).size : Int) ∧ lexHas s (lexT.getD k ⟨#[]⟩) = true then ((k : Int), ((lexT.getD k ⟨#[]⟩).size : Int)) else lex_longest.to s k
def lex_longest.f (a0 : ByteArray) : Option (Int × Int) := some (lex_longest.to a0 19)
theorem lex_longest.bound (s : ByteArray) : ∀ k, 0 ≤ (lex_longest.to s k).2 ∧ (lex_longest.to s k).2 ≤ 2
  | 0 => by simp [lex_longest.to]
  | k + 1 => by
    have ih := lex_longest.bound s k
    unfold lex_longest.to
    split
    · have : (lexT.getD k ⟨#[]⟩).size ≤ 2 := by
        by_cases hk : k < 19
        · have : ∀ i : Fin 19, (lexT.getD i.val ⟨#[]⟩).size ≤ 2 := by decide
          exact this ⟨k, hk⟩
        · have : lexT.getD k ⟨#[]⟩ = ⟨#[]⟩ := by rw [List.getD_eq_getElem?_getD, List.getElem?_eq_none (by simp [lexT]; omega)]; rfl
          rw [this]; decide
      constructor
      · show (0 : Int) ≤ ((lexT.getD k ⟨#[]⟩).size : Int); omega
      · show ((lexT.getD k ⟨#[]⟩).size : Int) ≤ 2; omega
    · exact ih
theorem has_calls (s t : ByteArray) (b : Bool) (w : World) (h : lexHas s t = b) :
    Calls Tryd.prog 51 #[.string s, .string t] w fun e w' => e = .returned (.bool b) ∧ w' = w := by
  subst h
  exact Tryd.strings_HasPrefix s t w
set_option maxRecDepth 100000 in
theorem lex_longest.calls (a0 : ByteArray) (r1 r2 : Int) (w : World) (h : lex_longest.f a0 = some (r1, r2)) :
    Calls Tryd.prog 34 #[.string a0] w fun e w' => e = .returned (.tuple #[.int .i64 r1, .int .i64 r2]) ∧ Below w.heap.size w w' := by
  have HR := Lib.hid (Option.some.inj h)
  clear h
  go_enter Tryd.func34, Tryd.ntmps34
  go_wp2_with (first
    | (go_at_call 39; refine (lex_texts _).mono ?_; rintro e w1 ⟨rfl, hb⟩; have HB := Aside0.mk hb; clear hb))
  go_loopg [2, 3, 7] 19 (fun kq v2 v3 v7 wr => ∃ (k : Nat), k ≤ 19 ∧ v7 = .int .i64 k ∧ v2 = .int .i64 (lex_longest.to a0 k).1 ∧ v3 = .int .i64 (lex_longest.to a0 k).2 ∧ Aside0 (kq = 19 - k) ∧ Aside0 (Below w.heap.size w wr))
  case atStart => exact ⟨0, by omega, rfl, rfl, rfl, ⟨rfl⟩, HB⟩
  case round =>
    clear HB
    obtain ⟨k, hk, rfl, rfl, rfl, HQ, HB⟩ := hrel
    have hbd := lex_longest.bound a0 k
    by_cases hlt : k < 19
    · have ht : ∃ t, lexT.getD k ⟨#[]⟩ = t := ⟨_, rfl⟩
      obtain ⟨t, ht⟩ := ht
      have HT := Lib.hid ht
      have hi := idxT wr k hlt
      rw [ht] at hi
      have HI := Lib.hid hi
      clear hi ht
      have hto : lex_longest.to a0 (k + 1) = if (lex_longest.to a0 k).2 < (t.size : Int) ∧ lexHas a0 t = true then ((k : Int), (t.size : Int)) else lex_longest.to a0 k := by rw [← HT.out]; rfl
      have HTO := Lib.hid hto
      clear hto
      generalize lex_longest.to a0 k = p at *
      obtain ⟨p1, p2⟩ := p
      simp only at hbd
      by_cases c1 : p2 < (t.size : Int)
      · cases c2 : lexHas a0 t
        all_goals
          have C2 := Lib.hid c2
          clear c2
          go_wp2_with (first
            | (refine Great.wpList_readTo rfl (some 10) rfl (.string t) (exec_index rfl HI.out) ?_)
            | (go_at_call 51; refine (has_calls _ _ _ _ C2.out).mono ?_; rintro e w2 ⟨rfl, rfl⟩))
          go_roundg (19 - (k + 1))
          case measure => have := HQ.out; omega
          case rel => exact ⟨k + 1, by omega, by go_num, by rw [HTO.out]; simp [c1, C2.out], by rw [HTO.out]; simp [c1, C2.out], ⟨rfl⟩, HB⟩
      · go_wp2_with (first
            | (refine Great.wpList_readTo rfl (some 10) rfl (.string t) (exec_index rfl HI.out) ?_))
        go_roundg (19 - (k + 1))
        case measure => have := HQ.out; omega
        case rel => exact ⟨k + 1, by omega, by go_num, by rw [HTO.out, if_neg (fun h => absurd h.1 (by omega))], by rw [HTO.out, if_neg (fun h => absurd h.1 (by omega))], ⟨rfl⟩, HB⟩
    · obtain rfl : k = 19 := by omega
      have h1 := HR.out
      generalize lex_longest.to a0 19 = p at *
      subst h1
      go_wp2
      go_ret2
      exact ⟨rfl, HB.out⟩


end Go.Proofs.YtojfdekiponccaaDoor.H
