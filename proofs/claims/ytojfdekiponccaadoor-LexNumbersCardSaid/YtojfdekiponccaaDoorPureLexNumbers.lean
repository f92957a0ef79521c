/- LexNumbers: the digits of any uint64 are read as it, or told as too great; with a nought ahead they are none; two numbers with a blank between are read as both. -/
import Derived.Test.YtojfdekiponccaaDoorHx15
import Derived.Test.YtojfdekiponccaaDoorPBack
import Derived.Test.YtojfdekiponccaaDoorPWakes13
namespace Go.Proofs.YtojfdekiponccaaDoor.Pure
open Go.RowKit Go.Proofs.YtojfdekiponccaaDoor.H Go.Proofs.YtojfdekiponccaaDoorW.PrintWords Go.Proofs.YtojfdekiponccaaDoorW.PrintLast Go.Proofs.YtojfdekiponccaaDoorW.PrintMore
set_option linter.unusedVariables false
set_option linter.unusedSimpArgs false
theorem e20 : (10 : Nat) ^ 20 = 100000000000000000000 := by decide
theorem numbers_over (k : Nat) (hk : 50 ≤ k) (n m : Nat) (D : ByteArray) (hg : 2147483647 < n) (hd : remontoirref02_Digits.f k (n : Int) = some D) (sd : D.size ≤ 20)
    (hX : lex_Lex.f D = some ([], 3)) (hF : lex_Lex.f ((⟨#[48]⟩ : ByteArray) ++ D) = some ([], 2)) : remontoirlaw13_LexNumbers.f k (n : Int) (m : Int) = some true := by
  unfold remontoirlaw13_LexNumbers.f
  rw [hd]
  simp only [Option.bind_some]
  rw [hX]
  simp only [Option.bind_some]
  rw [if_pos (by omega), hF]
  simp only [Option.bind_some, if_true]
  rw [if_pos (by omega), if_pos (by rfl), wakes13 k (by omega)]
  rfl
theorem numbers_in (k : Nat) (hk : 50 ≤ k) (n m : Nat) (hm : m < 65536) (hg : ¬ 2147483647 < n) (D C : ByteArray) (hd : remontoirref02_Digits.f k (n : Int) = some D) (hc : remontoirref02_Digits.f k (m : Int) = some C) (sd : D.size ≤ 20) (sc : C.size ≤ 20)
    (X Y : List S35) (x1 : (X.length : Int) = 1) (x2 : rd_T35 X 0 = ⟨1, (n : Int)⟩) (y1 : (Y.length : Int) = 2) (y2 : rd_T35 Y 0 = ⟨1, (m : Int)⟩) (y3 : rd_T35 Y 1 = ⟨1, (n : Int)⟩)
    (hX : lex_Lex.f D = some (X, 0)) (hF : lex_Lex.f ((⟨#[48]⟩ : ByteArray) ++ D) = some ([], 2))
    (hY : lex_Lex.f ((C ++ (⟨#[32]⟩ : ByteArray)) ++ D) = some (Y, 0)) : remontoirlaw13_LexNumbers.f k (n : Int) (m : Int) = some true := by
  have s32 : (⟨#[32]⟩ : ByteArray).size = 1 := rfl
  have ew : IntKind.u64.wrap (m : Int) = (m : Int) := by rw [IntKind.wrap_u64]; omega
  have hw1 : wrap64 (n : Int) = (n : Int) := by unfold wrap64; omega
  have hw2 : wrap64 (m : Int) = (m : Int) := by unfold wrap64; omega
  have c1 : 1 + D.size ≤ 9223372036854775807 := by clear hw1 hw2 ew; omega
  have c2 : ¬ ((n : Int) > 2147483647) := by clear hw1 hw2 ew; omega
  have c3 : C.size + 1 ≤ 9223372036854775807 := by clear hw1 hw2 ew; omega
  have c4 : (C ++ (⟨#[32]⟩ : ByteArray)).size + D.size ≤ 9223372036854775807 := by rw [ByteArray.size_append, s32]; clear hw1 hw2 ew; omega
  have hk' := wakes13 k (by clear hw1 hw2 ew; omega)
  unfold remontoirlaw13_LexNumbers.f
  rw [hd, Option.bind_some, hX, Option.bind_some, if_pos c1, hF, Option.bind_some, if_pos rfl, if_neg c2, ew, hc, Option.bind_some, if_pos c3, if_pos c4, hY, Option.bind_some]
  generalize remontoirlaw13_wakes.f k = W at *
  subst hk'
  simp [x1, x2, y1, y2, y3, hw1, hw2]
set_option maxHeartbeats 400000 in
theorem LexNumbers : remontoirlaw13_LexNumbers.Pure := by
  intro a0 a1 h0 h1
  obtain ⟨n, rfl⟩ : ∃ n : Nat, a0 = (n : Int) := ⟨a0.toNat, by
    simp [Lit.wf, IntKind.min, IntKind.max, IntKind.signed, IntKind.bits] at h0; omega⟩
  obtain ⟨m, rfl⟩ : ∃ n : Nat, a1 = (n : Int) := ⟨a1.toNat, by
    simp [Lit.wf, IntKind.min, IntKind.max, IntKind.signed, IntKind.bits] at h1; omega⟩
  have hn : n < 18446744073709551616 := by
    simp [Lit.wf, IntKind.min, IntKind.max, IntKind.signed, IntKind.bits] at h0; omega
  have hm : m < 65536 := by
    simp [Lit.wf, IntKind.min, IntKind.max, IntKind.signed, IntKind.bits] at h1; omega
  clear h0 h1
  refine ⟨50, ?_⟩
  have n20 : n < 10 ^ 20 := by rw [e20]; omega
  have m20 : m < 10 ^ 20 := by rw [e20]; omega
  have hd := (refDigits 20 n 50 n20 hn (by omega) (by omega) (by omega)).1
  have hc := (refDigits 20 m 50 m20 (by omega) (by omega) (by omega) (by omega)).1
  have ld := digS_len 20 n
  have lc := digS_len 20 m
  have sd : (⟨(digS 20 n).toArray⟩ : ByteArray).size = (digS 20 n).length := by rw [← data_len]
  have sc : (⟨(digS 20 m).toArray⟩ : ByteArray).size = (digS 20 m).length := by rw [← data_len]
  have s48 : (⟨#[48]⟩ : ByteArray).size = 1 := rfl
  have s32 : (⟨#[32]⟩ : ByteArray).size = 1 := rfl
  have hX : lex_Lex.f ⟨(digS 20 n).toArray⟩ = if 2147483647 < n then some ([], 3) else some ([(⟨1, (n : Int)⟩ : S35)], 0) := by
    have hl : (⟨(digS 20 n).toArray⟩ : ByteArray).data.toList = digS 20 n := List.toList_toArray
    rw [lex_list, if_neg (by rw [sd]; omega), hl, lexF_digs n 20 (by omega) n20 [], List.nil_append]
  have hF : lex_Lex.f ((⟨#[48]⟩ : ByteArray) ++ ⟨(digS 20 n).toArray⟩) = some ([], 2) := by
    rw [lex_list, if_neg (by rw [ByteArray.size_append, s48, sd]; omega)]
    obtain ⟨c, t, e, _⟩ := digS_head 20 n n20 (by omega)
    have hall := digS_dg 20 n
    have hl : ((⟨#[48]⟩ : ByteArray) ++ ⟨(digS 20 n).toArray⟩).data.toList = 48 :: digS 20 n := by simp
    rw [hl, lexF_num 48 _ _ (by decide), if_pos]
    refine ⟨rfl, ?_⟩
    rw [tw_full _ (by
      intro b hb
      rcases List.mem_cons.1 hb with rfl | hb
      · decide
      · exact hall b hb), e]
    simp
  by_cases hg : 2147483647 < n
  · rw [if_pos hg] at hX
    exact numbers_over 50 (by omega) n m _ hg hd (by rw [sd]; exact ld) hX hF
  rw [if_neg hg] at hX
  refine numbers_in 50 (by omega) n m hm hg _ _ hd hc (by rw [sd]; exact ld) (by rw [sc]; exact lc) [(⟨1, (n : Int)⟩ : S35)] [(⟨1, (m : Int)⟩ : S35), ⟨1, (n : Int)⟩] rfl rfl rfl rfl rfl hX hF ?_
  have hC : lexF (digS 20 m) [] = some ([(⟨1, (m : Int)⟩ : S35)], 0) := by
    rw [lexF_digs m 20 (by omega) m20 [], if_neg (by omega), List.nil_append]
  rw [lex_list, if_neg (by rw [ByteArray.size_append, ByteArray.size_append, s32, sc, sd]; omega)]
  have hl : (((⟨(digS 20 m).toArray⟩ : ByteArray) ++ ⟨#[32]⟩) ++ ⟨(digS 20 n).toArray⟩).data.toList = digS 20 m ++ 32 :: digS 20 n := by simp
  rw [hl]
  rcases lex_app 32 (digS 20 n) sep_blank _ (digS 20 m) [] (Nat.le_refl _) with ⟨y, h1, h2⟩ | ⟨e, he, h1, _⟩
  · rw [hC] at h1
    obtain ⟨rfl, -⟩ := Prod.mk.inj (Option.some.inj h1)
    rw [h2, lexF_blank, lexF_digs n 20 (by omega) n20, if_neg hg, List.singleton_append]
  · rw [hC] at h1
    exact absurd (Prod.mk.inj (Option.some.inj h1)).2.symm he
end Go.Proofs.YtojfdekiponccaaDoor.Pure
