import Derived.Test.YtojfdekiponccaaDoorHx3
/- lex.Lex on lists of bytes: plain laws. -/
namespace Go.Proofs.YtojfdekiponccaaDoor.Pure
open Go.RowKit Go.Proofs.YtojfdekiponccaaDoor.H Go.Proofs.YtojfdekiponccaaDoorW.PrintWords Go.Proofs.YtojfdekiponccaaDoorW.PrintLast
set_option linter.unusedVariables false
set_option linter.unusedSimpArgs false

def dg (b : UInt8) : Bool := decide (48 ≤ b.toNat ∧ b.toNat ≤ 57)
def lw (b : UInt8) : Bool := decide (97 ≤ b.toNat ∧ b.toNat ≤ 122)
def valL (l : List UInt8) : Int := (Lib.atoi l).getD 0
def longL (l : List UInt8) : Nat → Int × Int
  | 0 => (0, 0)
  | k + 1 => if (longL l k).2 < ((lexT.getD k ⟨#[]⟩).size : Int) ∧ Lib.hasPrefix l (lexT.getD k ⟨#[]⟩).data.toList = true then ((k : Int), ((lexT.getD k ⟨#[]⟩).size : Int)) else longL l k
def lexAll : Nat → List UInt8 → List S35 → Option (List S35 × Int)
  | 0, _, _ => none
  | k + 1, l, x =>
    match l.dropWhile (· == 32) with
    | [] => some (x, 0)
    | c :: t =>
      if dg c = true then
        if c = 48 ∧ 1 < ((c :: t).takeWhile dg).length then some ([], 2)
        else if 10 < ((c :: t).takeWhile dg).length then some ([], 3)
        else if 2147483647 < valL ((c :: t).takeWhile dg) then some ([], 3)
        else lexAll k ((c :: t).drop ((c :: t).takeWhile dg).length) (x ++ [(⟨1, valL ((c :: t).takeWhile dg)⟩ : S35)])
      else if lw c = true then lexAll k t (x ++ [(⟨2, (c.toNat : Int) - 97⟩ : S35)])
      else if (longL (c :: t) 19).2 = 0 then some ([], 2)
      else lexAll k ((c :: t).drop (longL (c :: t) 19).2.toNat) (x ++ [(⟨(longL (c :: t) 19).1, 0⟩ : S35)])
theorem dg_contains (b : UInt8) : lexDigs.data.toList.contains b = dg b := by
  rw [Bool.eq_iff_iff, dig_mem]; unfold dg; rw [decide_eq_true_iff]
theorem dg_fun : (fun b => lexDigs.data.toList.contains b) = dg := funext dg_contains
theorem long_list (s : ByteArray) : ∀ k, lex_longest.to s k = longL s.data.toList k
  | 0 => rfl
  | k + 1 => by unfold lex_longest.to longL; rw [long_list s k]; rfl
theorem cnt_list (s : ByteArray) : lexCnt s = (s.data.toList.takeWhile dg).length := by
  rw [cnt_eq]; simp only [dg_fun]
theorem take_while_take (p : UInt8 → Bool) : ∀ l : List UInt8, l.take (l.takeWhile p).length = l.takeWhile p
  | [] => rfl
  | a :: l => by
    cases h : p a
    · simp [List.takeWhile_cons, h]
    · simp only [List.takeWhile_cons, h, if_true, List.length_cons, List.take_succ_cons, take_while_take p l]
theorem l0_list : ∀ (k : Nat) (s : ByteArray) (x : List S35), lex_Lex.l0 k s x = lexAll k s.data.toList x
  | 0, s, x => rfl
  | k + 1, s, x => by
    unfold lex_Lex.l0 lexAll
    have ht : (lexTrim s).data.toList = s.data.toList.dropWhile (· == 32) := by simp [lexTrim, Lib.trimLeftB]
    have hsz : (lexTrim s).size = (s.data.toList.dropWhile (· == 32)).length := by rw [← ht, data_len]
    cases hl : s.data.toList.dropWhile (· == 32) with
    | nil => rw [if_pos (by rw [hsz, hl]; rfl)]
    | cons c t =>
      rw [if_neg (by rw [hsz, hl]; simp)]
      obtain ⟨b, r, e, hb⟩ := bt_zero (lexTrim s) (by rw [hsz, hl]; simp)
      rw [ht, hl] at e
      obtain ⟨rfl, rfl⟩ := List.cons.inj e
      have hdg : lexDig (bt (lexTrim s) 0) = dg c := by rw [hb]; unfold lexDig dg; rw [decide_eq_decide]; omega
      have hlw : lexLow (bt (lexTrim s) 0) = lw c := by rw [hb]; unfold lexLow lw; rw [decide_eq_decide]; omega
      have hex : ∀ n, ((lexTrim s).extract n (lexTrim s).size).data.toList = (c :: t).drop n := by
        intro n
        simp only [ByteArray.data_extract, Array.toList_extract]
        rw [hsz, ht, hl]
        simp [List.take_of_length_le]
      have hc : lexCnt (lexTrim s) = ((c :: t).takeWhile dg).length := by rw [cnt_list, ht, hl]
      rw [hdg, hlw, long_list, ht, hl]
      dsimp only
      cases hd : dg c
      · simp only [Bool.false_eq_true, if_false]
        cases hw : lw c
        · simp only [Bool.false_eq_true, if_false]
          split
          · rfl
          · rw [l0_list k, hex]
        · simp only [if_true]
          rw [l0_list k, hex, hb]
          have hlc : 97 ≤ c.toNat ∧ c.toNat ≤ 122 := of_decide_eq_true hw
          have e1 : ((c.toNat : Int) - 97) % 256 = (c.toNat : Int) - 97 := by omega
          rw [e1]; rfl
      · simp only [if_true]
        unfold lex_Lex.num
        rw [hc, hb]
        have h48 : ((c.toNat : Int) = 48) ↔ c = 48 := by
          constructor
          · intro h
            apply UInt8.toNat_inj.1
            show c.toNat = 48
            omega
          · rintro rfl; rfl
        by_cases g1 : c = 48 ∧ 1 < ((c :: t).takeWhile dg).length
        · rw [if_pos g1, if_pos ⟨h48.2 g1.1, g1.2⟩]
        · rw [if_neg g1, if_neg (fun h => g1 ⟨h48.1 h.1, h.2⟩)]
          by_cases g2 : 10 < ((c :: t).takeWhile dg).length
          · rw [if_pos g2, if_pos g2]
          · rw [if_neg g2, if_neg g2]
            have hv : lexVal (lexTrim s) = valL ((c :: t).takeWhile dg) := by
              unfold lexVal valL
              rw [hc, Nat.min_eq_left (by omega)]
              have : ((lexTrim s).extract 0 ((c :: t).takeWhile dg).length).data.toList = (c :: t).takeWhile dg := by
                have hle : ((c :: t).takeWhile dg).length ≤ t.length + 1 := (List.takeWhile_sublist dg).length_le
                refine Eq.trans ?_ (take_while_take dg (c :: t))
                simp
                rw [ht, hl]
              rw [this]
            rw [hv]
            split
            · rfl
            · rw [l0_list k, hex]

theorem longL_pos (l : List UInt8) : ∀ k, 0 ≤ (longL l k).2
  | 0 => by simp [longL]
  | k + 1 => by
    have := longL_pos l k
    unfold longL
    split
    · show (0 : Int) ≤ ((lexT.getD k ⟨#[]⟩).size : Int); omega
    · exact this
/-- With fuel enough. -/
def lexF (l : List UInt8) (x : List S35) : Option (List S35 × Int) := lexAll (l.length + 1) l x
theorem drop_lt (l : List UInt8) (c : UInt8) (t : List UInt8) (n : Nat) (h : l.dropWhile (· == 32) = c :: t) (hn : 0 < n) : ((c :: t).drop n).length < l.length := by
  have h1 : (l.dropWhile (· == 32)).length ≤ l.length := (List.dropWhile_sublist _).length_le
  rw [h] at h1
  rw [List.length_drop]
  simp only [List.length_cons] at *
  omega
theorem tw_pos (c : UInt8) (t : List UInt8) (h : dg c = true) : 0 < ((c :: t).takeWhile dg).length := by
  rw [List.takeWhile_cons, if_pos h]; simp
theorem fuel : ∀ (k : Nat) (l : List UInt8) (x : List S35), l.length < k → lexAll k l x = lexF l x := by
  have main : ∀ (n k1 k2 : Nat) (l : List UInt8) (x : List S35), l.length ≤ n → l.length < k1 → l.length < k2 → lexAll k1 l x = lexAll k2 l x := by
    intro n
    induction n with
    | zero =>
      intro k1 k2 l x h0 h1 h2
      obtain rfl : l = [] := List.eq_nil_of_length_eq_zero (by omega)
      obtain ⟨k1, rfl⟩ : ∃ m, k1 = m + 1 := ⟨k1 - 1, by omega⟩
      obtain ⟨k2, rfl⟩ : ∃ m, k2 = m + 1 := ⟨k2 - 1, by omega⟩
      rfl
    | succ n ih =>
      intro k1 k2 l x h0 h1 h2
      obtain ⟨k1, rfl⟩ : ∃ m, k1 = m + 1 := ⟨k1 - 1, by omega⟩
      obtain ⟨k2, rfl⟩ : ∃ m, k2 = m + 1 := ⟨k2 - 1, by omega⟩
      unfold lexAll
      cases hl : l.dropWhile (· == 32) with
      | nil => rfl
      | cons c t =>
        dsimp only
        have ih' : ∀ m y, 0 < m → lexAll k1 ((c :: t).drop m) y = lexAll k2 ((c :: t).drop m) y := fun m y hm => by
          have := drop_lt l c t m hl hm
          exact ih k1 k2 _ y (by omega) (by omega) (by omega)
        split
        · rename_i hd
          rw [ih' _ _ (tw_pos c t hd)]
        · split
          · exact ih' 1 _ (by omega)
          · split
            · rfl
            · rename_i hz
              have := longL_pos (c :: t) 19
              rw [ih' _ _ (by omega)]
  intro k l x h
  exact main l.length k (l.length + 1) l x (Nat.le_refl _) h (by omega)
/-- One sign, or the end. -/
theorem lexF_eq (l : List UInt8) (x : List S35) : lexF l x =
    match l.dropWhile (· == 32) with
    | [] => some (x, 0)
    | c :: t =>
      if dg c = true then
        if c = 48 ∧ 1 < ((c :: t).takeWhile dg).length then some ([], 2)
        else if 10 < ((c :: t).takeWhile dg).length then some ([], 3)
        else if 2147483647 < valL ((c :: t).takeWhile dg) then some ([], 3)
        else lexF ((c :: t).drop ((c :: t).takeWhile dg).length) (x ++ [(⟨1, valL ((c :: t).takeWhile dg)⟩ : S35)])
      else if lw c = true then lexF t (x ++ [(⟨2, (c.toNat : Int) - 97⟩ : S35)])
      else if (longL (c :: t) 19).2 = 0 then some ([], 2)
      else lexF ((c :: t).drop (longL (c :: t) 19).2.toNat) (x ++ [(⟨(longL (c :: t) 19).1, 0⟩ : S35)]) := by
  conv => lhs; unfold lexF lexAll
  cases hl : l.dropWhile (· == 32) with
  | nil => rfl
  | cons c t =>
    dsimp only
    have ih' : ∀ m y, 0 < m → lexAll l.length ((c :: t).drop m) y = lexF ((c :: t).drop m) y := fun m y hm => fuel _ _ _ (drop_lt l c t m hl hm)
    split
    · rename_i hd
      rw [ih' _ _ (tw_pos c t hd)]
    · split
      · exact ih' 1 _ (by omega)
      · split
        · rfl
        · rename_i hz
          have := longL_pos (c :: t) 19
          rw [ih' _ _ (by omega)]
theorem lex_list (s : ByteArray) : lex_Lex.f s = if s.size > 60 then some ([], 15) else lexF s.data.toList [] := by
  unfold lex_Lex.f
  by_cases h : s.size > 60
  · rw [if_pos h, if_pos (by omega)]
  · rw [if_neg h, if_neg (by omega), l0_list]
    exact fuel _ _ _ (by rw [data_len]; omega)
end Go.Proofs.YtojfdekiponccaaDoor.Pure
