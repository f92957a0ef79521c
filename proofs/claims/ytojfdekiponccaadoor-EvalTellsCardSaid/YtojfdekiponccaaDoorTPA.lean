import Derived.Test.YtojfdekiponccaaDoorTHx7
import Derived.Laws.Bits64
/- lex.Lex on lists of bytes: plain laws. -/
namespace Go.Proofs.YtojfdekiponccaaDoor.Pure
open Go.RowKit Go.Proofs.YtojfdekiponccaaDoor.H Go.Proofs.YtojfdekiponccaaDoorW.PrintWords Go.Proofs.YtojfdekiponccaaDoorW.PrintLast
set_option linter.unusedVariables false
set_option linter.unusedSimpArgs false

def dg (b : UInt8) : Bool := decide (48 ≤ b.toNat ∧ b.toNat ≤ 57)
def lw (b : UInt8) : Bool := decide (97 ≤ b.toNat ∧ b.toNat ≤ 122)
def valL (l : List UInt8) : Int := (Lib.atoi l).getD 0
def longL (l : List UInt8) : Nat → Int × Int
  | 0 => (0, 0)
  | k + 1 => if (longL l k).2 < ((lexT.getD k ⟨#[]⟩).size : Int) ∧ Lib.hasPrefix l (lexT.getD k ⟨#[]⟩).data.toList = true then ((k : Int), ((lexT.getD k ⟨#[]⟩).size : Int)) else longL l k
def lexAll : Nat → List UInt8 → List S35 → Option (List S35 × Int)
  | 0, _, _ => none
  | k + 1, l, x =>
    match l.dropWhile (· == 32) with
    | [] => some (x, 0)
    | c :: t =>
      if dg c = true then
        if c = 48 ∧ 1 < ((c :: t).takeWhile dg).length then some ([], 2)
        else if 10 < ((c :: t).takeWhile dg).length then some ([], 3)
        else if 2147483647 < valL ((c :: t).takeWhile dg) then some ([], 3)
        else lexAll k ((c :: t).drop ((c :: t).takeWhile dg).length) (x ++ [(⟨1, valL ((c :: t).takeWhile dg)⟩ : S35)])
      else if lw c = true then lexAll k t (x ++ [(⟨2, (c.toNat : Int) - 97⟩ : S35)])
      else if (longL (c :: t) 19).2 = 0 then some ([], 2)
      else lexAll k ((c :: t).drop (longL (c :: t) 19).2.toNat) (x ++ [(⟨(longL (c :: t) 19).1, 0⟩ : S35)])
theorem dg_contains (b : UInt8) : lexDigs.data.toList.contains b = dg b := by
  rw [Bool.eq_iff_iff, dig_mem]; unfold dg; rw [decide_eq_true_iff]
theorem dg_fun : (fun b => lexDigs.data.toList.contains b) = dg := funext dg_contains
theorem long_list (s : ByteArray) : ∀ k, lex_longest.to s k = longL s.data.toList k
  | 0 => rfl
  | k + 1 => by unfold lex_longest.to longL; rw [long_list s k]; rfl
theorem cnt_list (s : ByteArray) : lexCnt s = (s.data.toList.takeWhile dg).length := by
  rw [cnt_eq]; simp only [dg_fun]
theorem take_while_take (p : UInt8 → Bool) : ∀ l : List UInt8, l.take (l.takeWhile p).length = l.takeWhile p
  | [] => rfl
  | a :: l => by
    cases h : p a
    · simp [List.takeWhile_cons, h]
    · simp only [List.takeWhile_cons, h, if_true, List.length_cons, List.take_succ_cons, take_while_take p l]
theorem l0_list : ∀ (k : Nat) (s : ByteArray) (x : List S35), lex_Lex.l0 k s x = lexAll k s.data.toList x
  | 0, s, x => rfl
  | k + 1, s, x => by
    unfold lex_Lex.l0 lexAll
    have ht : (lexTrim s).data.toList = s.data.toList.dropWhile (· == 32) := by simp [lexTrim, Lib.trimLeftB]
    have hsz : (lexTrim s).size = (s.data.toList.dropWhile (· == 32)).length := by rw [← ht, data_len]
    cases hl : s.data.toList.dropWhile (· == 32) with
    | nil => rw [if_pos (by rw [hsz, hl]; rfl)]
    | cons c t =>
      rw [if_neg (by rw [hsz, hl]; simp)]
      obtain ⟨b, r, e, hb⟩ := bt_zero (lexTrim s) (by rw [hsz, hl]; simp)
      rw [ht, hl] at e
      obtain ⟨rfl, rfl⟩ := List.cons.inj e
      have hdg : lexDig (bt (lexTrim s) 0) = dg c := by rw [hb]; unfold lexDig dg; rw [decide_eq_decide]; omega
      have hlw : lexLow (bt (lexTrim s) 0) = lw c := by rw [hb]; unfold lexLow lw; rw [decide_eq_decide]; omega
      have hex : ∀ n, ((lexTrim s).extract n (lexTrim s).size).data.toList = (c :: t).drop n := by
        intro n
        simp only [ByteArray.data_extract, Array.toList_extract]
        rw [hsz, ht, hl]
        simp [List.take_of_length_le]
      have hc : lexCnt (lexTrim s) = ((c :: t).takeWhile dg).length := by rw [cnt_list, ht, hl]
      rw [hdg, hlw, long_list, ht, hl]
      dsimp only
      cases hd : dg c
      · simp only [Bool.false_eq_true, if_false]
        cases hw : lw c
        · simp only [Bool.false_eq_true, if_false]
          split
          · rfl
          · rw [l0_list k, hex]
        · simp only [if_true]
          rw [l0_list k, hex, hb]
          have hlc : 97 ≤ c.toNat ∧ c.toNat ≤ 122 := of_decide_eq_true hw
          have e1 : ((c.toNat : Int) - 97) % 256 = (c.toNat : Int) - 97 := by omega
          rw [e1]; rfl
      · simp only [if_true]
        unfold lex_Lex.num
        rw [hc, hb]
        have h48 : ((c.toNat : Int) = 48) ↔ c = 48 := by
          constructor
          · intro h
            apply UInt8.toNat_inj.1
            show c.toNat = 48
            omega
          · rintro rfl; rfl
        by_cases g1 : c = 48 ∧ 1 < ((c :: t).takeWhile dg).length
        · rw [if_pos g1, if_pos ⟨h48.2 g1.1, g1.2⟩]
        · rw [if_neg g1, if_neg (fun h => g1 ⟨h48.1 h.1, h.2⟩)]
          by_cases g2 : 10 < ((c :: t).takeWhile dg).length
          · rw [if_pos g2, if_pos g2]
          · rw [if_neg g2, if_neg g2]
            have hv : lexVal (lexTrim s) = valL ((c :: t).takeWhile dg) := by
              unfold lexVal valL
              rw [hc, Nat.min_eq_left (by omega)]
              have : ((lexTrim s).extract 0 ((c :: t).takeWhile dg).length).data.toList = (c :: t).takeWhile dg := by
                have hle : ((c :: t).takeWhile dg).length ≤ t.length + 1 := (List.takeWhile_sublist dg).length_le
                refine Eq.trans ?_ (take_while_take dg (c :: t))
                simp
                rw [ht, hl]
              rw [this]
            rw [hv]
            split
            · rfl
            · rw [l0_list k, hex]

theorem longL_pos (l : List UInt8) : ∀ k, 0 ≤ (longL l k).2
  | 0 => by simp [longL]
  | k + 1 => by
    have := longL_pos l k
    unfold longL
    split
    · show (0 : Int) ≤ ((lexT.getD k ⟨#[]⟩).size : Int); omega
    · exact this
/-- With fuel enough. -/
def lexF (l : List UInt8) (x : List S35) : Option (List S35 × Int) := lexAll (l.length + 1) l x
theorem drop_lt (l : List UInt8) (c : UInt8) (t : List UInt8) (n : Nat) (h : l.dropWhile (· == 32) = c :: t) (hn : 0 < n) : ((c :: t).drop n).length < l.length := by
  have h1 : (l.dropWhile (· == 32)).length ≤ l.length := (List.dropWhile_sublist _).length_le
  rw [h] at h1
  rw [List.length_drop]
  simp only [List.length_cons] at *
  omega
theorem tw_pos (c : UInt8) (t : List UInt8) (h : dg c = true) : 0 < ((c :: t).takeWhile dg).length := by
  rw [List.takeWhile_cons, if_pos h]; simp
theorem fuel : ∀ (k : Nat) (l : List UInt8) (x : List S35), l.length < k → lexAll k l x = lexF l x := by
  have main : ∀ (n k1 k2 : Nat) (l : List UInt8) (x : List S35), l.length ≤ n → l.length < k1 → l.length < k2 → lexAll k1 l x = lexAll k2 l x := by
    intro n
    induction n with
    | zero =>
      intro k1 k2 l x h0 h1 h2
      obtain rfl : l = [] := List.eq_nil_of_length_eq_zero (by omega)
      obtain ⟨k1, rfl⟩ : ∃ m, k1 = m + 1 := ⟨k1 - 1, by omega⟩
      obtain ⟨k2, rfl⟩ : ∃ m, k2 = m + 1 := ⟨k2 - 1, by omega⟩
      rfl
    | succ n ih =>
      intro k1 k2 l x h0 h1 h2
      obtain ⟨k1, rfl⟩ : ∃ m, k1 = m + 1 := ⟨k1 - 1, by omega⟩
      obtain ⟨k2, rfl⟩ : ∃ m, k2 = m + 1 := ⟨k2 - 1, by omega⟩
      unfold lexAll
      cases hl : l.dropWhile (· == 32) with
      | nil => rfl
      | cons c t =>
        dsimp only
        have ih' : ∀ m y, 0 < m → lexAll k1 ((c :: t).drop m) y = lexAll k2 ((c :: t).drop m) y := fun m y hm => by
          have := drop_lt l c t m hl hm
          exact ih k1 k2 _ y (by omega) (by omega) (by omega)
        split
        · rename_i hd
          rw [ih' _ _ (tw_pos c t hd)]
        · split
          · exact ih' 1 _ (by omega)
          · split
            · rfl
            · rename_i hz
              have := longL_pos (c :: t) 19
              rw [ih' _ _ (by omega)]
  intro k l x h
  exact main l.length k (l.length + 1) l x (Nat.le_refl _) h (by omega)
/-- One sign, or the end. -/
theorem lexF_eq (l : List UInt8) (x : List S35) : lexF l x =
    match l.dropWhile (· == 32) with
    | [] => some (x, 0)
    | c :: t =>
      if dg c = true then
        if c = 48 ∧ 1 < ((c :: t).takeWhile dg).length then some ([], 2)
        else if 10 < ((c :: t).takeWhile dg).length then some ([], 3)
        else if 2147483647 < valL ((c :: t).takeWhile dg) then some ([], 3)
        else lexF ((c :: t).drop ((c :: t).takeWhile dg).length) (x ++ [(⟨1, valL ((c :: t).takeWhile dg)⟩ : S35)])
      else if lw c = true then lexF t (x ++ [(⟨2, (c.toNat : Int) - 97⟩ : S35)])
      else if (longL (c :: t) 19).2 = 0 then some ([], 2)
      else lexF ((c :: t).drop (longL (c :: t) 19).2.toNat) (x ++ [(⟨(longL (c :: t) 19).1, 0⟩ : S35)]) := by
  conv => lhs; unfold lexF lexAll
  cases hl : l.dropWhile (· == 32) with
  | nil => rfl
  | cons c t =>
    dsimp only
    have ih' : ∀ m y, 0 < m → lexAll l.length ((c :: t).drop m) y = lexF ((c :: t).drop m) y := fun m y hm => fuel _ _ _ (drop_lt l c t m hl hm)
    split
    · rename_i hd
      rw [ih' _ _ (tw_pos c t hd)]
    · split
      · exact ih' 1 _ (by omega)
      · split
        · rfl
        · rename_i hz
          have := longL_pos (c :: t) 19
          rw [ih' _ _ (by omega)]
theorem lex_list (s : ByteArray) : lex_Lex.f s = if s.size > 60 then some ([], 15) else lexF s.data.toList [] := by
  unfold lex_Lex.f
  by_cases h : s.size > 60
  · rw [if_pos h, if_pos (by omega)]
  · rw [if_neg h, if_neg (by omega), l0_list]
    exact fuel _ _ _ (by rw [data_len]; omega)
end Go.Proofs.YtojfdekiponccaaDoor.Pure
/- Signs of two texts with a byte between that no sign has: plain laws. -/
namespace Go.Proofs.YtojfdekiponccaaDoor.Pure
open Go.RowKit Go.Proofs.YtojfdekiponccaaDoor.H Go.Proofs.YtojfdekiponccaaDoorW.PrintWords Go.Proofs.YtojfdekiponccaaDoorW.PrintLast
set_option linter.unusedVariables false
set_option linter.unusedSimpArgs false

/-- No digit, and in no sign's text. -/
def Sep (c : UInt8) : Prop := dg c = false ∧ ∀ t ∈ lexT, c ∉ t.data.toList
theorem lexF_blank (r : List UInt8) (x : List S35) : lexF (32 :: r) x = lexF r x := by
  rw [lexF_eq, lexF_eq r x]
  rfl
/-- The signs read before say nothing of what follows. -/
theorem lex_acc : ∀ (n : Nat) (l : List UInt8) (x : List S35), l.length ≤ n →
    (∃ y, lexF l [] = some (y, 0) ∧ lexF l x = some (x ++ y, 0)) ∨ (∃ e, e ≠ 0 ∧ lexF l [] = some ([], e) ∧ lexF l x = some ([], e)) := by
  intro n
  induction n with
  | zero =>
    intro l x h
    obtain rfl : l = [] := List.eq_nil_of_length_eq_zero (by omega)
    exact Or.inl ⟨[], rfl, by rw [List.append_nil]; rfl⟩
  | succ n ih =>
    intro l x h
    have step : ∀ (l' : List UInt8) (v : S35), l'.length ≤ n → (∃ y, lexF l' ([] ++ [v]) = some (y, 0) ∧ lexF l' (x ++ [v]) = some (x ++ y, 0)) ∨ (∃ e, e ≠ 0 ∧ lexF l' ([] ++ [v]) = some ([], e) ∧ lexF l' (x ++ [v]) = some ([], e)) := by
      intro l' v hl'
      rcases ih l' ([] ++ [v]) hl' with ⟨y, h1, h2⟩ | ⟨e, he, h1, h2⟩
      · rcases ih l' (x ++ [v]) hl' with ⟨y', h1', h2'⟩ | ⟨e, he, h1', _⟩
        · rw [h1] at h1'
          obtain ⟨rfl, -⟩ := Prod.mk.inj (Option.some.inj h1')
          exact Or.inl ⟨_, h2, by rw [h2']; simp⟩
        · rw [h1] at h1'
          exact absurd (Prod.mk.inj (Option.some.inj h1')).2.symm he
      · rcases ih l' (x ++ [v]) hl' with ⟨y', h1', h2'⟩ | ⟨e', he', h1', h2'⟩
        · rw [h1] at h1'
          exact absurd (Prod.mk.inj (Option.some.inj h1')).2 he
        · rw [h1] at h1'
          obtain ⟨-, rfl⟩ := Prod.mk.inj (Option.some.inj h1')
          exact Or.inr ⟨e, he, h2, h2'⟩
    rw [lexF_eq l [], lexF_eq l x]
    cases hl : l.dropWhile (· == 32) with
    | nil => exact Or.inl ⟨[], rfl, by rw [List.append_nil]⟩
    | cons a t =>
      dsimp only
      have hlt : ∀ m, 0 < m → ((a :: t).drop m).length ≤ n := fun m hm => by have := drop_lt l a t m hl hm; omega
      split
      · rename_i hdg
        split
        · exact Or.inr ⟨2, by decide, rfl, rfl⟩
        · split
          · exact Or.inr ⟨3, by decide, rfl, rfl⟩
          · split
            · exact Or.inr ⟨3, by decide, rfl, rfl⟩
            · exact step _ _ (hlt _ (tw_pos a t hdg))
      · split
        · exact step t _ (hlt 1 (by omega))
        · split
          · exact Or.inr ⟨2, by decide, rfl, rfl⟩
          · rename_i hz
            have := longL_pos (a :: t) 19
            exact step _ _ (hlt _ (by omega))
end Go.Proofs.YtojfdekiponccaaDoor.Pure
/- No more signs than bytes. -/
namespace Go.Proofs.YtojfdekiponccaaDoor.Pure
open Go.RowKit Go.Proofs.YtojfdekiponccaaDoor.H Go.Proofs.YtojfdekiponccaaDoorW.PrintWords Go.Proofs.YtojfdekiponccaaDoorW.PrintLast
set_option linter.unusedVariables false
set_option linter.unusedSimpArgs false
/-- No more signs than bytes. -/
theorem lexF_len : ∀ (n : Nat) (l : List UInt8) (x y : List S35) (e : Int), l.length ≤ n → lexF l x = some (y, e) → y.length ≤ x.length + l.length := by
  intro n
  induction n with
  | zero =>
    intro l x y e h h1
    obtain rfl : l = [] := List.eq_nil_of_length_eq_zero (by omega)
    have h2 : lexF [] x = some (x, 0) := rfl
    rw [h2] at h1
    obtain ⟨rfl, -⟩ := Prod.mk.inj (Option.some.inj h1)
    omega
  | succ n ih =>
    intro l x y e h h1
    rw [lexF_eq] at h1
    have herr : ∀ c : Int, (some ([], c) : Option (List S35 × Int)) = some (y, e) → y.length ≤ x.length + l.length := fun c hc => by
      obtain ⟨rfl, -⟩ := Prod.mk.inj (Option.some.inj hc)
      simp
    cases hl : l.dropWhile (· == 32) with
    | nil =>
      rw [hl] at h1
      obtain ⟨rfl, -⟩ := Prod.mk.inj (Option.some.inj h1)
      omega
    | cons a t =>
      rw [hl] at h1
      dsimp only at h1
      have hlt : ∀ m, 0 < m → ((a :: t).drop m).length < l.length := fun m hm => drop_lt l a t m hl hm
      have go : ∀ m (v : S35), 0 < m → lexF ((a :: t).drop m) (x ++ [v]) = some (y, e) → y.length ≤ x.length + l.length := fun m v hm hh => by
        have h2 := hlt m hm
        have h3 := ih _ _ _ _ (by omega) hh
        rw [List.length_append] at h3
        simp only [List.length_cons, List.length_nil] at h3
        omega
      split at h1
      · rename_i hdg
        split at h1
        · exact herr _ h1
        · split at h1
          · exact herr _ h1
          · split at h1
            · exact herr _ h1
            · exact go _ _ (tw_pos a t hdg) h1
      · split at h1
        · exact go 1 _ (by omega) h1
        · split at h1
          · exact herr _ h1
          · rename_i hz
            have := longL_pos (a :: t) 19
            exact go _ _ (by omega) h1
end Go.Proofs.YtojfdekiponccaaDoor.Pure
/- Reading signs always ends. -/
namespace Go.Proofs.YtojfdekiponccaaDoor.Pure
open Go.RowKit Go.Proofs.YtojfdekiponccaaDoor.H Go.Proofs.YtojfdekiponccaaDoorW.PrintWords Go.Proofs.YtojfdekiponccaaDoorW.PrintLast
set_option linter.unusedVariables false
set_option linter.unusedSimpArgs false
theorem lexF_some : ∀ (n : Nat) (l : List UInt8) (x : List S35), l.length ≤ n → ∃ y e, lexF l x = some (y, e) := by
  intro n l x h
  rcases lex_acc n l x h with ⟨y, _, h2⟩ | ⟨e, _, _, h2⟩
  · exact ⟨_, _, h2⟩
  · exact ⟨_, _, h2⟩
end Go.Proofs.YtojfdekiponccaaDoor.Pure
/- What a row of digits spells; the steps of lex.Lex, one for each way a text begins. -/
namespace Go.Proofs.YtojfdekiponccaaDoor.Pure
open Go.RowKit Go.Proofs.YtojfdekiponccaaDoor.H Go.Proofs.YtojfdekiponccaaDoorW.PrintWords Go.Proofs.YtojfdekiponccaaDoorW.PrintLast
set_option linter.unusedVariables false
set_option linter.unusedSimpArgs false
def dv (b : UInt8) : Nat := b.toNat - 48
theorem dv_eq (b : UInt8) : dv b = b.toNat - 48 := by unfold dv; exact Eq.refl _
def vfL : List UInt8 → Nat → Nat
  | [] => fun acc => acc
  | b :: r => fun acc => vfL r (acc * 10 + dv b)
def vf (acc : Nat) (l : List UInt8) : Nat := vfL l acc
theorem vf_nil (acc : Nat) : vf acc [] = acc := Eq.refl _
theorem vf_cons (acc : Nat) (b : UInt8) (r : List UInt8) : vf acc (b :: r) = vf (acc * 10 + dv b) r := Eq.refl _
theorem vf_dec : ∀ (l : List UInt8) (acc : Nat), (∀ b ∈ l, dg b = true) → Lib.decFrom acc l = some (vf acc l)
  | [], acc, _ => by rw [vf_nil]; rfl
  | b :: r, acc, h => by
    have hb : 48 ≤ b.toNat ∧ b.toNat ≤ 57 := of_decide_eq_true (h b (by simp))
    rw [vf_cons]
    unfold Lib.decFrom
    have e : Lib.digitVal b = some (dv b) := by unfold Lib.digitVal; rw [if_pos hb, dv_eq]
    rw [e]
    exact vf_dec r _ (fun x hx => h x (by simp [hx]))
theorem vf_ge : ∀ (l : List UInt8) (acc : Nat), acc * 10 ^ l.length ≤ vf acc l
  | [], acc => by rw [vf_nil, List.length_nil, Nat.pow_zero, Nat.mul_one]; exact Nat.le_refl _
  | b :: r, acc => by
    rw [vf_cons]
    refine Nat.le_trans ?_ (vf_ge r (acc * 10 + dv b))
    rw [List.length_cons, Nat.pow_succ, Nat.mul_comm (10 ^ r.length) 10, ← Nat.mul_assoc]
    exact Nat.mul_le_mul_right _ (Nat.le_add_right _ _)
theorem tw_dg : ∀ (l : List UInt8), ∀ b ∈ l.takeWhile dg, dg b = true
  | [], b, h => by cases h
  | a :: l, b, h => by
    rw [List.takeWhile_cons] at h
    cases ha : dg a
    · rw [ha] at h; simp at h
    · rw [ha] at h
      simp only [if_true, List.mem_cons] at h
      rcases h with rfl | h
      · exact ha
      · exact tw_dg l b h
theorem valL_dg (c : UInt8) (t : List UInt8) (h : ∀ b ∈ c :: t, dg b = true) : valL (c :: t) = (vf 0 (c :: t) : Int) := by
  have hc : 48 ≤ c.toNat ∧ c.toNat ≤ 57 := of_decide_eq_true (h c (by simp))
  have e1 : (c == 45) = false := by rw [beq_eq_false_iff_ne]; rintro rfl; exact absurd hc (by decide)
  have e2 : (c == 43) = false := by rw [beq_eq_false_iff_ne]; rintro rfl; exact absurd hc (by decide)
  unfold valL Lib.atoi
  dsimp only
  rw [e1, e2]
  simp only [Bool.false_eq_true, if_false, Lib.decNat, List.isEmpty_cons]
  rw [vf_dec _ _ h]
  rfl
theorem dg_ne (c : UInt8) (h : dg c = true) : (c == 32) = false := by
  rw [beq_eq_false_iff_ne]; rintro rfl; exact absurd h (by decide)
theorem lexF_num (c : UInt8) (t : List UInt8) (x : List S35) (hd : dg c = true) : lexF (c :: t) x =
    if c = 48 ∧ 1 < ((c :: t).takeWhile dg).length then some ([], 2)
    else if 2147483647 < vf 0 ((c :: t).takeWhile dg) then some ([], 3)
    else lexF ((c :: t).drop ((c :: t).takeWhile dg).length) (x ++ [(⟨1, (vf 0 ((c :: t).takeWhile dg) : Int)⟩ : S35)]) := by
  rw [lexF_eq]
  have hdw : (c :: t).dropWhile (· == 32) = c :: t := by rw [List.dropWhile_cons, dg_ne c hd]; rfl
  rw [hdw]
  dsimp only
  rw [if_pos hd]
  have hall := tw_dg (c :: t)
  have htw : (c :: t).takeWhile dg = c :: t.takeWhile dg := by rw [List.takeWhile_cons, if_pos hd]
  rw [htw] at hall ⊢
  rw [valL_dg c _ hall]
  by_cases h1 : c = 48 ∧ 1 < (c :: t.takeWhile dg).length
  · rw [if_pos h1, if_pos h1]
  · rw [if_neg h1, if_neg h1]
    by_cases h2 : 10 < (c :: t.takeWhile dg).length
    · rw [if_pos h2, if_pos]
      have hc : 48 ≤ c.toNat ∧ c.toNat ≤ 57 := of_decide_eq_true hd
      have hc48 : c.toNat ≠ 48 := fun h => h1 ⟨UInt8.toNat_inj.1 h, by omega⟩
      rw [vf_cons]
      have hdv := dv_eq c
      have h3 := vf_ge (t.takeWhile dg) (0 * 10 + dv c)
      rw [List.length_cons] at h2
      have h4 : 10 ^ 10 ≤ 10 ^ (t.takeWhile dg).length := Nat.pow_le_pow_right (by decide) (by omega)
      have h5 : 1 * 10 ^ (t.takeWhile dg).length ≤ (0 * 10 + dv c) * 10 ^ (t.takeWhile dg).length := Nat.mul_le_mul_right _ (by omega)
      have h6 : (10 : Nat) ^ 10 = 10000000000 := by decide
      omega
    · rw [if_neg h2]
      by_cases h3 : 2147483647 < vf 0 (c :: t.takeWhile dg)
      · rw [if_pos h3, if_pos (by omega)]
      · rw [if_neg h3, if_neg (by omega)]
theorem lexF_low (c : UInt8) (t : List UInt8) (x : List S35) (hw : lw c = true) : lexF (c :: t) x = lexF t (x ++ [(⟨2, (c.toNat : Int) - 97⟩ : S35)]) := by
  have hc : 97 ≤ c.toNat ∧ c.toNat ≤ 122 := of_decide_eq_true hw
  have h32 : (c == 32) = false := by rw [beq_eq_false_iff_ne]; rintro rfl; exact absurd hc (by decide)
  have hd : dg c = false := decide_eq_false (by omega)
  rw [lexF_eq, List.dropWhile_cons, h32]
  simp only [Bool.false_eq_true, if_false]
  rw [if_neg (by rw [hd]; decide), if_pos hw]
theorem lexF_sym (c : UInt8) (t : List UInt8) (x : List S35) (h32 : c ≠ 32) (hd : dg c = false) (hw : lw c = false) : lexF (c :: t) x =
    if (longL (c :: t) 19).2 = 0 then some ([], 2) else lexF ((c :: t).drop (longL (c :: t) 19).2.toNat) (x ++ [(⟨(longL (c :: t) 19).1, 0⟩ : S35)]) := by
  have h : (c == 32) = false := by rw [beq_eq_false_iff_ne]; exact h32
  rw [lexF_eq, List.dropWhile_cons, h]
  simp only [Bool.false_eq_true, if_false]
  rw [if_neg (by rw [hd]; decide), if_neg (by rw [hw]; decide)]
theorem lexF_symN (c : UInt8) (t : List UInt8) (x : List S35) (h32 : c ≠ 32) (hd : dg c = false) (hw : lw c = false) (n : Nat) (hn : n = 19) : lexF (c :: t) x =
    if (longL (c :: t) n).2 = 0 then some ([], 2) else lexF ((c :: t).drop (longL (c :: t) n).2.toNat) (x ++ [(⟨(longL (c :: t) n).1, 0⟩ : S35)]) := by
  subst hn
  exact lexF_sym c t x h32 hd hw
theorem lexT_size (k : Nat) : (lexT.getD k ⟨#[]⟩).size ≤ 2 := by
  by_cases hk : k < 19
  · have : ∀ j : Fin 19, (lexT.getD j.val ⟨#[]⟩).size ≤ 2 := by decide
    exact this ⟨k, hk⟩
  · have e : lexT.getD k ⟨#[]⟩ = ⟨#[]⟩ := by rw [List.getD_eq_getElem?_getD, List.getElem?_eq_none (by show 19 ≤ k; omega)]; rfl
    rw [e]; exact Nat.zero_le _
theorem lexT_small (k : Nat) (hk : k < 3) : (lexT.getD k ⟨#[]⟩).size = 0 := by
  rcases (by omega : k = 0 ∨ k = 1 ∨ k = 2) with rfl | rfl | rfl
  all_goals rfl
/-- What the longest sign found so far is. -/
theorem longL_ok (D : List UInt8) : ∀ i, longL D i = (0, 0) ∨ ∃ q : Nat, 3 ≤ q ∧ q < i ∧ longL D i = ((q : Int), ((lexT.getD q ⟨#[]⟩).size : Int)) ∧ 0 < (lexT.getD q ⟨#[]⟩).size ∧ Lib.hasPrefix D (lexT.getD q ⟨#[]⟩).data.toList = true
  | 0 => Or.inl rfl
  | i + 1 => by
    have ih := longL_ok D i
    have hp := longL_pos D i
    unfold longL
    by_cases h : (longL D i).2 < ((lexT.getD i ⟨#[]⟩).size : Int) ∧ Lib.hasPrefix D (lexT.getD i ⟨#[]⟩).data.toList = true
    · rw [if_pos h]
      have h3 : 3 ≤ i := by
        rcases Nat.lt_or_ge i 3 with h3 | h3
        · have := lexT_small i h3
          omega
        · exact h3
      exact Or.inr ⟨i, h3, by omega, rfl, by omega, h.2⟩
    · rw [if_neg h]
      rcases ih with e | ⟨q, q1, q2, e, q3, q4⟩
      · exact Or.inl e
      · exact Or.inr ⟨q, q1, by omega, e, q3, q4⟩
theorem hasPrefix_len (D p : List UInt8) (h : Lib.hasPrefix D p = true) : p.length ≤ D.length := (List.isPrefixOf_iff_prefix.1 h).length_le
end Go.Proofs.YtojfdekiponccaaDoor.Pure
