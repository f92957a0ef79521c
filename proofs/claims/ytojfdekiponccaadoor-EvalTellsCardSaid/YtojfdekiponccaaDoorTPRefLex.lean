import Derived.Test.YtojfdekiponccaaDoorTHx13
import Derived.Test.YtojfdekiponccaaDoorTHx12
import Derived.Test.YtojfdekiponccaaDoorTPA
import Derived.KernelRfl
/- The document's Lex says what lex.Lex says. -/
namespace Go.Proofs.YtojfdekiponccaaDoor.Pure
open Go.RowKit Go.Proofs.YtojfdekiponccaaDoor.H Go.Proofs.YtojfdekiponccaaDoorW.PrintWords Go.Proofs.YtojfdekiponccaaDoorW.PrintLast Go.Proofs.YtojfdekiponccaaDoorW.PrintMore
set_option linter.unusedVariables false
set_option linter.unusedSimpArgs false
theorem bt_drop (s : ByteArray) (i : Nat) (h : i < s.size) : ∃ b, s.data.toList.drop i = b :: s.data.toList.drop (i + 1) ∧ bt s (i : Int) = (b.toNat : Int) := by
  have hl : i < s.data.toList.length := by rw [data_len]; exact h
  refine ⟨s.data.toList[i], List.drop_eq_getElem_cons hl, ?_⟩
  have e : (i : Int).toNat = i := by omega
  unfold bt
  rw [dif_pos (by rw [e]; exact h)]
  simp only [e]
  rfl
theorem ofL (i : Nat) (h1 : 3 ≤ i) (h2 : i ≤ 18) : remontoirref13_of.f (i : Int) = some (lexT.getD i ⟨#[]⟩) := by
  rcases (by omega : i = 3 ∨ i = 4 ∨ i = 5 ∨ i = 6 ∨ i = 7 ∨ i = 8 ∨ i = 9 ∨ i = 10 ∨ i = 11 ∨ i = 12 ∨ i = 13 ∨ i = 14 ∨ i = 15 ∨ i = 16 ∨ i = 17 ∨ i = 18) with rfl | rfl | rfl | rfl | rfl | rfl | rfl | rfl | rfl | rfl | rfl | rfl | rfl | rfl | rfl | rfl
  all_goals kernel_rfl
theorem w_add (a b : Nat) (h : a + b ≤ 1000) : wrap64 ((a : Int) + (b : Int)) = ((a + b : Nat) : Int) := by unfold wrap64; omega
theorem w_sub (a b : Nat) (h : a ≤ 1000) (hb : b ≤ a) : wrap64 ((a : Int) - (b : Int)) = ((a - b : Nat) : Int) := by unfold wrap64; omega
def sat (v : Nat) : Int := ((min v 2147483648 : Nat) : Int)
theorem sat_step (v d : Nat) (hd : d ≤ 9) : mn (wrap64 ((wrap64 (10 * sat v)) + (d : Int) % 256)) 2147483648 = sat (v * 10 + d) := by
  unfold mn sat wrap64
  have : min v 2147483648 ≤ 2147483648 := Nat.min_le_right _ _
  rcases Nat.le_total v 2147483648 with h | h
  · rw [Nat.min_eq_left h]
    split <;> omega
  · rw [Nat.min_eq_right h, Nat.min_eq_right (by omega)]
    split <;> omega
theorem ref_l1 (s : ByteArray) (out : List S35) (x5 x6 : Int) (hs : s.size ≤ 60) (r : List S35 × Int) (B : Nat) : ∀ (d a v : Nat), a + d = s.size →
    (∀ k, B ≤ k → remontoirref13_Lex.j4 k s out x5 x6 ((a + ((s.data.toList.drop a).takeWhile dg).length : Nat) : Int) (sat (vf v ((s.data.toList.drop a).takeWhile dg))) = some r) →
    ∀ k, B + d + 1 ≤ k → remontoirref13_Lex.l1 k s out x5 x6 (a : Int) (sat v) = some r := by
  intro d
  induction d with
  | zero =>
    intro a v ha h k hk
    obtain ⟨k, rfl⟩ : ∃ m, k = m + 1 := ⟨k - 1, by omega⟩
    have e : s.data.toList.drop a = [] := by rw [List.drop_eq_nil_iff, data_len]; omega
    have h1 := h k (by omega)
    rw [e] at h1
    simp only [remontoirref13_Lex.l1]
    rw [if_neg (by omega)]
    simpa [vf_nil] using h1
  | succ d ih =>
    intro a v ha h k hk
    obtain ⟨k, rfl⟩ : ∃ m, k = m + 1 := ⟨k - 1, by omega⟩
    obtain ⟨b, e, hb⟩ := bt_drop s a (by omega)
    simp only [remontoirref13_Lex.l1]
    rw [if_pos (by omega), if_pos (by omega), hb]
    rw [e] at h
    cases hd : dg b
    · have hn : ¬ (48 ≤ b.toNat ∧ b.toNat ≤ 57) := of_decide_eq_false hd
      have e2 : (b :: s.data.toList.drop (a + 1)).takeWhile dg = [] := by rw [List.takeWhile_cons, hd]; rfl
      rw [e2] at h
      have h1 := h k (by omega)
      simp only [List.length_nil, Nat.add_zero, vf_nil] at h1
      by_cases g : (b.toNat : Int) ≥ 48
      · rw [if_pos g, if_neg (by omega)]; exact h1
      · rw [if_neg g]; exact h1
    · have hn : 48 ≤ b.toNat ∧ b.toNat ≤ 57 := of_decide_eq_true hd
      rw [if_pos (by omega), if_pos (by omega)]
      have e1 : wrap64 ((a : Int) + 1) = ((a + 1 : Nat) : Int) := by unfold wrap64; omega
      have hdv := dv_eq b
      have e3 : (b.toNat : Int) - 48 = ((dv b : Nat) : Int) := by omega
      rw [e1, e3, sat_step v (dv b) (by omega)]
      refine ih (a + 1) (v * 10 + dv b) (by omega) ?_ k (by omega)
      intro k' hk'
      have h1 := h k' hk'
      rw [List.takeWhile_cons, if_pos hd, List.length_cons] at h1
      have e4 : a + 1 + ((s.data.toList.drop (a + 1)).takeWhile dg).length = a + (((s.data.toList.drop (a + 1)).takeWhile dg).length + 1) := by omega
      rw [e4]
      exact h1
set_option maxHeartbeats 1000000 in
theorem ref_l2 (s : ByteArray) (out : List S35) (a : Nat) (r : List S35 × Int) (B : Nat) (hs : s.size ≤ 60) (hat : a ≤ s.size) (ho : out.length ≤ 60)
    (h0 : ∀ n, n = 19 → longL (s.data.toList.drop a) n = (0, 0) → r = ([], 2))
    (hq : ∀ q n : Nat, n = 19 → 3 ≤ q → q ≤ 18 → 0 < (lexT.getD q ⟨#[]⟩).size → longL (s.data.toList.drop a) n = ((q : Int), ((lexT.getD q ⟨#[]⟩).size : Int)) → ∀ k, B ≤ k → remontoirref13_Lex.l0 k s (out ++ [(⟨(q : Int), 0⟩ : S35)]) ((a + (lexT.getD q ⟨#[]⟩).size : Nat) : Int) = some r) :
    ∀ (d i k : Nat), i + d = 19 → 3 ≤ i → B + d + 1 ≤ k → remontoirref13_Lex.l2 k s out (a : Int) (longL (s.data.toList.drop a) i).1 (i : Int) = some r := by
  have hD : (s.data.toList.drop a).length = s.size - a := by rw [List.length_drop, data_len]
  intro d
  induction d with
  | zero =>
    intro i k hi h3 hk
    obtain ⟨k, rfl⟩ : ∃ m, k = m + 1 := ⟨k - 1, by omega⟩
    simp only [remontoirref13_Lex.l2]
    rw [if_neg (by omega)]
    rcases longL_ok (s.data.toList.drop a) i with e | ⟨q, q1, q2, e, q3, hp⟩
    · rw [e, h0 i hi e]; rfl
    · rw [e, if_neg (show ¬ ((q : Int) = 0) by omega), if_pos (by omega), ofL q q1 (by omega)]
      simp only [Option.bind_some]
      have hsz := hasPrefix_len _ _ hp
      rw [data_len, hD] at hsz
      have hq' := hq q i hi q1 (by omega) q3 e k (by omega)
      generalize lexT.getD q ⟨#[]⟩ = t at *
      have e2 : wrap64 ((a : Int) + (t.size : Int)) = ((a + t.size : Nat) : Int) := by unfold wrap64; omega
      rw [e2]
      exact hq'
  | succ d ih =>
    intro i k hi h3 hk
    obtain ⟨k, rfl⟩ : ∃ m, k = m + 1 := ⟨k - 1, by omega⟩
    simp only [remontoirref13_Lex.l2]
    rw [if_pos (by omega), ofL i h3 (by omega)]
    simp only [Option.bind_some]
    have hnext := ih (i + 1) k (by omega) (by omega) (by omega)
    have ei : wrap64 ((i : Int) + 1) = ((i + 1 : Nat) : Int) := by unfold wrap64; omega
    rw [ei]
    have hstep : longL (s.data.toList.drop a) (i + 1) = if (longL (s.data.toList.drop a) i).2 < ((lexT.getD i ⟨#[]⟩).size : Int) ∧ Lib.hasPrefix (s.data.toList.drop a) (lexT.getD i ⟨#[]⟩).data.toList = true then ((i : Int), ((lexT.getD i ⟨#[]⟩).size : Int)) else longL (s.data.toList.drop a) i := rfl
    have hT2 := lexT_size i
    have htp : 0 < (lexT.getD i ⟨#[]⟩).size := by
      have : ∀ j : Fin 16, 0 < (lexT.getD (j.val + 3) ⟨#[]⟩).size := by decide
      have h := this ⟨i - 3, by omega⟩
      have e : i - 3 + 3 = i := by omega
      simpa [e] using h
    have hok := longL_ok (s.data.toList.drop a) i
    have hof : ∀ q : Nat, 3 ≤ q → q < i → remontoirref13_of.f (q : Int) = some (lexT.getD q ⟨#[]⟩) := fun q q1 q2 => ofL q q1 (by omega)
    generalize lexT.getD i ⟨#[]⟩ = t at *
    have hpre : Lib.hasPrefix (s.data.toList.drop a) t.data.toList = (decide (t.size ≤ (s.data.toList.drop a).length) && ((s.data.toList.drop a).take t.size == t.data.toList)) := by
      rw [← Lib.hasPrefix_of_take, data_len]
    by_cases hlen : t.size ≤ (s.data.toList.drop a).length
    · rw [hD] at hlen
      have hle : a + t.size ≤ s.size := by
        clear hstep hnext hok hof hpre h0 hq ih
        omega
      have ew : wrap64 ((a : Int) + (t.size : Int)) = ((a + t.size : Nat) : Int) := w_add _ _ (by clear hstep hnext hok hof hpre h0 hq ih; omega)
      have hc1 : wrap64 ((s.size : Int) - (a : Int)) ≥ (t.size : Int) := by
        rw [w_sub _ _ (by clear hstep hnext hok hof hpre h0 hq ih; omega) hat]
        exact Int.ofNat_le.2 hlen
      have hc2 : (0 : Int) ≤ (a : Int) := Int.natCast_nonneg _
      have hc3 : (a : Int) ≤ ((a + t.size : Nat) : Int) := Int.ofNat_le.2 (Nat.le_add_right _ _)
      have hc4 : ((a + t.size : Nat) : Int) ≤ (s.size : Int) := Int.ofNat_le.2 hle
      rw [ew, if_pos hc1, if_pos hc2, if_pos hc3, if_pos hc4]
      have hex : (s.extract (a : Int).toNat ((a + t.size : Nat) : Int).toNat).toList = (s.data.toList.drop a).take t.size := by
        rw [ByteArray.toList_eq]
        simp only [ByteArray.data_extract, Array.toList_extract, Int.toNat_natCast]
        rw [List.extract_eq_take_drop]
        congr 1
        omega
      rw [hex, ByteArray.toList_eq]
      by_cases hpp : (s.data.toList.drop a).take t.size = t.data.toList
      · rw [if_pos hpp]
        have hP : Lib.hasPrefix (s.data.toList.drop a) t.data.toList = true := by rw [hpre, hD]; simp [hlen, hpp]
        rcases hok with e | ⟨q, q1, q2, e, q3, _⟩
        · rw [e, if_pos rfl]
          rw [e] at hstep
          rw [hstep, if_pos ⟨by show (0 : Int) < _; omega, hP⟩] at hnext
          exact hnext
        · rw [e, if_neg (show ¬ ((q : Int) = 0) by omega), hof q q1 q2]
          rw [e] at hstep
          simp only [Option.bind_some]
          by_cases hg : (t.size : Int) > ((lexT.getD q ⟨#[]⟩).size : Int)
          · rw [if_pos hg]
            rw [hstep, if_pos ⟨hg, hP⟩] at hnext
            exact hnext
          · rw [if_neg hg]
            rw [hstep, if_neg (fun h => hg h.1)] at hnext
            exact hnext
      · rw [if_neg hpp]
        have hP : ¬ Lib.hasPrefix (s.data.toList.drop a) t.data.toList = true := by rw [hpre, hD]; simp [hlen, hpp]
        rw [hstep, if_neg (fun h => hP h.2)] at hnext
        exact hnext
    · have hP : ¬ Lib.hasPrefix (s.data.toList.drop a) t.data.toList = true := fun h => by
        have := hasPrefix_len _ _ h
        rw [data_len] at this
        exact hlen this
      rw [hD] at hlen
      have hc1 : ¬ wrap64 ((s.size : Int) - (a : Int)) ≥ (t.size : Int) := by
        rw [w_sub _ _ (by clear hstep hnext hok hof hpre h0 hq ih; omega) hat]
        exact fun h => hlen (Int.ofNat_le.1 h)
      rw [if_neg hc1]
      rw [hstep, if_neg (fun h => hP h.2)] at hnext
      exact hnext
set_option maxHeartbeats 1000000 in
theorem ref_lex (s : ByteArray) (hs : s.size ≤ 60) : ∀ (n a : Nat) (out : List S35), a + n = s.size → out.length ≤ a → ∀ r, lexF (s.data.toList.drop a) out = some r → ∀ k, 100 * n + 10 ≤ k → remontoirref13_Lex.l0 k s out (a : Int) = some r := by
  intro n
  induction n using Nat.strongRecOn with
  | _ n ih =>
    intro a out ha ho r hr k hk
    obtain ⟨k, rfl⟩ : ∃ m, k = m + 1 := ⟨k - 1, by omega⟩
    simp only [remontoirref13_Lex.l0]
    by_cases hn : n = 0
    · have e : s.data.toList.drop a = [] := by rw [List.drop_eq_nil_iff, data_len]; omega
      rw [e] at hr
      rw [if_neg (by omega)]
      exact hr
    · obtain ⟨b, e, hb⟩ := bt_drop s a (by omega)
      have hlen : (s.data.toList.drop (a + 1)).length = s.size - (a + 1) := by rw [List.length_drop, data_len]
      rw [if_pos (by omega), if_pos (by omega), hb]
      have e1 : wrap64 ((a : Int) + 1) = ((a + 1 : Nat) : Int) := by unfold wrap64; omega
      rw [e] at hr
      by_cases h32 : b = 32
      · subst h32
        rw [if_pos (by rfl), e1]
        rw [lexF_blank] at hr
        exact ih (n - 1) (by omega) (a + 1) out (by omega) (by omega) r hr k (by omega)
      · have h32' : ¬ ((b.toNat : Int) = 32) := fun h => h32 (UInt8.toNat_inj.1 (show b.toNat = 32 by omega))
        rw [if_neg h32']
        obtain ⟨k, rfl⟩ : ∃ m, k = m + 1 := ⟨k - 1, by omega⟩
        cases hw : lw b
        · have hwn : ¬ (97 ≤ b.toNat ∧ b.toNat ≤ 122) := of_decide_eq_false hw
          have step : remontoirref13_Lex.j1 (k + 1) s out (a : Int) (b.toNat : Int) false = some r := by
            simp only [remontoirref13_Lex.j1, Bool.false_eq_true, if_false]
            obtain ⟨k, rfl⟩ : ∃ m, k = m + 1 := ⟨k - 1, by omega⟩
            cases hd : dg b
            · have hdn : ¬ (48 ≤ b.toNat ∧ b.toNat ≤ 57) := of_decide_eq_false hd
              have j2 : remontoirref13_Lex.j2 (k + 1) s out (a : Int) (b.toNat : Int) false = some r := by
                simp only [remontoirref13_Lex.j2, Bool.false_eq_true, if_false]
                have e3 : ∀ n, n = 3 → longL (s.data.toList.drop a) n = (0, 0) := by
                  intro n hn
                  rcases longL_ok (s.data.toList.drop a) n with h | ⟨q, q1, q2, _⟩
                  · exact h
                  · omega
                have h2 := ref_l2 s out a r (100 * (n - 1) + 10) hs (by omega) (by omega) ?_ ?_ 16
                · have h3 := fun i hi => h2 i k hi
                  obtain ⟨n3, hn3⟩ : ∃ m : Nat, m = 3 := ⟨3, rfl⟩
                  have h4 := h3 n3 (by omega) (by omega) (by omega)
                  rw [e3 n3 hn3, hn3] at h4
                  exact h4
                · intro n19 hn19 h0
                  rw [lexF_symN b _ _ h32 hd hw n19 hn19] at hr
                  rw [e] at h0
                  rw [h0, if_pos rfl] at hr
                  exact (Option.some.inj hr).symm
                · intro q n19 hn19 q1 q2 q3 h0 k' hk'
                  rw [lexF_symN b _ _ h32 hd hw n19 hn19] at hr
                  rw [e] at h0
                  rw [h0, if_neg (by show ¬ ((lexT.getD q ⟨#[]⟩).size : Int) = 0; omega)] at hr
                  have h2 := lexT_size q
                  have hpl : (lexT.getD q ⟨#[]⟩).size ≤ s.size - a := by
                    rcases longL_ok (b :: s.data.toList.drop (a + 1)) n19 with h | ⟨q', _, _, h', _, hp'⟩
                    · rw [h0] at h
                      have := (Prod.mk.inj h).2
                      omega
                    · have := hasPrefix_len _ _ hp'
                      rw [h0] at h'
                      have h6 := (Prod.mk.inj h').2
                      rw [data_len, List.length_cons, hlen] at this
                      omega
                  refine ih (n - (lexT.getD q ⟨#[]⟩).size) (by omega) _ _ (by omega) (by rw [List.length_append]; show out.length + 1 ≤ _; omega) r ?_ k' (by omega)
                  rw [← hr, ← e]
                  dsimp only
                  rw [List.drop_drop, Int.toNat_natCast]
              by_cases g : (b.toNat : Int) ≥ 48
              · rw [if_pos g, decide_eq_false (by omega)]; exact j2
              · rw [if_neg g]; exact j2
            · have hdn : 48 ≤ b.toNat ∧ b.toNat ≤ 57 := of_decide_eq_true hd
              rw [if_pos (by omega), decide_eq_true (by omega)]
              simp only [remontoirref13_Lex.j2, if_true]
              rw [lexF_num b _ _ hd] at hr
              have h1 := ref_l1 s out (a : Int) (b.toNat : Int) hs r (100 * (n - 1) + 15) n a 0 (by omega) ?_ k (by omega)
              · exact h1
              · intro k hk
                obtain ⟨k, rfl⟩ : ∃ m, k = m + 1 := ⟨k - 1, by omega⟩
                rw [e]
                have hpos := tw_pos b (s.data.toList.drop (a + 1)) hd
                have hle : ((b :: s.data.toList.drop (a + 1)).takeWhile dg).length ≤ n := by
                  have := (List.takeWhile_sublist (l := b :: s.data.toList.drop (a + 1)) dg).length_le
                  rw [List.length_cons, hlen] at this
                  omega
                have hdr : ∀ m, (b :: s.data.toList.drop (a + 1)).drop m = s.data.toList.drop (a + m) := fun m => by rw [← e, List.drop_drop]
                rw [hdr] at hr
                generalize ((b :: s.data.toList.drop (a + 1)).takeWhile dg).length = m at *
                generalize vf 0 ((b :: s.data.toList.drop (a + 1)).takeWhile dg) = v at *
                simp only [remontoirref13_Lex.j4]
                rw [e1]
                obtain ⟨k, rfl⟩ : ∃ m, k = m + 1 := ⟨k - 1, by omega⟩
                have j5f : ¬ (b = 48 ∧ 1 < m) → remontoirref13_Lex.j5 (k + 1) s out ((a + m : Nat) : Int) (sat v) false = some r := by
                  intro hc
                  simp only [remontoirref13_Lex.j5, Bool.false_eq_true, if_false]
                  rw [if_neg hc] at hr
                  by_cases hv : 2147483647 < v
                  · rw [if_pos hv] at hr
                    rw [if_pos (by unfold sat; omega)]
                    exact hr
                  · rw [if_neg hv] at hr
                    have es : sat v = (v : Int) := by unfold sat; omega
                    rw [es, if_neg (by omega), if_pos (by omega)]
                    exact ih (n - m) (by omega) (a + m) _ (by omega) (by rw [List.length_append]; show out.length + 1 ≤ _; omega) r hr k (by omega)
                by_cases h48 : (b.toNat : Int) = 48
                · rw [if_pos h48]
                  have hb48 : b = 48 := UInt8.toNat_inj.1 (show b.toNat = 48 by omega)
                  by_cases hm : 1 < m
                  · rw [decide_eq_true (by omega)]
                    simp only [remontoirref13_Lex.j5, if_true]
                    rw [if_pos ⟨hb48, hm⟩] at hr
                    exact hr
                  · rw [decide_eq_false (by omega)]
                    exact j5f (fun h => hm h.2)
                · rw [if_neg h48]
                  exact j5f (fun h => h48 (by rw [h.1]; rfl))
          by_cases g : (b.toNat : Int) ≥ 97
          · rw [if_pos g, decide_eq_false (by omega)]; exact step
          · rw [if_neg g]; exact step
        · have hwn : 97 ≤ b.toNat ∧ b.toNat ≤ 122 := of_decide_eq_true hw
          rw [if_pos (by omega), decide_eq_true (by omega)]
          simp only [remontoirref13_Lex.j1, if_true]
          rw [if_pos (by omega), e1]
          rw [lexF_low b _ _ hw] at hr
          have e5 : ((b.toNat : Int) - 97) % 256 = (b.toNat : Int) - 97 := by omega
          rw [e5]
          exact ih (n - 1) (by omega) (a + 1) _ (by omega) (by rw [List.length_append]; show out.length + 1 ≤ _; omega) r hr k (by omega)
/-- The two say the same. -/
theorem refLex_eq (s : ByteArray) : ∃ x e, lex_Lex.f s = some (x, e) ∧ x.length ≤ 60 ∧ ∀ k, 6010 ≤ k → remontoirref13_Lex.f k s = some (x, e) := by
  rw [lex_list]
  by_cases h : s.size > 60
  · refine ⟨[], 15, by rw [if_pos h], by simp, fun k _ => ?_⟩
    unfold remontoirref13_Lex.f
    rw [if_pos (by omega)]
  · obtain ⟨x, e, hx⟩ := lexF_some _ s.data.toList [] (Nat.le_refl _)
    have hl := lexF_len _ _ _ _ _ (Nat.le_refl _) hx
    rw [data_len] at hl
    simp only [List.length_nil] at hl
    refine ⟨x, e, by rw [if_neg h]; exact hx, by omega, fun k hk => ?_⟩
    unfold remontoirref13_Lex.f
    rw [if_neg (by omega)]
    exact ref_lex s (by omega) s.size 0 [] (by omega) (by simp) (x, e) (by simpa using hx) k (by omega)
end Go.Proofs.YtojfdekiponccaaDoor.Pure
