import Derived.Test.YtojfdekiponccaaDoorPPrint
/- What is written is read as it was; what is read can be written. -/
namespace Go.Proofs.YtojfdekiponccaaDoor.Pure
open Go.RowKit Go.Proofs.YtojfdekiponccaaDoor.H Go.Proofs.YtojfdekiponccaaDoorW.PrintWords Go.Proofs.YtojfdekiponccaaDoorW.PrintLast Go.Proofs.YtojfdekiponccaaDoorW.PrintMore
set_option linter.unusedVariables false
set_option linter.unusedSimpArgs false
theorem u8_of (n : Nat) (h : n < 256) : (UInt8.ofNat n).toNat = n := by
  rw [UInt8.toNat_ofNat']; omega
theorem vf_snoc : ∀ (l : List UInt8) (a : Nat) (b : UInt8), vf a (l ++ [b]) = vf a l * 10 + dv b
  | [], a, b => by rw [List.nil_append, vf_cons, vf_nil, vf_nil]
  | c :: l, a, b => by rw [List.cons_append, vf_cons, vf_cons, vf_snoc l]
theorem digS_dg : ∀ (f u : Nat), ∀ b ∈ digS f u, dg b = true
  | 0, u, b, h => by simp [digS] at h
  | f + 1, u, b, h => by
    unfold digS at h
    split at h
    · obtain rfl := List.mem_singleton.1 h
      unfold dg
      rw [u8_of _ (by omega)]
      exact decide_eq_true (by omega)
    · rcases List.mem_append.1 h with h | h
      · exact digS_dg f _ b h
      · obtain rfl := List.mem_singleton.1 h
        unfold dg
        rw [u8_of _ (by omega)]
        exact decide_eq_true (by omega)
theorem digS_vf : ∀ (f u : Nat), u < 10 ^ f → 0 < f → vf 0 (digS f u) = u
  | 0, u, _, h => by omega
  | f + 1, u, hu, _ => by
    unfold digS
    split
    · rw [vf_cons, vf_nil, dv_eq, u8_of _ (by omega)]; omega
    · have hf : 0 < f := by
        rcases Nat.eq_zero_or_pos f with rfl | h1
        · simp at hu; omega
        · exact h1
      rw [vf_snoc, digS_vf f (u / 10) (by rw [Nat.pow_succ] at hu; omega) hf, dv_eq, u8_of _ (by omega)]
      omega
theorem digS_head : ∀ (f u : Nat), u < 10 ^ f → 0 < f → ∃ c t, digS f u = c :: t ∧ (u ≠ 0 → c ≠ 48)
  | 0, u, _, h => by omega
  | f + 1, u, hu, _ => by
    unfold digS
    split
    · refine ⟨_, [], rfl, fun h0 h => ?_⟩
      have := congrArg UInt8.toNat h
      rw [u8_of _ (by omega)] at this
      have h48 : (48 : UInt8).toNat = 48 := rfl
      omega
    · have hf : 0 < f := by
        rcases Nat.eq_zero_or_pos f with rfl | h1
        · simp at hu; omega
        · exact h1
      obtain ⟨c, t, e, hc⟩ := digS_head f (u / 10) (by rw [Nat.pow_succ] at hu; omega) hf
      rw [e]
      exact ⟨c, _, rfl, fun _ => hc (by omega)⟩
theorem tw_full : ∀ (l : List UInt8), (∀ b ∈ l, dg b = true) → l.takeWhile dg = l
  | [], _ => rfl
  | a :: l, h => by rw [List.takeWhile_cons, if_pos (h a (by simp)), tw_full l (fun b hb => h b (by simp [hb]))]
/-- The digits of a number: it, or too great. -/
theorem lexF_digs (u : Nat) (f : Nat) (hf : 0 < f) (hu : u < 10 ^ f) (x : List S35) : lexF (digS f u) x = if 2147483647 < u then some ([], 3) else some (x ++ [(⟨1, (u : Int)⟩ : S35)], 0) := by
  obtain ⟨c, t, e, hc⟩ := digS_head f u hu hf
  have hall := digS_dg f u
  have hv := digS_vf f u hu hf
  rw [e] at hall hv ⊢
  rw [lexF_num c t x (hall c (by simp)), tw_full _ hall, hv]
  rw [if_neg]
  · rw [List.drop_length]
    rfl
  · rintro ⟨rfl, hl⟩
    by_cases h0 : u = 0
    · subst h0
      have : digS f 0 = [48] := by
        obtain ⟨f, rfl⟩ : ∃ m, f = m + 1 := ⟨f - 1, by omega⟩
        unfold digS
        rfl
      rw [this] at e
      have := (List.cons.inj e).2
      rw [← this] at hl
      simp at hl
    · exact hc h0 rfl
theorem lexF_symtext (i : Nat) (h1 : 3 ≤ i) (h2 : i ≤ 18) : lexF (lexT.getD i ⟨#[]⟩).data.toList [] = some ([(⟨(i : Int), 0⟩ : S35)], 0) := by
  rcases (by omega : i = 3 ∨ i = 4 ∨ i = 5 ∨ i = 6 ∨ i = 7 ∨ i = 8 ∨ i = 9 ∨ i = 10 ∨ i = 11 ∨ i = 12 ∨ i = 13 ∨ i = 14 ∨ i = 15 ∨ i = 16 ∨ i = 17 ∨ i = 18) with rfl | rfl | rfl | rfl | rfl | rfl | rfl | rfl | rfl | rfl | rfl | rfl | rfl | rfl | rfl | rfl
  all_goals kernel_rfl
/-- One sign's text is read as that sign. -/
theorem lexF_text (k n : Int) (hg : goodB k n = true) (x : List S35) : lexF (lex_Text.t k n).data.toList x = some (x ++ [(⟨k, n⟩ : S35)], 0) := by
  unfold goodB at hg
  unfold lex_Text.t
  by_cases h1 : k = 1
  · subst h1
    rw [if_pos rfl] at hg ⊢
    have hn := of_decide_eq_true hg
    obtain ⟨u, rfl⟩ : ∃ u : Nat, n = (u : Int) := ⟨n.toNat, by omega⟩
    have e20 : (10 : Nat) ^ 20 = 100000000000000000000 := by decide
    show lexF (digS 20 (u : Int).toNat) x = _
    rw [Int.toNat_natCast, lexF_digs u 20 (by omega) (by rw [e20]; omega), if_neg (by omega)]
  · rw [if_neg h1] at hg ⊢
    by_cases h2 : k = 2
    · subst h2
      rw [if_pos rfl] at hg ⊢
      have hn := of_decide_eq_true hg
      show lexF [UInt8.ofNat (97 + n).toNat] x = _
      have hb : (UInt8.ofNat (97 + n).toNat).toNat = (97 + n).toNat := u8_of _ (by omega)
      rw [lexF_low _ _ _ (by unfold lw; rw [hb]; exact decide_eq_true (by omega)), hb]
      have e : ((97 + n).toNat : Int) - 97 = n := by omega
      rw [e]
      rfl
    · rw [if_neg h2] at hg ⊢
      obtain ⟨hk, hn⟩ := (Bool.and_eq_true _ _).mp hg
      have hk := of_decide_eq_true hk
      obtain rfl : n = 0 := eq_of_beq hn
      obtain ⟨i, rfl⟩ : ∃ i : Nat, k = (i : Int) := ⟨k.toNat, by omega⟩
      rw [Int.toNat_natCast]
      have h := lexF_symtext i (by omega) (by omega)
      rcases lex_acc _ (lexT.getD i ⟨#[]⟩).data.toList x (Nat.le_refl _) with ⟨y, h3, h4⟩ | ⟨e, he, h3, _⟩
      · rw [h] at h3
        obtain ⟨rfl, -⟩ := Prod.mk.inj (Option.some.inj h3)
        exact h4
      · rw [h] at h3
        exact absurd (Prod.mk.inj (Option.some.inj h3)).2.symm he
theorem lexF_prL (l : List S35) (hg : goodAll l = true) : ∀ i, i ≤ l.length → lexF (prL (l.take i)) [] = some (l.take i, 0)
  | 0, _ => rfl
  | i + 1, h => by
    have ih := lexF_prL l hg i (by omega)
    have hgi : goodB l[i].f0 l[i].f1 = true := by
      unfold goodAll at hg
      exact List.all_eq_true.1 hg _ (List.getElem_mem _)
    rw [take_snoc l i (by omega), prL_snoc]
    split
    · rename_i h0
      rw [h0, lexF_text _ _ hgi]
    · rw [List.append_assoc]
      rcases lex_app 32 (lex_Text.t l[i].f0 l[i].f1).data.toList sep_blank _ (prL (l.take i)) [] (Nat.le_refl _) with ⟨y, h1, h2⟩ | ⟨e, he, h1, _⟩
      · rw [ih] at h1
        obtain ⟨rfl, -⟩ := Prod.mk.inj (Option.some.inj h1)
        show lexF (prL (l.take i) ++ 32 :: (lex_Text.t l[i].f0 l[i].f1).data.toList) [] = _
        rw [h2, lexF_blank, lexF_text _ _ hgi]
      · rw [ih] at h1
        exact absurd (Prod.mk.inj (Option.some.inj h1)).2.symm he
/-- What is written is read as it was. -/
theorem lex_of_print (l : List S35) (hg : goodAll l = true) (h60 : (prL l).length ≤ 60) : lex_Lex.f ⟨(prL l).toArray⟩ = some (l, 0) := by
  have hs : (⟨(prL l).toArray⟩ : ByteArray).size = (prL l).length := by rw [← data_len]
  rw [lex_list, if_neg (by rw [hs]; omega)]
  have := lexF_prL l hg l.length (Nat.le_refl _)
  rw [List.take_length] at this
  exact this
theorem goodAll_snoc (x : List S35) (s : S35) (hx : goodAll x = true) (hs : goodB s.f0 s.f1 = true) : goodAll (x ++ [s]) = true := by
  unfold goodAll at hx ⊢
  rw [List.all_append, hx]
  simp [hs]
/-- Signs that were read can be written. -/
theorem lexF_good : ∀ (n : Nat) (l : List UInt8) (x y : List S35) (e : Int), l.length ≤ n → goodAll x = true → lexF l x = some (y, e) → goodAll y = true := by
  intro n
  induction n with
  | zero =>
    intro l x y e h hx h1
    obtain rfl : l = [] := List.eq_nil_of_length_eq_zero (by omega)
    have h2 : lexF [] x = some (x, 0) := rfl
    rw [h2] at h1
    obtain ⟨rfl, -⟩ := Prod.mk.inj (Option.some.inj h1)
    exact hx
  | succ n ih =>
    intro l x y e h hx h1
    cases l with
    | nil =>
      have h2 : lexF [] x = some (x, 0) := rfl
      rw [h2] at h1
      obtain ⟨rfl, -⟩ := Prod.mk.inj (Option.some.inj h1)
      exact hx
    | cons c t =>
      have hlt : t.length ≤ n := by rw [List.length_cons] at h; omega
      have hdr : ∀ m, 0 < m → ((c :: t).drop m).length ≤ n := fun m hm => by rw [List.length_drop, List.length_cons]; omega
      have herr : ∀ q : Int, (some ([], q) : Option (List S35 × Int)) = some (y, e) → goodAll y = true := fun q hq => by
        obtain ⟨rfl, -⟩ := Prod.mk.inj (Option.some.inj hq)
        rfl
      by_cases h32 : c = 32
      · subst h32
        rw [lexF_blank] at h1
        exact ih t x y e hlt hx h1
      · cases hd : dg c
        · cases hw : lw c
          · obtain ⟨m, hm⟩ : ∃ m : Nat, m = 19 := ⟨19, rfl⟩
            rw [lexF_symN c t x h32 hd hw m hm] at h1
            rcases longL_ok (c :: t) m with h0 | ⟨q, q1, q2, h0, q3, _⟩
            · rw [h0, if_pos rfl] at h1
              exact herr _ h1
            · rw [h0, if_neg (by show ¬ ((lexT.getD q ⟨#[]⟩).size : Int) = 0; omega)] at h1
              refine ih _ _ y e (hdr _ (by show 0 < ((lexT.getD q ⟨#[]⟩).size : Int).toNat; omega)) (goodAll_snoc x _ hx ?_) h1
              unfold goodB
              dsimp only
              rw [if_neg (by omega), if_neg (by omega), decide_eq_true (by omega)]
              rfl
          · rw [lexF_low c t x hw] at h1
            have hc : 97 ≤ c.toNat ∧ c.toNat ≤ 122 := of_decide_eq_true hw
            refine ih t _ y e hlt (goodAll_snoc x _ hx ?_) h1
            unfold goodB
            dsimp only
            rw [if_neg (by omega), if_pos rfl]
            exact decide_eq_true (by omega)
        · rw [lexF_num c t x hd] at h1
          split at h1
          · exact herr _ h1
          · split at h1
            · exact herr _ h1
            · rename_i hv
              refine ih _ _ y e (hdr _ (tw_pos c t hd)) (goodAll_snoc x _ hx ?_) h1
              unfold goodB
              dsimp only
              rw [if_pos rfl]
              exact decide_eq_true (by omega)
end Go.Proofs.YtojfdekiponccaaDoor.Pure
