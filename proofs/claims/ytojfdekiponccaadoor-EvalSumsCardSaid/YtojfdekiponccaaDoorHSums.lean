import Derived.Test.YtojfdekiponccaaDoorHx15
import Derived.Test.YtojfdekiponccaaDoorPA
import Derived.Test.YtojfdekiponccaaDoorPSays
import Derived.Test.YtojfdekiponccaaDoorHEv
import Derived.Laws.Tables
/- A number's digits, as the document writes them; they are read as that number. -/
namespace Go.Proofs.YtojfdekiponccaaDoor.Pure
open Go.RowKit Go.Proofs.YtojfdekiponccaaDoor.H Go.Proofs.YtojfdekiponccaaDoorW.PrintWords Go.Proofs.YtojfdekiponccaaDoorW.PrintLast Go.Proofs.YtojfdekiponccaaDoorW.PrintMore
set_option linter.unusedVariables false
set_option linter.unusedSimpArgs false
theorem strOf_one (x : Int) : strOfNums [x] = ⟨#[UInt8.ofNat x.toNat]⟩ := rfl
theorem refDigits : ∀ (f u k : Nat), u < 10 ^ f → u < 18446744073709551616 → f ≤ 20 → f ≤ k → 0 < f → remontoirref02_Digits.f k (u : Int) = some ⟨(digS f u).toArray⟩ ∧ (digS f u).length ≤ f
  | 0, _, _, _, _, _, _, h => absurd h (by omega)
  | f + 1, u, k, hu, hu2, hf, hk, _ => by
    obtain ⟨k, rfl⟩ : ∃ m, k = m + 1 := ⟨k - 1, by omega⟩
    unfold digS
    simp only [remontoirref02_Digits.f]
    by_cases h : u < 10
    · rw [if_pos (by omega), if_pos h]
      refine ⟨?_, by simp⟩
      have e : (IntKind.u64.wrap (48 + (u : Int))) % 256 = ((48 + u : Nat) : Int) := by rw [IntKind.wrap_u64]; omega
      rw [e, strOf_one, Int.toNat_natCast]
    · rw [if_neg (by omega), if_neg h]
      have e1 : IntKind.u64.wrap (Int.tdiv (u : Int) 10) = ((u / 10 : Nat) : Int) := by
        rw [IntKind.wrap_u64]
        have : Int.tdiv (u : Int) 10 = ((u / 10 : Nat) : Int) := rfl
        rw [this]; omega
      have e2 : (IntKind.u64.wrap (48 + (Int.tmod (u : Int) 10))) % 256 = ((48 + u % 10 : Nat) : Int) := by
        rw [IntKind.wrap_u64]
        have : Int.tmod (u : Int) 10 = ((u % 10 : Nat) : Int) := rfl
        rw [this]; omega
      have hf0 : 0 < f := by
        rcases Nat.eq_zero_or_pos f with rfl | h1
        · simp at hu; omega
        · exact h1
      have hu' : u / 10 < 10 ^ f := by rw [Nat.pow_succ] at hu; omega
      obtain ⟨h1, h2⟩ := refDigits f (u / 10) k hu' (by omega) (by omega) (by omega) hf0
      rw [e1, h1, e2]
      simp only [Option.bind_some]
      have hsz : (⟨(digS f (u / 10)).toArray⟩ : ByteArray).size = (digS f (u / 10)).length := by rw [← data_len]
      have h1s : (⟨#[UInt8.ofNat (48 + u % 10)]⟩ : ByteArray).size = 1 := rfl
      refine ⟨?_, by rw [List.length_append]; simp; omega⟩
      rw [strOf_one, Int.toNat_natCast, if_pos (by rw [hsz, h1s]; omega)]
      congr 1
theorem u8_of (n : Nat) (h : n < 256) : (UInt8.ofNat n).toNat = n := by
  rw [UInt8.toNat_ofNat']; omega
theorem vf_snoc : ∀ (l : List UInt8) (a : Nat) (b : UInt8), vf a (l ++ [b]) = vf a l * 10 + dv b
  | [], a, b => by rw [List.nil_append, vf_cons, vf_nil, vf_nil]
  | c :: l, a, b => by rw [List.cons_append, vf_cons, vf_cons, vf_snoc l]
theorem digS_dg : ∀ (f u : Nat), ∀ b ∈ digS f u, dg b = true
  | 0, u, b, h => by simp [digS] at h
  | f + 1, u, b, h => by
    unfold digS at h
    split at h
    · obtain rfl := List.mem_singleton.1 h
      unfold dg
      rw [u8_of _ (by omega)]
      exact decide_eq_true (by omega)
    · rcases List.mem_append.1 h with h | h
      · exact digS_dg f _ b h
      · obtain rfl := List.mem_singleton.1 h
        unfold dg
        rw [u8_of _ (by omega)]
        exact decide_eq_true (by omega)
theorem digS_vf : ∀ (f u : Nat), u < 10 ^ f → 0 < f → vf 0 (digS f u) = u
  | 0, u, _, h => by omega
  | f + 1, u, hu, _ => by
    unfold digS
    split
    · rw [vf_cons, vf_nil, dv_eq, u8_of _ (by omega)]; omega
    · have hf : 0 < f := by
        rcases Nat.eq_zero_or_pos f with rfl | h1
        · simp at hu; omega
        · exact h1
      rw [vf_snoc, digS_vf f (u / 10) (by rw [Nat.pow_succ] at hu; omega) hf, dv_eq, u8_of _ (by omega)]
      omega
theorem digS_head : ∀ (f u : Nat), u < 10 ^ f → 0 < f → ∃ c t, digS f u = c :: t ∧ (u ≠ 0 → c ≠ 48)
  | 0, u, _, h => by omega
  | f + 1, u, hu, _ => by
    unfold digS
    split
    · refine ⟨_, [], rfl, fun h0 h => ?_⟩
      have := congrArg UInt8.toNat h
      rw [u8_of _ (by omega)] at this
      have h48 : (48 : UInt8).toNat = 48 := rfl
      omega
    · have hf : 0 < f := by
        rcases Nat.eq_zero_or_pos f with rfl | h1
        · simp at hu; omega
        · exact h1
      obtain ⟨c, t, e, hc⟩ := digS_head f (u / 10) (by rw [Nat.pow_succ] at hu; omega) hf
      rw [e]
      exact ⟨c, _, rfl, fun _ => hc (by omega)⟩
theorem tw_full : ∀ (l : List UInt8), (∀ b ∈ l, dg b = true) → l.takeWhile dg = l
  | [], _ => rfl
  | a :: l, h => by rw [List.takeWhile_cons, if_pos (h a (by simp)), tw_full l (fun b hb => h b (by simp [hb]))]
/-- The digits of a number: it, or too great. -/
theorem lexF_digs (u : Nat) (f : Nat) (hf : 0 < f) (hu : u < 10 ^ f) (x : List S35) : lexF (digS f u) x = if 2147483647 < u then some ([], 3) else some (x ++ [(⟨1, (u : Int)⟩ : S35)], 0) := by
  obtain ⟨c, t, e, hc⟩ := digS_head f u hu hf
  have hall := digS_dg f u
  have hv := digS_vf f u hu hf
  rw [e] at hall hv ⊢
  rw [lexF_num c t x (hall c (by simp)), tw_full _ hall, hv]
  rw [if_neg]
  · rw [List.drop_length]
    rfl
  · rintro ⟨rfl, hl⟩
    by_cases h0 : u = 0
    · subst h0
      have : digS f 0 = [48] := by
        obtain ⟨f, rfl⟩ : ∃ m, f = m + 1 := ⟨f - 1, by omega⟩
        unfold digS
        rfl
      rw [this] at e
      have := (List.cons.inj e).2
      rw [← this] at hl
      simp at hl
    · exact hc h0 rfl
end Go.Proofs.YtojfdekiponccaaDoor.Pure
/- What the nine texts of EvalSums say of their variables. -/
namespace Go.Proofs.YtojfdekiponccaaDoor.H
open Go.RowKit Go.HK Go.Proofs.YtojfdekiponccaaDoorW.PrintWords Go.Proofs.YtojfdekiponccaaDoorW.PrintLast Go.Proofs.YtojfdekiponccaaDoorW.PrintMore
set_option linter.unusedVariables false
set_option linter.unusedSimpArgs false
theorem says_of {x : Nat → Int} {l : List UInt8} {sx o : List S35} {r : List Int} (h1 : Pure.Lx l sx) (h2 : PF 60 0 (sx, []) = some (some ([], o))) (h3 : evL x o [] = some (1 :: r)) : Pure.Says x l true := by
  have hg : Pure.Gx l o := ⟨sx, h1, 60, h2⟩
  obtain ⟨z, hz, hv⟩ := Pure.ev_post x hg.post
  have e := hv [] []
  rw [List.append_nil, h3] at e
  obtain ⟨rfl, -⟩ := List.cons.inj (Option.some.inj (show some (1 :: r) = some [z] from e))
  exact ⟨o, 1, hg, hv, Or.inr rfl, rfl⟩
theorem law15_of {x : Nat → Int} {s : ByteArray} (hs : s.size ≤ 60) (h : Pure.Says x s.data.toList true) : ∃ k, law15_test.f k s x = some true := by
  obtain ⟨K, hK⟩ := Pure.says_test hs h
  refine ⟨K, ?_⟩
  unfold law15_test.f
  rw [hK K (Nat.le_refl _)]
  rfl
def xq (a b N : Int) : Nat → Int := upd (upd (upd (upd (upd (upd (upd (upd (fun _ => 0) 0 a) 1 b) 2 (wrap64 (a + b))) 3 (wrap64 (a - b))) 4 (wrap64 (a * b))) 5 (wrap64 (-a))) 6 N) 7 (wrap64 (wrap64 (a * N) - b))
theorem xq_at (a b N : Int) : xq a b N 0 = a ∧ xq a b N 1 = b ∧ xq a b N 2 = wrap64 (a + b) ∧ xq a b N 3 = wrap64 (a - b) ∧ xq a b N 4 = wrap64 (a * b) ∧ xq a b N 5 = wrap64 (-a) ∧ xq a b N 6 = N ∧ xq a b N 7 = wrap64 (wrap64 (a * N) - b) := ⟨rfl, rfl, rfl, rfl, rfl, rfl, rfl, rfl⟩
theorem built8 (v0 v1 v2 v3 v4 v5 v6 v7 : Int) : Tryd.prog.built 48 [(0, .int .i64 v0), (1, .int .i64 v1), (2, .int .i64 v2), (3, .int .i64 v3), (4, .int .i64 v4), (5, .int .i64 v5), (6, .int .i64 v6), (7, .int .i64 v7)] = some (lit (upd (upd (upd (upd (upd (upd (upd (upd (fun _ => 0) 0 v0) 1 v1) 2 v2) 3 v3) 4 v4) 5 v5) 6 v6) 7 v7)) := by kernel_rfl
theorem mn11 : mn 1 1 = 1 := rfl
theorem eqs (a b : Int) (ha : -9223372036854775808 ≤ a ∧ a ≤ 9223372036854775807) : wrap64 (wrap64 (a + b) - b) = a ∧ wrap64 (b - a) = wrap64 (-(wrap64 (a - b))) ∧ wrap64 (-(wrap64 (-a))) = a ∧ wrap64 (a - a) = 0 := by
  refine ⟨?_, ?_, ?_, ?_⟩ <;> (unfold wrap64; omega)
theorem ev_add (a b N : Int) (ha : -9223372036854775808 ≤ a ∧ a ≤ 9223372036854775807) : evL (xq a b N) [⟨2, 0⟩, ⟨2, 1⟩, ⟨3, 0⟩, ⟨2, 2⟩, ⟨10, 0⟩] [] = some [1] := by
  obtain ⟨e0, e1, e2, e3, e4, e5, e6, e7⟩ := xq_at a b N
  obtain ⟨q1, q2, q3, q4⟩ := eqs a b ha
  have q5 : wrap64 0 = 0 := by unfold wrap64; omega
  simp [evL, evStep, eval_two.f, eval_truth.f, e0, e1, e2, e3, e4, e5, e6, e7, q1, q2, q3, q4, q5, mn11]
theorem says_add (a b N : Int) (ha : -9223372036854775808 ≤ a ∧ a ≤ 9223372036854775807) : Pure.Says (xq a b N) (⟨#[97, 32, 43, 32, 98, 32, 61, 61, 32, 99]⟩ : ByteArray).data.toList true :=
  says_of (sx := [⟨2, 0⟩, ⟨3, 0⟩, ⟨2, 1⟩, ⟨10, 0⟩, ⟨2, 2⟩]) (by unfold Pure.Lx; kernel_rfl) (by kernel_rfl) (ev_add a b N ha)
theorem ev_sub (a b N : Int) (ha : -9223372036854775808 ≤ a ∧ a ≤ 9223372036854775807) : evL (xq a b N) [⟨2, 0⟩, ⟨2, 1⟩, ⟨4, 0⟩, ⟨2, 3⟩, ⟨10, 0⟩] [] = some [1] := by
  obtain ⟨e0, e1, e2, e3, e4, e5, e6, e7⟩ := xq_at a b N
  obtain ⟨q1, q2, q3, q4⟩ := eqs a b ha
  have q5 : wrap64 0 = 0 := by unfold wrap64; omega
  simp [evL, evStep, eval_two.f, eval_truth.f, e0, e1, e2, e3, e4, e5, e6, e7, q1, q2, q3, q4, q5, mn11]
theorem says_sub (a b N : Int) (ha : -9223372036854775808 ≤ a ∧ a ≤ 9223372036854775807) : Pure.Says (xq a b N) (⟨#[97, 32, 45, 32, 98, 32, 61, 61, 32, 100]⟩ : ByteArray).data.toList true :=
  says_of (sx := [⟨2, 0⟩, ⟨4, 0⟩, ⟨2, 1⟩, ⟨10, 0⟩, ⟨2, 3⟩]) (by unfold Pure.Lx; kernel_rfl) (by kernel_rfl) (ev_sub a b N ha)
theorem ev_mul (a b N : Int) (ha : -9223372036854775808 ≤ a ∧ a ≤ 9223372036854775807) : evL (xq a b N) [⟨2, 0⟩, ⟨2, 1⟩, ⟨5, 0⟩, ⟨2, 4⟩, ⟨10, 0⟩] [] = some [1] := by
  obtain ⟨e0, e1, e2, e3, e4, e5, e6, e7⟩ := xq_at a b N
  obtain ⟨q1, q2, q3, q4⟩ := eqs a b ha
  have q5 : wrap64 0 = 0 := by unfold wrap64; omega
  simp [evL, evStep, eval_two.f, eval_truth.f, e0, e1, e2, e3, e4, e5, e6, e7, q1, q2, q3, q4, q5, mn11]
theorem says_mul (a b N : Int) (ha : -9223372036854775808 ≤ a ∧ a ≤ 9223372036854775807) : Pure.Says (xq a b N) (⟨#[97, 32, 42, 32, 98, 32, 61, 61, 32, 101]⟩ : ByteArray).data.toList true :=
  says_of (sx := [⟨2, 0⟩, ⟨5, 0⟩, ⟨2, 1⟩, ⟨10, 0⟩, ⟨2, 4⟩]) (by unfold Pure.Lx; kernel_rfl) (by kernel_rfl) (ev_mul a b N ha)
theorem ev_neg (a b N : Int) (ha : -9223372036854775808 ≤ a ∧ a ≤ 9223372036854775807) : evL (xq a b N) [⟨2, 0⟩, ⟨19, 0⟩, ⟨2, 5⟩, ⟨10, 0⟩] [] = some [1] := by
  obtain ⟨e0, e1, e2, e3, e4, e5, e6, e7⟩ := xq_at a b N
  obtain ⟨q1, q2, q3, q4⟩ := eqs a b ha
  have q5 : wrap64 0 = 0 := by unfold wrap64; omega
  simp [evL, evStep, eval_two.f, eval_truth.f, e0, e1, e2, e3, e4, e5, e6, e7, q1, q2, q3, q4, q5, mn11]
theorem says_neg (a b N : Int) (ha : -9223372036854775808 ≤ a ∧ a ≤ 9223372036854775807) : Pure.Says (xq a b N) (⟨#[45, 32, 97, 32, 61, 61, 32, 102]⟩ : ByteArray).data.toList true :=
  says_of (sx := [⟨4, 0⟩, ⟨2, 0⟩, ⟨10, 0⟩, ⟨2, 5⟩]) (by unfold Pure.Lx; kernel_rfl) (by kernel_rfl) (ev_neg a b N ha)
theorem ev_num (a b N : Int) (ha : -9223372036854775808 ≤ a ∧ a ≤ 9223372036854775807) : evL (xq a b N) [⟨2, 6⟩, ⟨1, N⟩, ⟨10, 0⟩] [] = some [1] := by
  obtain ⟨e0, e1, e2, e3, e4, e5, e6, e7⟩ := xq_at a b N
  obtain ⟨q1, q2, q3, q4⟩ := eqs a b ha
  have q5 : wrap64 0 = 0 := by unfold wrap64; omega
  simp [evL, evStep, eval_two.f, eval_truth.f, e0, e1, e2, e3, e4, e5, e6, e7, q1, q2, q3, q4, q5, mn11]
theorem ev_mix (a b N : Int) (ha : -9223372036854775808 ≤ a ∧ a ≤ 9223372036854775807) : evL (xq a b N) [⟨2, 0⟩, ⟨1, N⟩, ⟨5, 0⟩, ⟨2, 1⟩, ⟨4, 0⟩, ⟨2, 7⟩, ⟨10, 0⟩] [] = some [1] := by
  obtain ⟨e0, e1, e2, e3, e4, e5, e6, e7⟩ := xq_at a b N
  obtain ⟨q1, q2, q3, q4⟩ := eqs a b ha
  have q5 : wrap64 0 = 0 := by unfold wrap64; omega
  simp [evL, evStep, eval_two.f, eval_truth.f, e0, e1, e2, e3, e4, e5, e6, e7, q1, q2, q3, q4, q5, mn11]
theorem ev_two (a b N : Int) (ha : -9223372036854775808 ≤ a ∧ a ≤ 9223372036854775807) : evL (xq a b N) [⟨2, 0⟩, ⟨19, 0⟩, ⟨19, 0⟩, ⟨2, 0⟩, ⟨10, 0⟩] [] = some [1] := by
  obtain ⟨e0, e1, e2, e3, e4, e5, e6, e7⟩ := xq_at a b N
  obtain ⟨q1, q2, q3, q4⟩ := eqs a b ha
  have q5 : wrap64 0 = 0 := by unfold wrap64; omega
  simp [evL, evStep, eval_two.f, eval_truth.f, e0, e1, e2, e3, e4, e5, e6, e7, q1, q2, q3, q4, q5, mn11]
theorem says_two (a b N : Int) (ha : -9223372036854775808 ≤ a ∧ a ≤ 9223372036854775807) : Pure.Says (xq a b N) (⟨#[45, 32, 45, 32, 97, 32, 61, 61, 32, 97]⟩ : ByteArray).data.toList true :=
  says_of (sx := [⟨4, 0⟩, ⟨4, 0⟩, ⟨2, 0⟩, ⟨10, 0⟩, ⟨2, 0⟩]) (by unfold Pure.Lx; kernel_rfl) (by kernel_rfl) (ev_two a b N ha)
theorem ev_nil (a b N : Int) (ha : -9223372036854775808 ≤ a ∧ a ≤ 9223372036854775807) : evL (xq a b N) [⟨2, 0⟩, ⟨2, 0⟩, ⟨4, 0⟩, ⟨1, 0⟩, ⟨10, 0⟩] [] = some [1] := by
  obtain ⟨e0, e1, e2, e3, e4, e5, e6, e7⟩ := xq_at a b N
  obtain ⟨q1, q2, q3, q4⟩ := eqs a b ha
  have q5 : wrap64 0 = 0 := by unfold wrap64; omega
  simp [evL, evStep, eval_two.f, eval_truth.f, e0, e1, e2, e3, e4, e5, e6, e7, q1, q2, q3, q4, q5, mn11]
theorem says_nil (a b N : Int) (ha : -9223372036854775808 ≤ a ∧ a ≤ 9223372036854775807) : Pure.Says (xq a b N) (⟨#[97, 32, 45, 32, 97, 32, 61, 61, 32, 48]⟩ : ByteArray).data.toList true :=
  says_of (sx := [⟨2, 0⟩, ⟨4, 0⟩, ⟨2, 0⟩, ⟨10, 0⟩, ⟨1, 0⟩]) (by unfold Pure.Lx; kernel_rfl) (by kernel_rfl) (ev_nil a b N ha)
theorem ev_all (a b N : Int) (ha : -9223372036854775808 ≤ a ∧ a ≤ 9223372036854775807) : evL (xq a b N) [⟨2, 2⟩, ⟨2, 1⟩, ⟨4, 0⟩, ⟨2, 0⟩, ⟨10, 0⟩, ⟨2, 1⟩, ⟨2, 0⟩, ⟨4, 0⟩, ⟨2, 3⟩, ⟨19, 0⟩, ⟨10, 0⟩, ⟨12, 0⟩] [] = some [1] := by
  obtain ⟨e0, e1, e2, e3, e4, e5, e6, e7⟩ := xq_at a b N
  obtain ⟨q1, q2, q3, q4⟩ := eqs a b ha
  have q5 : wrap64 0 = 0 := by unfold wrap64; omega
  simp [evL, evStep, eval_two.f, eval_truth.f, e0, e1, e2, e3, e4, e5, e6, e7, q1, q2, q3, q4, q5, mn11]
theorem says_all (a b N : Int) (ha : -9223372036854775808 ≤ a ∧ a ≤ 9223372036854775807) : Pure.Says (xq a b N) (⟨#[99, 32, 45, 32, 98, 32, 61, 61, 32, 97, 32, 38, 32, 98, 32, 45, 32, 97, 32, 61, 61, 32, 45, 32, 100]⟩ : ByteArray).data.toList true :=
  says_of (sx := [⟨2, 2⟩, ⟨4, 0⟩, ⟨2, 1⟩, ⟨10, 0⟩, ⟨2, 0⟩, ⟨12, 0⟩, ⟨2, 1⟩, ⟨4, 0⟩, ⟨2, 0⟩, ⟨10, 0⟩, ⟨4, 0⟩, ⟨2, 3⟩]) (by unfold Pure.Lx; kernel_rfl) (by kernel_rfl) (ev_all a b N ha)
theorem lx_digs (u : Nat) (hu : u ≤ 2147483647) : Pure.Lx (digS 20 u) [⟨1, (u : Int)⟩] := by
  unfold Pure.Lx
  rw [Pure.lexF_digs u 20 (by omega) (by omega), if_neg (by omega)]
  rfl
theorem says_num (a b : Int) (u : Nat) (hu : u ≤ 2147483647) (ha : -9223372036854775808 ≤ a ∧ a ≤ 9223372036854775807) : Pure.Says (xq a b u) ([103, 32, 61, 61] ++ 32 :: digS 20 u) true :=
  says_of (sx := [⟨2, 6⟩, ⟨10, 0⟩, ⟨1, (u : Int)⟩]) (Pure.Lx.app (y := [⟨2, 6⟩, ⟨10, 0⟩]) (by unfold Pure.Lx; kernel_rfl) (lx_digs u hu)) (by generalize (u : Int) = N; kernel_rfl) (ev_num a b u ha)
theorem says_mix (a b : Int) (u : Nat) (hu : u ≤ 2147483647) (ha : -9223372036854775808 ≤ a ∧ a ≤ 9223372036854775807) : Pure.Says (xq a b u) (([97, 32, 42] ++ 32 :: digS 20 u) ++ 32 :: [45, 32, 98, 32, 61, 61, 32, 104]) true :=
  says_of (sx := [⟨2, 0⟩, ⟨5, 0⟩, ⟨1, (u : Int)⟩, ⟨4, 0⟩, ⟨2, 1⟩, ⟨10, 0⟩, ⟨2, 7⟩]) (Pure.Lx.app (y := [⟨2, 0⟩, ⟨5, 0⟩, ⟨1, (u : Int)⟩]) (Pure.Lx.app (y := [⟨2, 0⟩, ⟨5, 0⟩]) (by unfold Pure.Lx; kernel_rfl) (lx_digs u hu)) (by unfold Pure.Lx; kernel_rfl)) (by generalize (u : Int) = N; kernel_rfl) (ev_mix a b u ha)
theorem sums_all (a b : Int) (u : Nat) (hu : u ≤ 2147483647) (ha : -9223372036854775808 ≤ a ∧ a ≤ 9223372036854775807) :
    (∃ k, law15_test.f k (⟨#[97, 32, 43, 32, 98, 32, 61, 61, 32, 99]⟩) (xq a b u) = some true) ∧
    (∃ k, law15_test.f k (⟨#[97, 32, 45, 32, 98, 32, 61, 61, 32, 100]⟩) (xq a b u) = some true) ∧
    (∃ k, law15_test.f k (⟨#[97, 32, 42, 32, 98, 32, 61, 61, 32, 101]⟩) (xq a b u) = some true) ∧
    (∃ k, law15_test.f k (⟨#[45, 32, 97, 32, 61, 61, 32, 102]⟩) (xq a b u) = some true) ∧
    (∃ k, law15_test.f k ((⟨#[103, 32, 61, 61, 32]⟩ : ByteArray) ++ ⟨(digS 20 u).toArray⟩) (xq a b u) = some true) ∧
    (∃ k, law15_test.f k (((⟨#[97, 32, 42, 32]⟩ : ByteArray) ++ ⟨(digS 20 u).toArray⟩) ++ (⟨#[32, 45, 32, 98, 32, 61, 61, 32, 104]⟩ : ByteArray)) (xq a b u) = some true) ∧
    (∃ k, law15_test.f k (⟨#[45, 32, 45, 32, 97, 32, 61, 61, 32, 97]⟩) (xq a b u) = some true) ∧
    (∃ k, law15_test.f k (⟨#[97, 32, 45, 32, 97, 32, 61, 61, 32, 48]⟩) (xq a b u) = some true) ∧
    (∃ k, law15_test.f k (⟨#[99, 32, 45, 32, 98, 32, 61, 61, 32, 97, 32, 38, 32, 98, 32, 45, 32, 97, 32, 61, 61, 32, 45, 32, 100]⟩) (xq a b u) = some true) := by
  have hd : (⟨(digS 20 u).toArray⟩ : ByteArray).size ≤ 20 := by
    have := (Pure.refDigits 20 u 50 (by omega) (by omega) (by omega) (by omega) (by omega)).2
    rw [← data_len]
    simpa using this
  refine ⟨?_, ?_, ?_, ?_, ?_, ?_, ?_, ?_, ?_⟩
  · exact law15_of (by decide) (says_add a b u ha)
  · exact law15_of (by decide) (says_sub a b u ha)
  · exact law15_of (by decide) (says_mul a b u ha)
  · exact law15_of (by decide) (says_neg a b u ha)
  · exact law15_of (by simp only [ByteArray.size_append]; show 5 + _ ≤ 60; omega) (by simpa using says_num a b u hu ha)
  · exact law15_of (by simp only [ByteArray.size_append]; show 4 + _ + 9 ≤ 60; omega) (by simpa using says_mix a b u hu ha)
  · exact law15_of (by decide) (says_two a b u ha)
  · exact law15_of (by decide) (says_nil a b u ha)
  · exact law15_of (by decide) (says_all a b u ha)
end Go.Proofs.YtojfdekiponccaaDoor.H
/- EvalSums' walk: sums, differences, products, negations, and a number that is written. -/
namespace Go.Proofs.YtojfdekiponccaaDoor.H
open Go.RowKit Go.HK Go.Proofs.YtojfdekiponccaaDoorW.PrintWords Go.Proofs.YtojfdekiponccaaDoorW.PrintLast Go.Proofs.YtojfdekiponccaaDoorW.PrintMore
set_option linter.unusedVariables false
set_option linter.unusedSimpArgs false
theorem exec_build {P : Program} {ρ : Operand → Value} {o : Oper} {t : TypeId} {parts : Array (Nat × Operand)} {cells : Array Value} (ho : o.op = .build t parts) {w : World} (h : P.built t ((parts.map fun (i, x) => (i, ρ x)).toList) = some cells) : (execOp ρ o).run P w = .ok (.value (.agg cells)) w := by
  unfold execOp
  rw [ho]
  simp only [Sem.run_bind, run_build w t _ cells h, Result.andThen]
  rfl
theorem wpList_readGuard {P : Program} {ops : Array Oper} {rest : List Oper} {o : Oper} {a : Act} {w : World} {Q : Exit → Act → World → Prop} (dst : Option Tmp) (hdst : o.dst = dst)
    (v : Value) (hrun : (execOp a.eval o).run P w = .ok (.value v) w) (hw : Region.wanted o (yielded ops a.tmps) = true) (h : wpList P ops Q rest (a.put dst v) w) : wpList P ops Q (o :: rest) a w := by
  subst hdst
  refine wpList_step fun K hK => ?_
  rw [if_pos hw]
  unfold Oper.wp
  rw [hrun, Oper.upon_value]
  exact hK _ _ h
set_option maxRecDepth 100000 in
set_option maxHeartbeats 1600000 in
theorem remontoirlaw15_EvalSums.calls (a b n : Int) (r : Bool) (w : World) (hT : Tabs2 w) (h : r = true ∧ (-9223372036854775808 ≤ a ∧ a ≤ 9223372036854775807) ∧ (0 ≤ n ∧ n ≤ 4294967295)) :
    Calls Tryd.prog 12 #[.int .i64 a, .int .i64 b, .int .u32 n] w fun e w' => e = .returned (.bool r) ∧ Below w.heap.size w w' := by
  obtain ⟨rfl, ha, hn0, hn1⟩ := h
  obtain ⟨u, hu⟩ : ∃ u : Nat, (u : Int) = n % 2147483648 := ⟨(n % 2147483648).toNat, by omega⟩
  have hu1 : u ≤ 2147483647 := by omega
  obtain ⟨⟨k1, t1⟩, ⟨k2, t2⟩, ⟨k3, t3⟩, ⟨k4, t4⟩, ⟨k5, t5⟩, ⟨k6, t6⟩, ⟨k7, t7⟩, ⟨k8, t8⟩, ⟨k9, t9⟩⟩ := sums_all a b u hu1 ha
  have hd := Pure.refDigits 20 u 50 (by omega) (by omega) (by omega) (by omega) (by omega)
  have C0 := Aside0.mk (fun (W : World) => remontoirref02_Digits.calls 50 (u : Int) _ W hd.1)
  have C1 := Aside0.mk (fun (W : World) (hT : Tabs2 W) => law15_test.calls k1 _ (xq a b u) _ W hT t1)
  have C2 := Aside0.mk (fun (W : World) (hT : Tabs2 W) => law15_test.calls k2 _ (xq a b u) _ W hT t2)
  have C3 := Aside0.mk (fun (W : World) (hT : Tabs2 W) => law15_test.calls k3 _ (xq a b u) _ W hT t3)
  have C4 := Aside0.mk (fun (W : World) (hT : Tabs2 W) => law15_test.calls k4 _ (xq a b u) _ W hT t4)
  have C5 := Aside0.mk (fun (W : World) (hT : Tabs2 W) => law15_test.calls k5 _ (xq a b u) _ W hT t5)
  have C6 := Aside0.mk (fun (W : World) (hT : Tabs2 W) => law15_test.calls k6 _ (xq a b u) _ W hT t6)
  have C7 := Aside0.mk (fun (W : World) (hT : Tabs2 W) => law15_test.calls k7 _ (xq a b u) _ W hT t7)
  have C8 := Aside0.mk (fun (W : World) (hT : Tabs2 W) => law15_test.calls k8 _ (xq a b u) _ W hT t8)
  have C9 := Aside0.mk (fun (W : World) (hT : Tabs2 W) => law15_test.calls k9 _ (xq a b u) _ W hT t9)
  have hsz : (⟨(digS 20 u).toArray⟩ : ByteArray).size ≤ 20 := by
    have := hd.2
    rw [← data_len]
    simpa using this
  clear t1 t2 t3 t4 t5 t6 t7 t8 t9 hd
  have LD := Aside0.mk (fun (W : World) (g : Nat) (hg : W.heap[g]? = some (.cells (lit (xq a b u)) 48 (0, 0))) => load_lit hg)
  have BX := Aside0.mk (built8 a b (wrap64 (a + b)) (wrap64 (a - b)) (wrap64 (a * b)) (wrap64 (-a)) u (wrap64 (wrap64 (a * u) - b)))
  have SN := Aside0.mk (fun (W : World) => store_new W (xq a b u))
  unfold zeros at SN
  rw [hu] at C0 C1 C2 C3 C4 C5 C6 C7 C8 C9 LD BX SN
  unfold xq at LD SN C1 C2 C3 C4 C5 C6 C7 C8 C9
  generalize lit _ = X at *
  generalize (⟨(digS 20 u).toArray⟩ : ByteArray) = dg at *
  have HT0 := Aside0.mk hT
  clear hT
  go_enter Tryd.func12, Tryd.ntmps12
  go_wp2_with (first
    | (go_at_call 23; (with_reducible refine (C0.out _).mono ?_); rintro e1 w1 ⟨rfl, hb⟩; have HB1 := Aside0.mk hb; have HT1 := Aside0.mk (HT0.out.below hb); clear hb)
    | ((refine Great.wpList_readTo rfl (some 35) rfl (.agg X) (exec_build (t := 48) (parts := #[(0, .tmp 16), (1, .tmp 17), (2, .tmp 20), (3, .tmp 23), (4, .tmp 26), (5, .tmp 28), (6, .tmp 29), (7, .tmp 34)]) rfl ?hb) ?hh); (case hb => (simp only [List.map_toArray, List.map_cons, List.map_nil]; exact BX.out)))
    | ((with_reducible refine wpList_doTo rfl _ (exec_store rfl (SN.out w1)) ?_); have hba := (Below.refl w1.heap.size w1).alloc (Nat.le_refl _) (.cells X 48); have HB2 := Aside0.mk (HB1.out.trans (hba.mono HB1.out.size)); have HT2 := Aside0.mk (HT1.out.below hba); have HX2 := Aside0.mk (heap_alloc_last w1 (.cells X 48)); clear hba)
    | (with_reducible refine Great.wpList_readTo rfl (some 36) rfl (.agg X) (exec_load rfl (LD.out _ _ HX2.out)) ?_)
    | (go_at_call 31; (with_reducible refine (C1.out _ HT2.out).mono ?_); rintro e1 w3 ⟨rfl, hb⟩; have HB3 := Aside0.mk (HB2.out.trans (hb.mono HB2.out.size)); have HT3 := Aside0.mk (HT2.out.below hb); have HX3 := Aside0.mk ((hb.block _ (blk_lt HX2.out)).trans HX2.out); clear hb)
    | (refine wpList_readGuard (some 39) rfl (.agg X) (exec_load rfl (LD.out _ _ HX3.out)) (by rfl) ?_)
    | (go_at_call 31; (with_reducible refine (C2.out _ HT3.out).mono ?_); rintro e1 w4 ⟨rfl, hb⟩; have HB4 := Aside0.mk (HB3.out.trans (hb.mono HB3.out.size)); have HT4 := Aside0.mk (HT3.out.below hb); have HX4 := Aside0.mk ((hb.block _ (blk_lt HX3.out)).trans HX3.out); clear hb)
    | (refine wpList_readGuard (some 43) rfl (.agg X) (exec_load rfl (LD.out _ _ HX4.out)) (by rfl) ?_)
    | (go_at_call 31; (with_reducible refine (C3.out _ HT4.out).mono ?_); rintro e1 w5 ⟨rfl, hb⟩; have HB5 := Aside0.mk (HB4.out.trans (hb.mono HB4.out.size)); have HT5 := Aside0.mk (HT4.out.below hb); have HX5 := Aside0.mk ((hb.block _ (blk_lt HX4.out)).trans HX4.out); clear hb)
    | (refine wpList_readGuard (some 47) rfl (.agg X) (exec_load rfl (LD.out _ _ HX5.out)) (by rfl) ?_)
    | (go_at_call 31; (with_reducible refine (C4.out _ HT5.out).mono ?_); rintro e1 w6 ⟨rfl, hb⟩; have HB6 := Aside0.mk (HB5.out.trans (hb.mono HB5.out.size)); have HT6 := Aside0.mk (HT5.out.below hb); have HX6 := Aside0.mk ((hb.block _ (blk_lt HX5.out)).trans HX5.out); clear hb)
    | (refine wpList_readGuard (some 53) rfl (.agg X) (exec_load rfl (LD.out _ _ HX6.out)) (by rfl) ?_)
    | (go_at_call 31; (with_reducible refine (C5.out _ HT6.out).mono ?_); rintro e1 w7 ⟨rfl, hb⟩; have HB7 := Aside0.mk (HB6.out.trans (hb.mono HB6.out.size)); have HT7 := Aside0.mk (HT6.out.below hb); have HX7 := Aside0.mk ((hb.block _ (blk_lt HX6.out)).trans HX6.out); clear hb)
    | (refine wpList_readGuard (some 60) rfl (.agg X) (exec_load rfl (LD.out _ _ HX7.out)) (by rfl) ?_)
    | (go_at_call 31; (with_reducible refine (C6.out _ HT7.out).mono ?_); rintro e1 w8 ⟨rfl, hb⟩; have HB8 := Aside0.mk (HB7.out.trans (hb.mono HB7.out.size)); have HT8 := Aside0.mk (HT7.out.below hb); have HX8 := Aside0.mk ((hb.block _ (blk_lt HX7.out)).trans HX7.out); clear hb)
    | (refine wpList_readGuard (some 64) rfl (.agg X) (exec_load rfl (LD.out _ _ HX8.out)) (by rfl) ?_)
    | (go_at_call 31; (with_reducible refine (C7.out _ HT8.out).mono ?_); rintro e1 w9 ⟨rfl, hb⟩; have HB9 := Aside0.mk (HB8.out.trans (hb.mono HB8.out.size)); have HT9 := Aside0.mk (HT8.out.below hb); have HX9 := Aside0.mk ((hb.block _ (blk_lt HX8.out)).trans HX8.out); clear hb)
    | (refine wpList_readGuard (some 68) rfl (.agg X) (exec_load rfl (LD.out _ _ HX9.out)) (by rfl) ?_)
    | (go_at_call 31; (with_reducible refine (C8.out _ HT9.out).mono ?_); rintro e1 w10 ⟨rfl, hb⟩; have HB10 := Aside0.mk (HB9.out.trans (hb.mono HB9.out.size)); have HT10 := Aside0.mk (HT9.out.below hb); have HX10 := Aside0.mk ((hb.block _ (blk_lt HX9.out)).trans HX9.out); clear hb)
    | (refine wpList_readGuard (some 72) rfl (.agg X) (exec_load rfl (LD.out _ _ HX10.out)) (by rfl) ?_)
    | (go_at_call 31; (with_reducible refine (C9.out _ HT10.out).mono ?_); rintro e1 w11 ⟨rfl, hb⟩; have HB11 := Aside0.mk (HB10.out.trans (hb.mono HB10.out.size)); have HT11 := Aside0.mk (HT10.out.below hb); have HX11 := Aside0.mk ((hb.block _ (blk_lt HX10.out)).trans HX10.out); clear hb)
    | (go_at_call 24; refine (wakes15_calls _ HT11.out).mono ?_; rintro e1 w19 ⟨rfl, hb⟩; have HB19 := Aside0.mk (HB11.out.trans (hb.mono HB11.out.size)); clear hb))
  all_goals go_ret
  all_goals exact ⟨rfl, HB19.out⟩
end Go.Proofs.YtojfdekiponccaaDoor.H
/- EvalSums: the plain statement is part of the walk (HSumsW); only the numbers' bounds are handed on. -/
namespace Go.Proofs.YtojfdekiponccaaDoor.Pure
set_option linter.unusedVariables false
theorem bnd64 {n : Int} (h : (Go.Lit.int .i64 n).wf = true) : -9223372036854775808 ≤ n ∧ n ≤ 9223372036854775807 := by
  simp [Go.Lit.wf, Go.IntKind.min, Go.IntKind.max, Go.IntKind.signed, Go.IntKind.bits] at h
  omega
theorem bndu32 {n : Int} (h : (Go.Lit.int .u32 n).wf = true) : 0 ≤ n ∧ n ≤ 4294967295 := by
  simp [Go.Lit.wf, Go.IntKind.min, Go.IntKind.max, Go.IntKind.signed, Go.IntKind.bits] at h
  omega
theorem EvalSums (a b n : Int) (ha : (Go.Lit.int .i64 a).wf = true) (hb : (Go.Lit.int .i64 b).wf = true) (hn : (Go.Lit.int .u32 n).wf = true) : true = true ∧ (-9223372036854775808 ≤ a ∧ a ≤ 9223372036854775807) ∧ (0 ≤ n ∧ n ≤ 4294967295) := ⟨rfl, bnd64 ha, bndu32 hn⟩
end Go.Proofs.YtojfdekiponccaaDoor.Pure
