import Derived.Test.YtojfdekiponccaaGreatDoorHEv
import Derived.Test.YtojfdekiponccaaGreatDoorPGC
import Derived.Test.YtojfdekiponccaaGreatDoorPGC
/- What a guard's text says of 26 variables: turned, joined; or that it says nothing. -/
namespace Go.Proofs.YtojfdekiponccaaGreatDoor.Pure
open Go.RowKit Go.Proofs.YtojfdekiponccaaGreatDoor.H Go.Proofs.YtojfdekiponccaaGreatDoorW.PrintWords Go.Proofs.YtojfdekiponccaaGreatDoorW.PrintLast Go.Proofs.YtojfdekiponccaaGreatDoorW.PrintMore
set_option linter.unusedVariables false
set_option linter.unusedSimpArgs false
theorem w10 : wrap64 (1 - 0) = 1 := by unfold wrap64; omega
theorem w11 : wrap64 (1 - 1) = 0 := by unfold wrap64; omega
def tv (q : Bool) : Int := if q = true then 1 else 0
theorem truth_tv (q : Bool) : eval_truth.f q = some (tv q) := by cases q <;> rfl
theorem tv_or (q : Bool) : tv q = 0 ∨ tv q = 1 := by cases q <;> simp [tv]
theorem two_ok (k a b : Int) (h3 : 3 ≤ k) (h13 : k ≤ 13) : ∃ z, eval_two.f k a b = some z ∧ (6 ≤ k → k ≤ 11 → z = 0 ∨ z = 1) := by
  have hk : k = 3 ∨ k = 4 ∨ k = 5 ∨ k = 6 ∨ k = 7 ∨ k = 8 ∨ k = 9 ∨ k = 10 ∨ k = 11 ∨ k = 12 ∨ k = 13 := by omega
  unfold eval_two.f
  simp only [truth_tv, Option.bind_some]
  rcases hk with rfl | rfl | rfl | rfl | rfl | rfl | rfl | rfl | rfl | rfl | rfl
  all_goals first
    | exact ⟨_, rfl, fun _ _ => tv_or _⟩
    | exact ⟨_, rfl, fun h _ => by omega⟩
    | exact ⟨_, rfl, fun _ h => by omega⟩
theorem two_con (k a b : Int) (hk : k = 12 ∨ k = 13) (ha : a = 0 ∨ a = 1) (hb : b = 0 ∨ b = 1) : ∃ z, eval_two.f k a b = some z ∧ (z = 0 ∨ z = 1) ∧ (z == 1) = (if k = 12 then ((a == 1) && (b == 1)) else ((a == 1) || (b == 1))) := by
  rcases hk with rfl | rfl <;> rcases ha with rfl | rfl <;> rcases hb with rfl | rfl
  all_goals first
    | exact ⟨0, rfl, Or.inl rfl, rfl⟩
    | exact ⟨1, rfl, Or.inr rfl, rfl⟩
theorem step_two (x : Nat → Int) (k : Int) (h3 : 3 ≤ k) (h13 : k ≤ 13) (a b : Int) (rs : List Int) : evStep x ⟨k, 0⟩ (a :: b :: rs) = (eval_two.f k b a).bind fun z => some (z :: rs) := by
  unfold evStep
  dsimp only
  rw [if_neg (by omega), if_neg (by omega), if_neg (by omega), if_neg (by omega)]
theorem ev_cons (x : Nat → Int) (s : S46) (t : List S46) (rs : List Int) : evL x (s :: t) rs = (evStep x s rs).bind (evL x t) := rfl
/-- A part of a guard, evaluated. -/
def Val (x : Nat → Int) (p : List S46) (z : Int) : Prop := ∀ t rs, evL x (p ++ t) rs = evL x t (z :: rs)
theorem Val.two {x : Nat → Int} {p q : List S46} {a b z : Int} (hp : Val x p a) (hq : Val x q b) (k : Int) (h3 : 3 ≤ k) (h13 : k ≤ 13) (hz : eval_two.f k a b = some z) : Val x (p ++ q ++ [⟨k, 0⟩]) z := by
  intro t rs
  rw [List.append_assoc, List.append_assoc, hp, hq]
  show evL x ((⟨k, 0⟩ : S46) :: t) _ = _
  rw [ev_cons, step_two x k h3 h13, hz]
  rfl
theorem Val.neg {x : Nat → Int} {p : List S46} {a : Int} (hp : Val x p a) : Val x (p ++ [⟨19, 0⟩]) (wrap64 (-a)) := by
  intro t rs
  rw [List.append_assoc, hp]
  rfl
theorem Val.nt {x : Nat → Int} {p : List S46} {a : Int} (hp : Val x p a) : Val x (p ++ [⟨14, 0⟩]) (wrap64 (1 - a)) := by
  intro t rs
  rw [List.append_assoc, hp]
  rfl
theorem Val.num (x : Nat → Int) (n : Int) : Val x [⟨1, n⟩] n := fun t rs => rfl
theorem Val.name (x : Nat → Int) (n : Int) (h0 : 0 ≤ n) (h1 : n < 26) : Val x [⟨2, n⟩] (x n.toNat) := by
  intro t rs
  show evL x ((⟨2, n⟩ : S46) :: t) rs = _
  rw [ev_cons]
  have e : evStep x ⟨2, n⟩ rs = some (x n.toNat :: rs) := by
    unfold evStep
    dsimp only
    rw [if_neg (by decide), if_pos rfl, if_pos ⟨h0, h1⟩]
  rw [e]
  rfl
theorem ev_post (x : Nat → Int) {b : Bool} {p : List S46} (h : Post b p) : ∃ z, (b = true → z = 0 ∨ z = 1) ∧ Val x p z := by
  induction h with
  | num n h0 h1 => exact ⟨n, fun e => (by cases e), Val.num x n⟩
  | name n h0 h1 => exact ⟨x n.toNat, fun e => (by cases e), Val.name x n h0 h1⟩
  | neg hp ih =>
    obtain ⟨z, _, hz⟩ := ih
    exact ⟨_, fun e => (by cases e), hz.neg⟩
  | op k h3 h5 hp hq ihp ihq =>
    obtain ⟨z, _, hz⟩ := ihp
    obtain ⟨u, _, hu⟩ := ihq
    obtain ⟨v, hv, _⟩ := two_ok k z u h3 (by omega)
    exact ⟨v, fun e => (by cases e), hz.two hu k h3 (by omega) hv⟩
  | cmp k h6 h11 hp hq ihp ihq =>
    obtain ⟨z, _, hz⟩ := ihp
    obtain ⟨u, _, hu⟩ := ihq
    obtain ⟨v, hv, hv2⟩ := two_ok k z u (by omega) (by omega)
    exact ⟨v, fun _ => hv2 h6 h11, hz.two hu k (by omega) (by omega) hv⟩
  | con k hk hp hq ihp ihq =>
    obtain ⟨z, h1, hz⟩ := ihp
    obtain ⟨u, h2, hu⟩ := ihq
    obtain ⟨v, hv, hv2, _⟩ := two_con k z u hk (h1 rfl) (h2 rfl)
    exact ⟨v, fun _ => hv2, hz.two hu k (by omega) (by omega) hv⟩
  | nt hp ih =>
    obtain ⟨z, h1, hz⟩ := ih
    refine ⟨_, fun _ => ?_, hz.nt⟩
    rcases h1 rfl with rfl | rfl
    · exact Or.inr w10
    · exact Or.inl w11
/-- What a text says. -/
def Says (x : Nat → Int) (l : List UInt8) (q : Bool) : Prop := ∃ o z, Gx l o ∧ Val x o z ∧ (z = 0 ∨ z = 1) ∧ (z == 1) = q
theorem says_not {x : Nat → Int} {l : List UInt8} {q : Bool} (h : Says x l q) : Says x ([33, 32, 40, 32] ++ l ++ [32, 41]) (!q) := by
  obtain ⟨o, z, hg, hv, hz, rfl⟩ := h
  refine ⟨_, _, gx_not hg, hv.nt, ?_⟩
  rcases hz with rfl | rfl
  · rw [w10]
    exact ⟨Or.inr rfl, rfl⟩
  · rw [w11]
    exact ⟨Or.inl rfl, rfl⟩
theorem says_both {x : Nat → Int} {l m : List UInt8} {q r : Bool} (h : Says x l q) (h2 : Says x m r) : Says x ([40, 32] ++ l ++ [32, 41, 32, 38, 32, 40, 32] ++ m ++ [32, 41]) (q && r) := by
  obtain ⟨o, z, hg, hv, hz, rfl⟩ := h
  obtain ⟨u, y, hg2, hv2, hz2, rfl⟩ := h2
  obtain ⟨v, h3, h4, h5⟩ := two_con 12 z y (Or.inl rfl) hz hz2
  exact ⟨_, v, gx_both hg hg2, hv.two hv2 12 (by omega) (by omega) h3, h4, by rw [h5]; rfl⟩
theorem says_any {x : Nat → Int} {l m : List UInt8} {q r : Bool} (h : Says x l q) (h2 : Says x m r) : Says x ([40, 32] ++ l ++ [32, 41, 32, 124, 32, 40, 32] ++ m ++ [32, 41]) (q || r) := by
  obtain ⟨o, z, hg, hv, hz, rfl⟩ := h
  obtain ⟨u, y, hg2, hv2, hz2, rfl⟩ := h2
  obtain ⟨v, h3, h4, h5⟩ := two_con 13 z y (Or.inr rfl) hz hz2
  exact ⟨_, v, gx_any hg hg2, hv.two hv2 13 (by omega) (by omega) h3, h4, by rw [h5]; rfl⟩
theorem gx_len {l : List UInt8} {x o : List S46} (hx : Lx l x) {k : Nat} (hk : PF k 0 (x, []) = some (some ([], o))) : o.length ≤ l.length := by
  obtain ⟨k2, r, h1, h2⟩ := PF_total _ x.length 0 (x, []) rfl (by omega) rfl trivial
  have e1 := PF_mono (Nat.le_max_left k k2) hk
  have e2 := PF_mono (Nat.le_max_right k k2) h1
  rw [e1] at e2
  obtain rfl := Option.some.inj e2
  have := (h2 _ rfl).2
  have hl := hx.len
  simp only [List.length_nil] at this
  omega
theorem parse_of {s : ByteArray} {x o : List S46} (hs : s.size ≤ 60) (hx : Lx s.data.toList x) {k : Nat} (hk : PF k 0 (x, []) = some (some ([], o))) (k' : Nat) (h : k ≤ k') : guard_Parse.f k' s = some (o, 0) := by
  unfold guard_Parse.f
  rw [lex_list, if_neg (by omega)]
  have e : lexF s.data.toList [] = some (x, 0) := hx
  rw [e]
  simp only [Option.bind_some, if_true]
  rw [PF_mono h hk]
  rfl
theorem of_post {x : Nat → Int} {o : List S46} {z : Int} (hp : Post true o) (hl : o.length ≤ 100000) (hv : Val x o z) (k : Nat) (hk : 2 * o.length + 10 ≤ k) : eval_Of.f k x o = some (z == 1, true) := by
  unfold eval_Of.f
  rw [good_post hp hl k hk]
  have e : evL x o [] = some [z] := by
    have := hv [] []
    rw [List.append_nil] at this
    exact this
  simp only [Option.bind_some, if_true, e]
theorem says_test {x : Nat → Int} {s : ByteArray} {q : Bool} (hs : s.size ≤ 60) (h : Says x s.data.toList q) : ∃ K, ∀ k, K ≤ k → eval_Test.f k s x = some (q, 0) := by
  obtain ⟨o, z, ⟨y, hy, k0, hk0⟩, hv, hz, rfl⟩ := h
  have hlo := gx_len hy hk0
  rw [data_len] at hlo
  have hp : Post true o := Gx.post ⟨y, hy, k0, hk0⟩
  refine ⟨k0 + 200, fun k hk => ?_⟩
  unfold eval_Test.f
  rw [parse_of hs hy hk0 k (by omega)]
  simp only [Option.bind_some, if_true]
  rw [if_pos (by omega), of_post hp (by omega) hv k (by omega)]
  rfl
theorem test_or (x : Nat → Int) (s : ByteArray) (hs : s.size ≤ 60) : (∃ q, Says x s.data.toList q) ∨ ∃ e, e ≠ 0 ∧ ∃ K, ∀ k, K ≤ k → eval_Test.f k s x = some (false, e) := by
  obtain ⟨y, e, hl⟩ := lexF_some _ s.data.toList [] (Nat.le_refl _)
  have wrong : ∀ e : Int, e ≠ 0 → (∃ K, ∀ k, K ≤ k → guard_Parse.f k s = some ([], e)) → ∃ e, e ≠ 0 ∧ ∃ K, ∀ k, K ≤ k → eval_Test.f k s x = some (false, e) := by
    rintro e he ⟨K, hK⟩
    refine ⟨e, he, K, fun k hk => ?_⟩
    unfold eval_Test.f
    rw [hK k hk]
    simp only [Option.bind_some]
    rw [if_neg he]
  by_cases he : e = 0
  · subst he
    obtain ⟨k, r, h1, h2⟩ := PF_total _ y.length 0 (y, []) rfl (by omega) rfl trivial
    have hpf : ∀ k', k ≤ k' → guard_Parse.f k' s = guard_Parse.fin (some r) := by
      intro k' hk'
      unfold guard_Parse.f
      rw [lex_list, if_neg (by omega), hl]
      simp only [Option.bind_some, if_true]
      rw [PF_mono hk' h1]
    cases r with
    | none => exact Or.inr (wrong 2 (by decide) ⟨k, fun k' hk' => hpf k' hk'⟩)
    | some st =>
      obtain ⟨l, o⟩ := st
      cases l with
      | cons a l => exact Or.inr (wrong 2 (by decide) ⟨k, fun k' hk' => hpf k' hk'⟩)
      | nil =>
        have hg : Gx s.data.toList o := ⟨y, hl, k, h1⟩
        obtain ⟨z, hz, hv⟩ := ev_post x hg.post
        exact Or.inl ⟨_, o, z, hg, hv, hz rfl, rfl⟩
  · refine Or.inr (wrong e he ⟨0, fun k _ => ?_⟩)
    unfold guard_Parse.f
    rw [lex_list, if_neg (by omega), hl]
    simp only [Option.bind_some]
    rw [if_neg he]
end Go.Proofs.YtojfdekiponccaaGreatDoor.Pure
