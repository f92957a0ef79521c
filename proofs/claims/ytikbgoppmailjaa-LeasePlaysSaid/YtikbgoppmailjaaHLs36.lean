import Derived.Test.YtikbgoppmailjaaHLs18
import Derived.Test.YtikbgoppmailjaaLsE
/- A table of leases, told by the list of its leases, ascending by number; what each of its functions does to that list. -/
namespace Go.Proofs.Ytikbgoppmailjaa.H
open Go.RowKit Go.HK Go.Maps Go.Lib Go.WideShapes Go.ChangeShapes Go.Proofs.YtikbgoppmailjaaW.PrintWords Go.Proofs.YtikbgoppmailjaaW.PrintLast Go.Proofs.YtikbgoppmailjaaW.PrintMore
set_option linter.unusedVariables false
set_option linter.unusedSimpArgs false
theorem kk_ne' {a b : Int} (h : a ≠ b) : kk a ≠ kk b := fun e => by injection e with _ e; exact h e
theorem lit_int_inj {c c' : Int} (h : (DataW.lit (.int .i64 c) : DataW Unit) = .lit (.int .i64 c')) : c = c' := by
  injection h with h
  injection h
theorem keyLit {j : Int} (h : (Lit.int .i64 j).wf = true) : WideAt.IsKeyLit (kk j) := keyI.1 (keyOf_i h)
/-- The two maps hold the leases of l: by number, by job. -/
structure Holds3 (l : List G3) (D1 D2 : DataW Unit) : Prop where
  has1 : ∀ x : Int, has D1 (kk x) = true ↔ ∃ g ∈ l, g.1 = x
  at1 : ∀ g ∈ l, D1.atKey (kk g.1) (gd 0 0 0) = gd g.1 g.2.1 g.2.2
  has2 : ∀ x : Int, has D2 (kk x) = true ↔ ∃ g ∈ l, g.2.1 = x
  at2 : ∀ g ∈ l, D2.atKey (kk g.2.1) (.lit (.int .i64 0)) = .lit (.int .i64 g.1)
  wf : ∀ g ∈ l, (Lit.int .i64 g.1).wf = true ∧ (Lit.int .i64 g.2.1).wf = true
  up : l.Pairwise (fun x y => x.1 < y.1)
  jobs : l.Pairwise (fun x y => x.2.1 ≠ y.2.1)
theorem pair_mem {α : Type} {R : α → α → Prop} : ∀ {l : List α}, l.Pairwise R → ∀ {x y : α}, x ∈ l → y ∈ l → x = y ∨ R x y ∨ R y x
  | [], _, _, _, h, _ => by cases h
  | z :: l, h, x, y, hx, hy => by
    obtain ⟨h1, h2⟩ := List.pairwise_cons.1 h
    rcases List.mem_cons.1 hx with ex | hx' <;> rcases List.mem_cons.1 hy with ey | hy'
    · exact Or.inl (ex.trans ey.symm)
    · subst ex; exact Or.inr (Or.inl (h1 y hy'))
    · subst ey; exact Or.inr (Or.inr (h1 x hx'))
    · exact pair_mem h2 hx' hy'
section
variable {l : List G3} {D1 D2 : DataW Unit}
theorem Holds3.same (h : Holds3 l D1 D2) {x y : G3} (hx : x ∈ l) (hy : y ∈ l) (e : x.1 = y.1) : x = y := by
  rcases pair_mem h.up hx hy with r | r | r
  · exact r
  · omega
  · omega
theorem Holds3.sameJob (h : Holds3 l D1 D2) {x y : G3} (hx : x ∈ l) (hy : y ∈ l) (e : x.2.1 = y.2.1) : x = y := by
  rcases pair_mem h.jobs hx hy with r | r | r
  · exact r
  · exact absurd e r
  · exact absurd e.symm r
theorem Holds3.none : Holds3 [] (.map []) (.map []) :=
  ⟨fun x => by simp [has], fun g h => (List.not_mem_nil h).elim, fun x => by simp [has], fun g h => (List.not_mem_nil h).elim, fun g h => (List.not_mem_nil h).elim, List.Pairwise.nil, List.Pairwise.nil⟩
theorem Holds3.put (h : Holds3 l D1 D2) (m1 : IsMap D1) (m2 : IsMap D2) {c j u : Int} (hc : ∀ g ∈ l, g.1 < c) (hj : ∀ g ∈ l, g.2.1 ≠ j) (wc : (Lit.int .i64 c).wf = true) (wj : (Lit.int .i64 j).wf = true) :
    Holds3 (l ++ [(c, j, u)]) (D1.put (kk c) (gd c j u)) (D2.put (kk j) (.lit (.int .i64 c))) := by
  refine ⟨fun x => ?_, fun g hg => ?_, fun x => ?_, fun g hg => ?_, fun g hg => ?_, ?_, ?_⟩
  · by_cases e : x = c
    · subst e
      rw [has_put_same m1 (keyLit wc)]
      exact ⟨fun _ => ⟨_, List.mem_append_right l (List.mem_singleton.2 rfl), rfl⟩, fun _ => rfl⟩
    · rw [has_put_other (kk_ne' e), h.has1]
      constructor
      · rintro ⟨g, hg, rfl⟩
        exact ⟨g, by simp [hg], rfl⟩
      · rintro ⟨g, hg, rfl⟩
        rcases List.mem_append.1 hg with hg | hg
        · exact ⟨g, hg, rfl⟩
        · obtain rfl := List.mem_singleton.1 hg
          exact absurd rfl e
  · rcases List.mem_append.1 hg with hg | hg
    · have := hc g hg
      rw [atKey_put_other (kk_ne' (by omega))]
      exact h.at1 g hg
    · obtain rfl := List.mem_singleton.1 hg
      exact atKey_put_same m1 (keyLit wc) _ _
  · by_cases e : x = j
    · subst e
      rw [has_put_same m2 (keyLit wj)]
      exact ⟨fun _ => ⟨_, List.mem_append_right l (List.mem_singleton.2 rfl), rfl⟩, fun _ => rfl⟩
    · rw [has_put_other (kk_ne' e), h.has2]
      constructor
      · rintro ⟨g, hg, rfl⟩
        exact ⟨g, by simp [hg], rfl⟩
      · rintro ⟨g, hg, rfl⟩
        rcases List.mem_append.1 hg with hg | hg
        · exact ⟨g, hg, rfl⟩
        · obtain rfl := List.mem_singleton.1 hg
          exact absurd rfl e
  · rcases List.mem_append.1 hg with hg | hg
    · rw [atKey_put_other (kk_ne' (hj g hg))]
      exact h.at2 g hg
    · obtain rfl := List.mem_singleton.1 hg
      exact atKey_put_same m2 (keyLit wj) _ _
  · rcases List.mem_append.1 hg with hg | hg
    · exact h.wf g hg
    · obtain rfl := List.mem_singleton.1 hg
      exact ⟨wc, wj⟩
  · exact List.pairwise_append.2 ⟨h.up, List.pairwise_singleton _ _, fun x hx y hy => by obtain rfl := List.mem_singleton.1 hy; exact hc x hx⟩
  · exact List.pairwise_append.2 ⟨h.jobs, List.pairwise_singleton _ _, fun x hx y hy => by obtain rfl := List.mem_singleton.1 hy; exact hj x hx⟩
theorem Holds3.del (h : Holds3 l D1 D2) {g : G3} (hg : g ∈ l) : Holds3 (l.filter (fun (x : G3) => decide (x.1 ≠ g.1))) (D1.del (kk g.1)) (D2.del (kk g.2.1)) := by
  have hm : ∀ x, x ∈ l.filter (fun (x : G3) => decide (x.1 ≠ g.1)) ↔ x ∈ l ∧ x.1 ≠ g.1 := fun x => by rw [List.mem_filter, decide_eq_true_iff]
  have hne : ∀ x ∈ l, x.1 ≠ g.1 → x.2.1 ≠ g.2.1 := fun x hx e e2 => e (by rw [h.sameJob hx hg e2])
  refine ⟨fun x => ?_, fun y hy => ?_, fun x => ?_, fun y hy => ?_, fun y hy => h.wf y ((hm y).1 hy).1, h.up.sublist List.filter_sublist, h.jobs.sublist List.filter_sublist⟩
  · by_cases e : x = g.1
    · subst e
      rw [has_del_same]
      exact ⟨fun q => (by cases q), fun ⟨y, hy, e⟩ => absurd e ((hm y).1 hy).2⟩
    · rw [has_del_other (kk_ne' e), h.has1]
      exact ⟨fun ⟨y, hy, e2⟩ => ⟨y, (hm y).2 ⟨hy, by rw [e2]; exact e⟩, e2⟩, fun ⟨y, hy, e2⟩ => ⟨y, ((hm y).1 hy).1, e2⟩⟩
  · obtain ⟨h1, h2⟩ := (hm y).1 hy
    rw [atKey_del_other (kk_ne' h2)]
    exact h.at1 y h1
  · by_cases e : x = g.2.1
    · subst e
      rw [has_del_same]
      exact ⟨fun q => (by cases q), fun ⟨y, hy, e⟩ => absurd e (hne y ((hm y).1 hy).1 ((hm y).1 hy).2)⟩
    · rw [has_del_other (kk_ne' e), h.has2]
      exact ⟨fun ⟨y, hy, e2⟩ => ⟨y, (hm y).2 ⟨hy, fun e3 => e (by rw [← e2, h.same hy hg e3])⟩, e2⟩, fun ⟨y, hy, e2⟩ => ⟨y, ((hm y).1 hy).1, e2⟩⟩
  · obtain ⟨h1, h2⟩ := (hm y).1 hy
    rw [atKey_del_other (kk_ne' (hne y h1 h2))]
    exact h.at2 y h1
theorem Holds3.dels (h : Holds3 l D1 D2) {f : Nat → G3} : ∀ k, (∀ i, i < k → f i ∈ l) → (∀ i j, i < j → j < k → (f i).1 ≠ (f j).1) → Holds3 (l.filter (fun (x : G3) => decide (∀ i, i < k → x.1 ≠ (f i).1))) (del1 f D1 k) (del2 f D2 k)
  | 0, _, _ => by
    have e : ∀ k, k = 0 → l.filter (fun (x : G3) => decide (∀ i, i < k → x.1 ≠ (f i).1)) = l := by
      intro k hk
      rw [List.filter_eq_self]
      intro a _
      rw [decide_eq_true_iff]
      intro i hi
      omega
    rw [e 0 rfl]
    exact h
  | k + 1, hf, hd => by
    have ih := Holds3.dels h k (fun i hi => hf i (by omega)) (fun i j h1 h2 => hd i j h1 (by omega))
    have hk : f k ∈ l.filter (fun (x : G3) => decide (∀ i, i < k → x.1 ≠ (f i).1)) := by
      rw [List.mem_filter, decide_eq_true_iff]
      exact ⟨hf k (by omega), fun i hi e => hd i k hi (by omega) e.symm⟩
    have := ih.del hk
    rw [List.filter_filter] at this
    have e : l.filter (fun (x : G3) => decide (∀ i, i < k + 1 → x.1 ≠ (f i).1)) = l.filter (fun (x : G3) => decide (x.1 ≠ (f k).1) && decide (∀ i, i < k → x.1 ≠ (f i).1)) := by
      refine List.filter_congr fun x _ => ?_
      rw [← Bool.decide_and, decide_eq_decide]
      exact ⟨fun q => ⟨q k (by omega), fun i hi => q i (by omega)⟩, fun ⟨q1, q2⟩ i hi => by
        by_cases c : i = k
        · subst c; exact q1
        · exact q2 i (by omega)⟩
    rw [e]
    exact this
theorem has3s_unique (h : Holds3 l D1 D2) : ∀ {l1 l0 : List G3}, (∀ x ∈ l1, x ∈ l) → Has3s D1 (l1.map (·.1)) l0 → l0 = l1
  | [], [], _, _ => rfl
  | x :: l1, y :: l0, hm, hh => by
    obtain ⟨h1, h2⟩ := hh
    have e := gd_inj (h1.symm.trans (h.at1 x (hm x (by simp))))
    have e2 : y = x := by
      obtain ⟨y1, y2, y3⟩ := y
      obtain ⟨x1, x2, x3⟩ := x
      simp only at e
      rw [e.1, e.2.1, e.2.2]
    rw [e2, has3s_unique h (fun z hz => hm z (by simp [hz])) h2]
  | [], _ :: _, _, hh => hh.elim
  | _ :: _, [], _, hh => hh.elim
end
/-- At p lies a table whose leases are l. -/
def TabL (w : World) (p : Nat) (n : Int) (b1 b2 m : Nat) (l : List G3) : Prop := ∃ D1 D2, TabAt w p n b1 b2 m D1 D2 ∧ Holds3 l D1 D2
section
variable {w w' : World} {p b1 b2 m B : Nat} {n : Int} {l : List G3}
theorem TabAt.keys {D1 D2 : DataW Unit} (T : TabAt w p n b1 b2 m D1 D2) (h : Holds3 l D1 D2) : (l.map (·.1)).Perm (intKeys D1) := by
  obtain ⟨es, hD, hpw, _⟩ := T.all.entries keyI
  obtain ⟨es', hD', hko⟩ := T.all.keysOf
  obtain rfl : es = es' := by rw [hD] at hD'; simpa using hD'
  subst hD
  refine perm_intKeys hpw (fun p hp => by obtain ⟨v, hv⟩ := hko p hp; obtain ⟨x, _, hx, _⟩ := keyOf_i64 Try.underlying3 hv; exact ⟨x, hx⟩) ?_ (fun x => ?_)
  · exact List.pairwise_map.2 (h.up.imp (fun {a b} q => by omega))
  · rw [show (Lit.int .i64 x) = kk x from rfl, h.has1, List.mem_map]
theorem TabAt.size {D1 D2 : DataW Unit} (T : TabAt w p n b1 b2 m D1 D2) (h : Holds3 l D1 D2) : size D1 = l.length := by
  rw [← len_keys T.all.isMap, ← (T.keys h).length_eq, List.length_map]
theorem TabL.below (T : TabL w p n b1 b2 m l) (hb : Below B w w') (hp : p < B) (h1 : b1 < B) (h2 : b2 < B) : TabL w' p n b1 b2 m l := by
  obtain ⟨D1, D2, T, h⟩ := T
  exact ⟨D1, D2, T.below hb hp h1 h2, h⟩
theorem TabL.keep (T : TabL w p n b1 b2 m l) (hb : Below w.heap.size w w') : TabL w' p n b1 b2 m l := by
  obtain ⟨D1, D2, T, h⟩ := T
  exact ⟨D1, D2, T.keep hb, h⟩
theorem TabL.ok {D1 D2 : DataW Unit} (T : TabAt w p n b1 b2 m D1 D2) (h : Holds3 l D1 D2) : TabOk D1 := by
  have hk := T.keys h
  refine ⟨hk.nodup_iff.1 (List.pairwise_map.2 (h.up.imp (fun {a b} q => by omega))), fun k hk' => ?_⟩
  obtain ⟨g, hg, rfl⟩ := List.mem_map.1 (hk.mem_iff.2 hk')
  exact ⟨(h.wf g hg).1, (h.has1 _).2 ⟨g, hg, rfl⟩, _, _, h.at1 g hg, (h.wf g hg).2⟩
theorem sorted_keys {D1 D2 : DataW Unit} (T : TabAt w p n b1 b2 m D1 D2) (h : Holds3 l D1 D2) {ss : List Int} (hs : ss.Perm (intKeys D1)) : ss.mergeSort (fun x y => decide (x ≤ y)) = l.map (·.1) := by
  have e := mergeSort_of_perm_i (hs.trans (T.keys h).symm)
  refine e.trans (List.mergeSort_of_pairwise ?_)
  exact List.pairwise_map.2 (h.up.imp (fun {a b} q => by simp only [decide_eq_true_eq]; omega))
theorem new_l (w : World) : Calls Try.prog 8 #[] w fun e w' => e = .returned (.pointer (some ⟨w.heap.size + 2, 0, none⟩)) ∧ TabL w' (w.heap.size + 2) 0 w.heap.size (w.heap.size + 1) 0 [] ∧ Below w.heap.size w w' ∧ w'.heap.size = w.heap.size + 3 :=
  (new_calls w).mono (by rintro e w' ⟨h1, h2, h3, h4⟩; exact ⟨h1, ⟨_, _, h2, Holds3.none⟩, h3, h4⟩)
theorem list_l (T : TabL w p n b1 b2 m l) (hl : l.length ≤ 100000) : Calls Try.prog 16 #[.pointer (some ⟨p, 0, none⟩)] w fun e w' => ∃ v, e = .returned v ∧ RowG w' w.heap.size v l ∧ Below w.heap.size w w' := by
  obtain ⟨D1, D2, T, h⟩ := T
  refine (list_calls T (by rw [T.size h]; exact hl) (fun k hk => by obtain ⟨g, hg, rfl⟩ := List.mem_map.1 ((T.keys h).mem_iff.2 hk); exact (h.wf g hg).1)).mono ?_
  rintro e w' ⟨v, ss, l0, rfl, hp, hh, hr, hb⟩
  rw [sorted_keys T h hp] at hh
  obtain rfl := has3s_unique h (fun x hx => hx) hh
  exact ⟨v, rfl, hr, hb⟩
theorem len_l (T : TabL w p n b1 b2 m l) : Calls Try.prog 15 #[.pointer (some ⟨p, 0, none⟩)] w fun e w' => w' = w ∧ e = .returned (.int .i64 l.length) := by
  obtain ⟨D1, D2, T, h⟩ := T
  refine (len_calls T).mono ?_
  rintro e w' ⟨h1, h2⟩
  rw [T.size h] at h2
  exact ⟨h1, h2⟩
theorem look_l_some (T : TabL w p n b1 b2 m l) {g : G3} (hg : g ∈ l) : Calls Try.prog 14 #[.pointer (some ⟨p, 0, none⟩), .int .i64 g.1] w fun e w' => Below w.heap.size w w' ∧ e = .returned (.tuple #[gv g.1 g.2.1 g.2.2, .bool true]) := by
  obtain ⟨D1, D2, T, h⟩ := T
  refine (look_calls T (h.wf g hg).1).mono ?_
  rintro e w' ⟨hb, a, b, c, rfl, hat⟩
  obtain ⟨rfl, rfl, rfl⟩ := gd_inj (hat.symm.trans (h.at1 g hg))
  rw [(h.has1 g.1).2 ⟨g, hg, rfl⟩]
  exact ⟨hb, rfl⟩
theorem not_has {D : DataW Unit} {k : Lit} (h : ¬ has D k = true) : has D k = false := by simpa using h
theorem look_l_none (T : TabL w p n b1 b2 m l) {j : Int} (hj : (Lit.int .i64 j).wf = true) (hn : ∀ g ∈ l, g.1 ≠ j) : Calls Try.prog 14 #[.pointer (some ⟨p, 0, none⟩), .int .i64 j] w fun e w' => Below w.heap.size w w' ∧ e = .returned (.tuple #[gv 0 0 0, .bool false]) := by
  obtain ⟨D1, D2, T, h⟩ := T
  have hf : has D1 (kk j) = false := not_has fun q => by obtain ⟨g, hg, e⟩ := (h.has1 j).1 q; exact hn g hg e
  refine (look_calls T hj).mono ?_
  rintro e w' ⟨hb, a, b, c, rfl, hat⟩
  rw [atKey_of_not_has hf] at hat
  obtain ⟨rfl, rfl, rfl⟩ := gd_inj hat
  rw [hf]
  exact ⟨hb, rfl⟩
theorem of_l_some (T : TabL w p n b1 b2 m l) {g : G3} (hg : g ∈ l) : Calls Try.prog 17 #[.pointer (some ⟨p, 0, none⟩), .int .i64 g.2.1] w fun e w' => w' = w ∧ e = .returned (.tuple #[.int .i64 g.1, .bool true]) := by
  obtain ⟨D1, D2, T, h⟩ := T
  refine (of_calls T (h.wf g hg).2).mono ?_
  rintro e w' ⟨hw, c, rfl, hat, _⟩
  obtain rfl := lit_int_inj (hat.symm.trans (h.at2 g hg))
  rw [(h.has2 g.2.1).2 ⟨g, hg, rfl⟩]
  exact ⟨hw, rfl⟩
theorem of_l_none (T : TabL w p n b1 b2 m l) {j : Int} (hj : (Lit.int .i64 j).wf = true) (hn : ∀ g ∈ l, g.2.1 ≠ j) : Calls Try.prog 17 #[.pointer (some ⟨p, 0, none⟩), .int .i64 j] w fun e w' => w' = w ∧ e = .returned (.tuple #[.int .i64 0, .bool false]) := by
  obtain ⟨D1, D2, T, h⟩ := T
  have hf : has D2 (kk j) = false := not_has fun q => by obtain ⟨g, hg, e⟩ := (h.has2 j).1 q; exact hn g hg e
  refine (of_calls T hj).mono ?_
  rintro e w' ⟨hw, c, rfl, hat, _⟩
  rw [atKey_of_not_has hf] at hat
  obtain rfl := lit_int_inj hat
  rw [hf]
  exact ⟨hw, rfl⟩
theorem grant_l_had (T : TabL w p n b1 b2 m l) {g : G3} {u : Int} (hg : g ∈ l) : Calls Try.prog 9 #[.pointer (some ⟨p, 0, none⟩), .int .i64 g.2.1, .int .u64 u] w fun e w' => w' = w ∧ e = .returned (.tuple #[.int .i64 0, .int .i64 8]) := by
  obtain ⟨D1, D2, T, h⟩ := T
  exact grant_had T (h.wf g hg).2 ((h.has2 _).2 ⟨g, hg, rfl⟩)
theorem grant_l (T : TabL w p n b1 b2 m l) {j u : Int} (hj : (Lit.int .i64 j).wf = true) (h0 : 0 ≤ n) (h1 : n < 4611686018427387904) (hm : m + 2 < maxLen) (hn : ∀ g ∈ l, g.2.1 ≠ j) (hl : ∀ g ∈ l, g.1 ≤ n) :
    Calls Try.prog 9 #[.pointer (some ⟨p, 0, none⟩), .int .i64 j, .int .u64 u] w fun e w' => e = .returned (.tuple #[.int .i64 (n + 1), .int .i64 0]) ∧ TabL w' p (n + 1) b1 b2 (m + 2) (l ++ [(n + 1, j, u)]) ∧ (∀ B, B ≤ p → B ≤ b1 → B ≤ b2 → Below B w w') ∧ w.heap.size ≤ w'.heap.size ∧ ∀ k, k < w.heap.size → k ≠ p → k ≠ b1 → k ≠ b2 → w'.heap[k]? = w.heap[k]? := by
  obtain ⟨D1, D2, T, h⟩ := T
  have hf : has D2 (kk j) = false := not_has fun q => by obtain ⟨g, hg, e⟩ := (h.has2 j).1 q; exact hn g hg e
  refine (grant_new T hj h0 h1 hm hf).mono ?_
  rintro e w' ⟨h1, h2, h3, h4, h5⟩
  exact ⟨h1, ⟨_, _, h2, h.put T.all.isMap T.of.isMap (fun g hg => by have := hl g hg; omega) hn (WalkArith.wf_i64 (by omega)) hj⟩, h3, h4, h5⟩
theorem drop_l_none (T : TabL w p n b1 b2 m l) {j : Int} (hj : (Lit.int .i64 j).wf = true) (hn : ∀ g ∈ l, g.1 ≠ j) : Calls Try.prog 10 #[.pointer (some ⟨p, 0, none⟩), .int .i64 j] w fun e w' => Below w.heap.size w w' ∧ e = .returned (.tuple #[.int .i64 0, .bool false]) := by
  obtain ⟨D1, D2, T, h⟩ := T
  exact drop_none T hj (not_has fun q => by obtain ⟨g, hg, e⟩ := (h.has1 j).1 q; exact hn g hg e)
theorem drop_l (T : TabL w p n b1 b2 m l) {g : G3} (hg : g ∈ l) : Calls Try.prog 10 #[.pointer (some ⟨p, 0, none⟩), .int .i64 g.1] w fun e w' => e = .returned (.tuple #[.int .i64 g.2.1, .bool true]) ∧ TabL w' p n b1 b2 m (l.filter (fun (x : G3) => decide (x.1 ≠ g.1))) ∧ (∀ B, B ≤ p → B ≤ b1 → B ≤ b2 → Below B w w') ∧ w.heap.size ≤ w'.heap.size ∧ ∀ k, k < w.heap.size → k ≠ b1 → k ≠ b2 → w'.heap[k]? = w.heap[k]? := by
  obtain ⟨D1, D2, T, h⟩ := T
  refine (drop_some T (h.wf g hg).1 ((h.has1 _).2 ⟨g, hg, rfl⟩) (h.at1 g hg) (h.wf g hg).2).mono ?_
  rintro e w' ⟨h1, h2, h3⟩
  exact ⟨h1, ⟨_, _, h2, h.del hg⟩, h3⟩
theorem over_l (SO : SortP StableP) (T : TabL w p n b1 b2 m l) (hsz : l.length ≤ 100) {u : Int} :
    Calls Try.prog 12 #[.pointer (some ⟨p, 0, none⟩), .int .u64 u] w fun e w' => ∃ (v : Value) (l' : List G3), e = .returned v ∧ RowG w' w.heap.size v l' ∧ l'.Perm (l.filter (due u)) ∧ l'.Pairwise T3 ∧ TabL w' p n b1 b2 m (l.filter (fun x => !due u x)) ∧ (∀ B, B ≤ p → B ≤ b1 → B ≤ b2 → Below B w w') ∧ ∀ k, k < w.heap.size → k ≠ b1 → k ≠ b2 → w'.heap[k]? = w.heap[k]? := by
  obtain ⟨D1, D2, T, h⟩ := T
  refine (over_calls SO (fun _ _ q => q.1) ⟨List.Perm.refl _, fun _ => List.Pairwise.nil⟩ T (by rw [T.size h]; exact hsz) (TabL.ok T h)).mono ?_
  rintro e w' ⟨v, ss, l0, l', f, rfl, hr, hp, hh, hP, hf, hT, hb⟩
  rw [sorted_keys T h hp] at hh
  obtain rfl := has3s_unique h (fun x hx => hx) hh
  have hmem : ∀ i, i < l'.length → f i ∈ l' := fun i hi => by
    rw [← hf]
    exact List.mem_map.2 ⟨i, List.mem_range.2 (by simpa using hi), rfl⟩
  have hin : ∀ x ∈ l', x ∈ l0 ∧ due u x = true := fun x hx => List.mem_filter.1 (hP.1.mem_iff.1 hx)
  have hnd : (l'.map (·.1)).Nodup := by
    refine (hP.1.map (·.1)).nodup_iff.2 ?_
    exact List.pairwise_map.2 ((h.up.sublist List.filter_sublist).imp (fun {a b} q => by omega))
  have hd := h.dels l'.length (fun i hi => (hin _ (hmem i hi)).1) (fun i j hij hj e => by
    rw [← hf] at hnd
    have := List.pairwise_iff_getElem.1 (List.pairwise_map.1 (List.pairwise_map.1 hnd)) i j (by simp; omega) (by simpa using hj) hij
    simp only [List.getElem_range] at this
    exact this e)
  have he : l0.filter (fun (x : G3) => decide (∀ i, i < l'.length → x.1 ≠ (f i).1)) = l0.filter (fun x => !due u x) := by
    refine List.filter_congr fun x hx => ?_
    rw [Bool.eq_iff_iff, decide_eq_true_iff]
    constructor
    · intro q
      cases hd : due u x with
      | false => rfl
      | true =>
        exfalso
        have hx' : x ∈ l' := hP.1.mem_iff.2 (List.mem_filter.2 ⟨hx, hd⟩)
        rw [← hf] at hx'
        obtain ⟨i, hi, e⟩ := List.mem_map.1 hx'
        exact q i (List.mem_range.1 hi) (by rw [e])
    · intro q i hi e
      have h1 := hin _ (hmem i hi)
      rw [h.same hx h1.1 e, h1.2] at q
      cases q
  rw [he] at hd
  exact ⟨v, l', rfl, hr, hP.1, hP.2 (h.up.sublist List.filter_sublist), ⟨_, _, hT, hd⟩, hb⟩
end
end Go.Proofs.Ytikbgoppmailjaa.H
