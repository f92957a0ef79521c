import Derived.Test.YtojfdekiponccaaDoorHEv
/- EvalOrder's walk: of two numbers just one of less, same, more holds. -/
namespace Go.Proofs.YtojfdekiponccaaDoor.H
open Go.RowKit Go.HK Go.Proofs.YtojfdekiponccaaDoorW.PrintWords Go.Proofs.YtojfdekiponccaaDoorW.PrintLast Go.Proofs.YtojfdekiponccaaDoorW.PrintMore
set_option linter.unusedVariables false
set_option linter.unusedSimpArgs false
/-- What a text says, out of its signs. -/
theorem test_of {k : Nat} {a0 : ByteArray} {x : Nat → Int} {l : List S35} {z : Int} {r : List Int} {q : Bool} (hp : guard_Parse.f k a0 = some (l, 0)) (hl : l.length ≤ 100000) (hg : guard_Good.f k l = some true) (he : evL x l [] = some (z :: r)) (hq : (z == 1) = q) : law15_test.f k a0 x = some q := by
  have h1 : eval_Of.f k x l = some (q, true) := by
    unfold eval_Of.f
    rw [hg]
    simp only [Option.bind_some, if_pos, he, hq]
  have h2 : eval_Test.f k a0 x = some (q, 0) := by
    unfold eval_Test.f
    rw [hp]
    simp only [Option.bind_some, if_pos hl, h1, if_true]
  unfold law15_test.f
  rw [h2]
  simp
def xo (a b : Int) : Nat → Int := upd (upd (fun _ => 0) 3 a) 7 b
theorem parse_less : guard_Parse.f 40 ⟨#[100, 32, 60, 32, 104]⟩ = some ([⟨2, 3⟩, ⟨2, 7⟩, ⟨6, 0⟩], 0) := by kernel_rfl
theorem good_less : guard_Good.f 40 [⟨2, 3⟩, ⟨2, 7⟩, ⟨6, 0⟩] = some true := by kernel_rfl
theorem ev_less (a b : Int) : ∃ z r, evL (xo a b) [⟨2, 3⟩, ⟨2, 7⟩, ⟨6, 0⟩] [] = some (z :: r) ∧ (z == 1) = (decide (a < b)) := by
  have e : evL (xo a b) [⟨2, 3⟩, ⟨2, 7⟩, ⟨6, 0⟩] [] = some [if (decide (a < b)) = true then 1 else 0] := by
    have e3 : xo a b 3 = a := rfl
    have e7 : xo a b 7 = b := rfl
    simp [evL, evStep, eval_two.f, eval_truth.f, e3, e7]
    try (split <;> rfl)
  refine ⟨_, _, e, ?_⟩
  cases (decide (a < b)) <;> rfl
theorem test_less (a b : Int) : law15_test.f 40 ⟨#[100, 32, 60, 32, 104]⟩ (xo a b) = some (decide (a < b)) := by
  obtain ⟨z, r, h1, h2⟩ := ev_less a b
  exact test_of parse_less (by decide) good_less h1 h2
theorem parse_same : guard_Parse.f 40 ⟨#[100, 32, 61, 61, 32, 104]⟩ = some ([⟨2, 3⟩, ⟨2, 7⟩, ⟨10, 0⟩], 0) := by kernel_rfl
theorem good_same : guard_Good.f 40 [⟨2, 3⟩, ⟨2, 7⟩, ⟨10, 0⟩] = some true := by kernel_rfl
theorem ev_same (a b : Int) : ∃ z r, evL (xo a b) [⟨2, 3⟩, ⟨2, 7⟩, ⟨10, 0⟩] [] = some (z :: r) ∧ (z == 1) = (a == b) := by
  have e : evL (xo a b) [⟨2, 3⟩, ⟨2, 7⟩, ⟨10, 0⟩] [] = some [if (a == b) = true then 1 else 0] := by
    have e3 : xo a b 3 = a := rfl
    have e7 : xo a b 7 = b := rfl
    simp [evL, evStep, eval_two.f, eval_truth.f, e3, e7]
    try (split <;> rfl)
  refine ⟨_, _, e, ?_⟩
  cases (a == b) <;> rfl
theorem test_same (a b : Int) : law15_test.f 40 ⟨#[100, 32, 61, 61, 32, 104]⟩ (xo a b) = some (a == b) := by
  obtain ⟨z, r, h1, h2⟩ := ev_same a b
  exact test_of parse_same (by decide) good_same h1 h2
theorem parse_more : guard_Parse.f 40 ⟨#[100, 32, 62, 32, 104]⟩ = some ([⟨2, 3⟩, ⟨2, 7⟩, ⟨8, 0⟩], 0) := by kernel_rfl
theorem good_more : guard_Good.f 40 [⟨2, 3⟩, ⟨2, 7⟩, ⟨8, 0⟩] = some true := by kernel_rfl
theorem ev_more (a b : Int) : ∃ z r, evL (xo a b) [⟨2, 3⟩, ⟨2, 7⟩, ⟨8, 0⟩] [] = some (z :: r) ∧ (z == 1) = (decide (a > b)) := by
  have e : evL (xo a b) [⟨2, 3⟩, ⟨2, 7⟩, ⟨8, 0⟩] [] = some [if (decide (a > b)) = true then 1 else 0] := by
    have e3 : xo a b 3 = a := rfl
    have e7 : xo a b 7 = b := rfl
    simp [evL, evStep, eval_two.f, eval_truth.f, e3, e7]
    try (split <;> rfl)
  refine ⟨_, _, e, ?_⟩
  cases (decide (a > b)) <;> rfl
theorem test_more (a b : Int) : law15_test.f 40 ⟨#[100, 32, 62, 32, 104]⟩ (xo a b) = some (decide (a > b)) := by
  obtain ⟨z, r, h1, h2⟩ := ev_more a b
  exact test_of parse_more (by decide) good_more h1 h2
theorem parse_atmost : guard_Parse.f 40 ⟨#[100, 32, 60, 61, 32, 104]⟩ = some ([⟨2, 3⟩, ⟨2, 7⟩, ⟨7, 0⟩], 0) := by kernel_rfl
theorem good_atmost : guard_Good.f 40 [⟨2, 3⟩, ⟨2, 7⟩, ⟨7, 0⟩] = some true := by kernel_rfl
theorem ev_atmost (a b : Int) : ∃ z r, evL (xo a b) [⟨2, 3⟩, ⟨2, 7⟩, ⟨7, 0⟩] [] = some (z :: r) ∧ (z == 1) = (decide (a ≤ b)) := by
  have e : evL (xo a b) [⟨2, 3⟩, ⟨2, 7⟩, ⟨7, 0⟩] [] = some [if (decide (a ≤ b)) = true then 1 else 0] := by
    have e3 : xo a b 3 = a := rfl
    have e7 : xo a b 7 = b := rfl
    simp [evL, evStep, eval_two.f, eval_truth.f, e3, e7]
    try (split <;> rfl)
  refine ⟨_, _, e, ?_⟩
  cases (decide (a ≤ b)) <;> rfl
theorem test_atmost (a b : Int) : law15_test.f 40 ⟨#[100, 32, 60, 61, 32, 104]⟩ (xo a b) = some (decide (a ≤ b)) := by
  obtain ⟨z, r, h1, h2⟩ := ev_atmost a b
  exact test_of parse_atmost (by decide) good_atmost h1 h2
theorem parse_atleast : guard_Parse.f 40 ⟨#[100, 32, 62, 61, 32, 104]⟩ = some ([⟨2, 3⟩, ⟨2, 7⟩, ⟨9, 0⟩], 0) := by kernel_rfl
theorem good_atleast : guard_Good.f 40 [⟨2, 3⟩, ⟨2, 7⟩, ⟨9, 0⟩] = some true := by kernel_rfl
theorem ev_atleast (a b : Int) : ∃ z r, evL (xo a b) [⟨2, 3⟩, ⟨2, 7⟩, ⟨9, 0⟩] [] = some (z :: r) ∧ (z == 1) = (decide (a ≥ b)) := by
  have e : evL (xo a b) [⟨2, 3⟩, ⟨2, 7⟩, ⟨9, 0⟩] [] = some [if (decide (a ≥ b)) = true then 1 else 0] := by
    have e3 : xo a b 3 = a := rfl
    have e7 : xo a b 7 = b := rfl
    simp [evL, evStep, eval_two.f, eval_truth.f, e3, e7]
    try (split <;> rfl)
  refine ⟨_, _, e, ?_⟩
  cases (decide (a ≥ b)) <;> rfl
theorem test_atleast (a b : Int) : law15_test.f 40 ⟨#[100, 32, 62, 61, 32, 104]⟩ (xo a b) = some (decide (a ≥ b)) := by
  obtain ⟨z, r, h1, h2⟩ := ev_atleast a b
  exact test_of parse_atleast (by decide) good_atleast h1 h2
theorem parse_other : guard_Parse.f 40 ⟨#[100, 32, 33, 61, 32, 104]⟩ = some ([⟨2, 3⟩, ⟨2, 7⟩, ⟨11, 0⟩], 0) := by kernel_rfl
theorem good_other : guard_Good.f 40 [⟨2, 3⟩, ⟨2, 7⟩, ⟨11, 0⟩] = some true := by kernel_rfl
theorem ev_other (a b : Int) : ∃ z r, evL (xo a b) [⟨2, 3⟩, ⟨2, 7⟩, ⟨11, 0⟩] [] = some (z :: r) ∧ (z == 1) = (a != b) := by
  have e : evL (xo a b) [⟨2, 3⟩, ⟨2, 7⟩, ⟨11, 0⟩] [] = some [if (a != b) = true then 1 else 0] := by
    have e3 : xo a b 3 = a := rfl
    have e7 : xo a b 7 = b := rfl
    simp [evL, evStep, eval_two.f, eval_truth.f, e3, e7]
    try (split <;> rfl)
  refine ⟨_, _, e, ?_⟩
  cases (a != b) <;> rfl
theorem test_other (a b : Int) : law15_test.f 40 ⟨#[100, 32, 33, 61, 32, 104]⟩ (xo a b) = some (a != b) := by
  obtain ⟨z, r, h1, h2⟩ := ev_other a b
  exact test_of parse_other (by decide) good_other h1 h2
end Go.Proofs.YtojfdekiponccaaDoor.H
/- EvalOrder's walk: of two numbers just one of less, same, more holds. -/
namespace Go.Proofs.YtojfdekiponccaaDoor.H
open Go.RowKit Go.HK Go.Proofs.YtojfdekiponccaaDoorW.PrintWords Go.Proofs.YtojfdekiponccaaDoorW.PrintLast Go.Proofs.YtojfdekiponccaaDoorW.PrintMore
set_option linter.unusedVariables false
set_option linter.unusedSimpArgs false
theorem exec_build {P : Program} {ρ : Operand → Value} {o : Oper} {t : TypeId} {parts : Array (Nat × Operand)} {cells : Array Value} (ho : o.op = .build t parts) {w : World} (h : P.built t ((parts.map fun (i, x) => (i, ρ x)).toList) = some cells) : (execOp ρ o).run P w = .ok (.value (.agg cells)) w := by
  unfold execOp
  rw [ho]
  simp only [Sem.run_bind, run_build w t _ cells h, Result.andThen]
  rfl
theorem wpList_readGuard {P : Program} {ops : Array Oper} {rest : List Oper} {o : Oper} {a : Act} {w : World} {Q : Exit → Act → World → Prop} (dst : Option Tmp) (hdst : o.dst = dst)
    (v : Value) (hrun : (execOp a.eval o).run P w = .ok (.value v) w) (hw : Region.wanted o (yielded ops a.tmps) = true) (h : wpList P ops Q rest (a.put dst v) w) : wpList P ops Q (o :: rest) a w := by
  subst hdst
  refine wpList_step fun K hK => ?_
  rw [if_pos hw]
  unfold Oper.wp
  rw [hrun, Oper.upon_value]
  exact hK _ _ h
theorem built_xo (a b : Int) : Tryd.prog.built 48 [(3, .int .i64 a), (7, .int .i64 b)] = some (lit (xo a b)) := by kernel_rfl
set_option maxRecDepth 100000 in
set_option maxHeartbeats 1600000 in
theorem remontoirlaw15_EvalOrder.calls (a b : Int) (r : Bool) (w : World) (hT : Tabs2 w) (h : r = true) :
    Calls Tryd.prog 11 #[.int .i64 a, .int .i64 b] w fun e w' => e = .returned (.bool r) ∧ Below w.heap.size w w' := by
  subst h
  obtain ⟨p, k1⟩ : ∃ p, decide (a < b) = p := ⟨_, rfl⟩
  obtain ⟨q, k2⟩ : ∃ q, (a == b) = q := ⟨_, rfl⟩
  obtain ⟨s, k3⟩ : ∃ s, decide (b < a) = s := ⟨_, rfl⟩
  have t1 : law15_test.f 40 ⟨#[100, 32, 60, 32, 104]⟩ (xo a b) = some p := by rw [test_less, k1]
  have t2 : law15_test.f 40 ⟨#[100, 32, 61, 61, 32, 104]⟩ (xo a b) = some q := by rw [test_same, k2]
  have t3 : law15_test.f 40 ⟨#[100, 32, 62, 32, 104]⟩ (xo a b) = some s := by rw [test_more, ← k3]
  have t4 : law15_test.f 40 ⟨#[100, 32, 60, 61, 32, 104]⟩ (xo a b) = some (!s) := by
    rw [test_atmost, ← k3]
    by_cases hh : b < a
    · rw [decide_eq_true hh, decide_eq_false (by omega)]; rfl
    · rw [decide_eq_false hh, decide_eq_true (by omega)]; rfl
  have t5 : law15_test.f 40 ⟨#[100, 32, 62, 61, 32, 104]⟩ (xo a b) = some (!p) := by
    rw [test_atleast, ← k1]
    by_cases hh : a < b
    · rw [decide_eq_true hh, decide_eq_false (by omega)]; rfl
    · rw [decide_eq_false hh, decide_eq_true (by omega)]; rfl
  have t6 : law15_test.f 40 ⟨#[100, 32, 33, 61, 32, 104]⟩ (xo a b) = some (!q) := by rw [test_other, ← k2]; rfl
  have C1 := Aside0.mk (fun (W : World) (hT : Tabs2 W) => law15_test.calls 40 _ (xo a b) _ W hT t1)
  have C2 := Aside0.mk (fun (W : World) (hT : Tabs2 W) => law15_test.calls 40 _ (xo a b) _ W hT t2)
  have C3 := Aside0.mk (fun (W : World) (hT : Tabs2 W) => law15_test.calls 40 _ (xo a b) _ W hT t3)
  have C4 := Aside0.mk (fun (W : World) (hT : Tabs2 W) => law15_test.calls 40 _ (xo a b) _ W hT t4)
  have C5 := Aside0.mk (fun (W : World) (hT : Tabs2 W) => law15_test.calls 40 _ (xo a b) _ W hT t5)
  have C6 := Aside0.mk (fun (W : World) (hT : Tabs2 W) => law15_test.calls 40 _ (xo a b) _ W hT t6)
  clear t1 t2 t3 t4 t5 t6
  have LD := Aside0.mk (fun (W : World) (g : Nat) (hg : W.heap[g]? = some (.cells (lit (xo a b)) 48 (0, 0))) => load_lit hg)
  have BX := Aside0.mk (built_xo a b)
  have SN := Aside0.mk (store_new w (xo a b))
  unfold zeros at SN
  generalize lit (xo a b) = X at *
  have hba := (Below.refl w.heap.size w).alloc (Nat.le_refl _) (.cells X 48)
  have HB0 := Aside0.mk hba.drew
  have HT0 := Aside0.mk (hT.below hba.drew)
  have HX0 := Aside0.mk (heap_alloc_last w (.cells X 48))
  clear hT hba
  go_enter Tryd.func11, Tryd.ntmps11
  go_wp2_with (first
    | ((refine Great.wpList_readTo rfl (some 11) rfl (.agg X) (exec_build (t := 48) (parts := #[(3, .tmp 9), (7, .tmp 10)]) rfl ?hb) ?hh); (case hb => (simp only [List.map_toArray, List.map_cons, List.map_nil]; exact BX.out)))
    | (with_reducible refine wpList_doTo rfl _ (exec_store rfl SN.out) ?_))
  refine start_ (n := 9) (S := fun w' => w'.heap[w.heap.size]? = some (.cells X 48 (0, 0))) (ds := []) #[false, false, false, false, false, false, false, false, false] (by kernel_rfl) rfl rfl (HX0.out) (fun hHeld => ?_)
  refine take_ (i := 0) (N := some 12) (v := ?_) (a' := ?_) #[true, false, false, false, false, false, false, false, false] rfl rfl (by kernel_rfl) (fun _ _ _ h => h) (Or.inl ⟨by rfl, ?_⟩) hHeld ?_ ?_
  rotate_left
  · intro w' s0
    refine (exec_load rfl (LD.out _ _ s0)).trans ?_
    with_reducible rfl
  rotate_left
  · simp only [Act.put, List.setIfInBounds_toArray, List.set_cons_zero, List.set_cons_succ, i64_w, i32_w]
    rfl
  refine take_ (i := 2) (N := some 14) (v := ?_) (a' := ?_) #[true, false, true, false, false, false, false, false, false] rfl rfl (by kernel_rfl) (fun _ _ _ h => h) (Or.inl ⟨by rfl, ?_⟩) hHeld ?_ ?_
  rotate_left
  · intro w' s0
    refine (exec_load rfl (LD.out _ _ s0)).trans ?_
    with_reducible rfl
  rotate_left
  · simp only [Act.put, List.setIfInBounds_toArray, List.set_cons_zero, List.set_cons_succ, i64_w, i32_w]
    rfl
  refine take_ (i := 4) (N := some 16) (v := ?_) (a' := ?_) #[true, false, true, false, true, false, false, false, false] rfl rfl (by kernel_rfl) (fun _ _ _ h => h) (Or.inl ⟨by rfl, ?_⟩) hHeld ?_ ?_
  rotate_left
  · intro w' s0
    refine (exec_load rfl (LD.out _ _ s0)).trans ?_
    with_reducible rfl
  rotate_left
  · simp only [Act.put, List.setIfInBounds_toArray, List.set_cons_zero, List.set_cons_succ, i64_w, i32_w]
    rfl
  refine one_ (i := 1) (N := some 13) #[true, true, true, false, true, false, false, false, false] rfl rfl (by kernel_rfl) (by decide) (fun K hK => ?_)
  refine goes_ Tryd.func31 (by kernel_rfl) rfl #[.string ⟨#[100, 32, 60, 32, 104]⟩, .agg X] (by rfl) rfl rfl (by simp only [List.map_toArray, List.map_cons, List.map_nil]; rfl) ?_
  with_reducible refine (C1.out _ HT0.out).mono ?_
  rintro e w1 ⟨rfl, hb⟩
  refine ⟨_, rfl, ?_⟩
  have hx := (hb.block _ (blk_lt hHeld)).trans hHeld
  have HT1 := Aside0.mk (HT0.out.below hb)
  have HB1 := Aside0.mk (HB0.out.trans (hb.mono HB0.out.size))
  clear hb
  refine hK.out _ _ (hx) (fun hHeld => ?_)
  clear hK K
  refine norm_ (a' := ?_) ?_ ?_
  rotate_left
  · show Act.put _ (some 13) _ = _
    simp only [Act.put, List.setIfInBounds_toArray, List.set_cons_zero, List.set_cons_succ, i64_w, i32_w]
    rfl
  refine one_ (i := 3) (N := some 15) #[true, true, true, true, true, false, false, false, false] rfl rfl (by kernel_rfl) (by decide) (fun K hK => ?_)
  refine goes_ Tryd.func31 (by kernel_rfl) rfl #[.string ⟨#[100, 32, 61, 61, 32, 104]⟩, .agg X] (by rfl) rfl rfl (by simp only [List.map_toArray, List.map_cons, List.map_nil]; rfl) ?_
  with_reducible refine (C2.out _ HT1.out).mono ?_
  rintro e w2 ⟨rfl, hb⟩
  refine ⟨_, rfl, ?_⟩
  have hx := (hb.block _ (blk_lt hHeld)).trans hHeld
  have HT2 := Aside0.mk (HT1.out.below hb)
  have HB2 := Aside0.mk (HB1.out.trans (hb.mono HB1.out.size))
  clear hb
  refine hK.out _ _ (hx) (fun hHeld => ?_)
  clear hK K
  refine norm_ (a' := ?_) ?_ ?_
  rotate_left
  · show Act.put _ (some 15) _ = _
    simp only [Act.put, List.setIfInBounds_toArray, List.set_cons_zero, List.set_cons_succ, i64_w, i32_w]
    rfl
  refine one_ (i := 5) (N := some 17) #[true, true, true, true, true, true, false, false, false] rfl rfl (by kernel_rfl) (by decide) (fun K hK => ?_)
  refine goes_ Tryd.func31 (by kernel_rfl) rfl #[.string ⟨#[100, 32, 62, 32, 104]⟩, .agg X] (by rfl) rfl rfl (by simp only [List.map_toArray, List.map_cons, List.map_nil]; rfl) ?_
  with_reducible refine (C3.out _ HT2.out).mono ?_
  rintro e w3 ⟨rfl, hb⟩
  refine ⟨_, rfl, ?_⟩
  have hx := (hb.block _ (blk_lt hHeld)).trans hHeld
  have HT3 := Aside0.mk (HT2.out.below hb)
  have HB3 := Aside0.mk (HB2.out.trans (hb.mono HB2.out.size))
  clear hb
  refine hK.out _ _ (hx) (fun hHeld => ?_)
  clear hK K
  refine norm_ (a' := ?_) ?_ ?_
  rotate_left
  · show Act.put _ (some 17) _ = _
    simp only [Act.put, List.setIfInBounds_toArray, List.set_cons_zero, List.set_cons_succ, i64_w, i32_w]
    rfl
  refine pure_ (i := 6) (N := some 6) (v := ?_) (a' := ?_) #[true, true, true, true, true, true, true, false, false] rfl rfl (by kernel_rfl) (fun _ _ _ h => h) (Or.inl ⟨by rfl, ?_⟩) ?_ ?_
  rotate_left
  · intro w'
    go_simp
    with_reducible rfl
  rotate_left
  · simp only [Act.put, List.setIfInBounds_toArray, List.set_cons_zero, List.set_cons_succ, i64_w, i32_w]
    rfl
  refine pure_ (i := 7) (N := some 7) (v := ?_) (a' := ?_) #[true, true, true, true, true, true, true, true, false] rfl rfl (by kernel_rfl) (fun _ _ _ h => h) (Or.inl ⟨by rfl, ?_⟩) ?_ ?_
  rotate_left
  · intro w'
    go_simp
    with_reducible rfl
  rotate_left
  · simp only [Act.put, List.setIfInBounds_toArray, List.set_cons_zero, List.set_cons_succ, i64_w, i32_w]
    rfl
  refine pure_ (i := 8) (N := some 8) (v := ?_) (a' := ?_) #[true, true, true, true, true, true, true, true, true] rfl rfl (by kernel_rfl) (fun _ _ _ h => h) (Or.inl ⟨by rfl, ?_⟩) ?_ ?_
  rotate_left
  · intro w'
    go_simp
    with_reducible rfl
  rotate_left
  · simp only [Act.put, List.setIfInBounds_toArray, List.set_cons_zero, List.set_cons_succ, i64_w, i32_w]
    rfl
  refine done_ (by kernel_rfl) ?_
  have HX3 := Aside0.mk hHeld
  clear hHeld SN HX0 HB0 HT0 HT1 HT2 HB1 HB2
  go_wp2_with (first
    | (refine wpList_readGuard (some 38) rfl (.agg X) (exec_load rfl (LD.out _ _ HX3.out)) (by rfl) ?_)
    | (go_at_call 31; (with_reducible refine (C4.out _ HT3.out).mono ?_); rintro e1 w4 ⟨rfl, hb⟩; have HB4 := Aside0.mk (HB3.out.trans (hb.mono HB3.out.size)); have HT4 := Aside0.mk (HT3.out.below hb); have HX4 := Aside0.mk ((hb.block _ (blk_lt HX3.out)).trans HX3.out); clear hb)
    | (refine wpList_readGuard (some 45) rfl (.agg X) (exec_load rfl (LD.out _ _ HX4.out)) (by rfl) ?_)
    | (go_at_call 31; (with_reducible refine (C5.out _ HT4.out).mono ?_); rintro e1 w5 ⟨rfl, hb⟩; have HB5 := Aside0.mk (HB4.out.trans (hb.mono HB4.out.size)); have HT5 := Aside0.mk (HT4.out.below hb); have HX5 := Aside0.mk ((hb.block _ (blk_lt HX4.out)).trans HX4.out); clear hb)
    | (refine wpList_readGuard (some 52) rfl (.agg X) (exec_load rfl (LD.out _ _ HX5.out)) (by rfl) ?_)
    | (go_at_call 31; (with_reducible refine (C6.out _ HT5.out).mono ?_); rintro e1 w6 ⟨rfl, hb⟩; have HB6 := Aside0.mk (HB5.out.trans (hb.mono HB5.out.size)); have HT6 := Aside0.mk (HT5.out.below hb); clear hb)
    | (go_at_call 24; refine (wakes15_calls _ HT6.out).mono ?_; rintro e1 w7 ⟨rfl, hb⟩; have HB7 := Aside0.mk (HB6.out.trans (hb.mono HB6.out.size)); clear hb))
  go_ret
  exact ⟨rfl, HB7.out⟩
end Go.Proofs.YtojfdekiponccaaDoor.H
/- EvalOrder: the plain statement is part of the walk (HOrder); nothing is left to show. -/
namespace Go.Proofs.YtojfdekiponccaaDoor.Pure
set_option linter.unusedVariables false
theorem EvalOrder (a b : Int) (ha : (Go.Lit.int .i64 a).wf = true) (hb : (Go.Lit.int .i64 b).wf = true) : true = true := rfl
end Go.Proofs.YtojfdekiponccaaDoor.Pure
