import Derived.Test.YtojfdekiponccaaDoorPSays
import Derived.Test.YtojfdekiponccaaDoorHEv
/- EvalTurns: ! turns what a guard says, & and | join what two say. -/
namespace Go.Proofs.YtojfdekiponccaaDoor.H
open Go.RowKit Go.HK Go.Proofs.YtojfdekiponccaaDoorW.PrintWords Go.Proofs.YtojfdekiponccaaDoorW.PrintLast Go.Proofs.YtojfdekiponccaaDoorW.PrintMore
set_option linter.unusedVariables false
set_option linter.unusedSimpArgs false
theorem turns_one (x : Nat → Int) (s : ByteArray) (hs : s.size ≤ 60) : ∃ (q : Bool) (e : Int) (k : Nat), eval_Test.f k s x = some (q, e) ∧ ((e = 0 ∧ Pure.Says x s.data.toList q) ∨ (e ≠ 0 ∧ q = false)) := by
  rcases Pure.test_or x s hs with ⟨q, h⟩ | ⟨e, he, K, hK⟩
  · obtain ⟨K, hK⟩ := Pure.says_test hs h
    exact ⟨q, 0, K, hK K (Nat.le_refl _), Or.inl ⟨rfl, h⟩⟩
  · exact ⟨false, e, K, hK K (Nat.le_refl _), Or.inr ⟨he, rfl⟩⟩
theorem turns_not (x : Nat → Int) (a b : ByteArray) (q r : Bool) (hs : a.size + b.size ≤ 46) (ha : Pure.Says x a.data.toList q) (hb : Pure.Says x b.data.toList r) :
    (∃ k, eval_Test.f k (((⟨#[33, 32, 40, 32]⟩ : ByteArray) ++ a) ++ (⟨#[32, 41]⟩ : ByteArray)) x = some (!q, 0)) ∧ (∃ k, eval_Test.f k (((((⟨#[40, 32]⟩ : ByteArray) ++ a) ++ (⟨#[32, 41, 32, 38, 32, 40, 32]⟩ : ByteArray)) ++ b) ++ (⟨#[32, 41]⟩ : ByteArray)) x = some (q && r, 0)) ∧ (∃ k, eval_Test.f k (((((⟨#[40, 32]⟩ : ByteArray) ++ b) ++ (⟨#[32, 41, 32, 124, 32, 40, 32]⟩ : ByteArray)) ++ a) ++ (⟨#[32, 41]⟩ : ByteArray)) x = some (r || q, 0)) ∧ (∃ k, eval_Test.f k (((((⟨#[40, 32]⟩ : ByteArray) ++ b) ++ (⟨#[32, 41, 32, 38, 32, 40, 32]⟩ : ByteArray)) ++ a) ++ (⟨#[32, 41]⟩ : ByteArray)) x = some (r && q, 0)) := by
  refine ⟨?_, ?_, ?_, ?_⟩
  · obtain ⟨K, hK⟩ := Pure.says_test (s := ((⟨#[33, 32, 40, 32]⟩ : ByteArray) ++ a) ++ (⟨#[32, 41]⟩ : ByteArray)) (by simp only [ByteArray.size_append]; show 4 + a.size + 2 ≤ 60; omega) (by simpa using Pure.says_not ha)
    exact ⟨K, hK K (Nat.le_refl _)⟩
  · obtain ⟨K, hK⟩ := Pure.says_test (s := ((((⟨#[40, 32]⟩ : ByteArray) ++ a) ++ (⟨#[32, 41, 32, 38, 32, 40, 32]⟩ : ByteArray)) ++ b) ++ (⟨#[32, 41]⟩ : ByteArray)) (by simp only [ByteArray.size_append]; show 2 + a.size + 7 + b.size + 2 ≤ 60; omega) (by simpa using Pure.says_both ha hb)
    exact ⟨K, hK K (Nat.le_refl _)⟩
  · obtain ⟨K, hK⟩ := Pure.says_test (s := ((((⟨#[40, 32]⟩ : ByteArray) ++ b) ++ (⟨#[32, 41, 32, 124, 32, 40, 32]⟩ : ByteArray)) ++ a) ++ (⟨#[32, 41]⟩ : ByteArray)) (by simp only [ByteArray.size_append]; show 2 + b.size + 7 + a.size + 2 ≤ 60; omega) (by simpa using Pure.says_any hb ha)
    exact ⟨K, hK K (Nat.le_refl _)⟩
  · obtain ⟨K, hK⟩ := Pure.says_test (s := ((((⟨#[40, 32]⟩ : ByteArray) ++ b) ++ (⟨#[32, 41, 32, 38, 32, 40, 32]⟩ : ByteArray)) ++ a) ++ (⟨#[32, 41]⟩ : ByteArray)) (by simp only [ByteArray.size_append]; show 2 + b.size + 7 + a.size + 2 ≤ 60; omega) (by simpa using Pure.says_both hb ha)
    exact ⟨K, hK K (Nat.le_refl _)⟩
set_option maxRecDepth 100000 in
set_option maxHeartbeats 1600000 in
theorem remontoirlaw15_EvalTurns.calls (a b : ByteArray) (x : Nat → Int) (r : Bool) (w : World) (hT : Tabs2 w) (h : r = true ∧ a.size ≤ 140737488351232 ∧ b.size ≤ 140737488351232) :
    Calls Tryd.prog 10 #[.string a, .string b, .agg (lit x)] w fun e w' => e = .returned (.bool r) ∧ Below w.heap.size w w' := by
  obtain ⟨rfl, ha, hb⟩ := h
  have LD := Aside0.mk (fun (W : World) (g : Nat) (hg : W.heap[g]? = some (.cells (lit x) 48 (0, 0))) => load_lit hg)
  by_cases hs : a.size + b.size ≤ 46
  · have ks : decide (60 < wrap64 (wrap64 ((a.size : Int) + (b.size : Int)) + 14)) = false := decide_eq_false (by unfold wrap64; omega)
    have z1 : 4 + a.size ≤ 9223372036854775807 := by omega
    obtain ⟨qa, ea, k1, t1, ca⟩ := turns_one x a (by omega)
    obtain ⟨qb, eb, k2, t2, cb⟩ := turns_one x b (by omega)
    have C1 := Aside0.mk (fun (W : World) (hT : Tabs2 W) => eval_Test.calls k1 a x qa ea W hT t1)
    have C2 := Aside0.mk (fun (W : World) (hT : Tabs2 W) => eval_Test.calls k2 b x qb eb W hT t2)
    clear t1 t2
    rcases ca with ⟨rfl, sa⟩ | ⟨na, rfl⟩
    · rcases cb with ⟨rfl, sb⟩ | ⟨nb, rfl⟩
      · obtain ⟨⟨k3, t3⟩, ⟨k4, t4⟩, ⟨k5, t5⟩, ⟨k6, t6⟩⟩ := turns_not x a b qa qb hs sa sb
        have C3 := Aside0.mk (fun (W : World) (hT : Tabs2 W) => eval_Test.calls k3 _ x _ _ W hT t3)
        have C4 := Aside0.mk (fun (W : World) (hT : Tabs2 W) => eval_Test.calls k4 _ x _ _ W hT t4)
        have C5 := Aside0.mk (fun (W : World) (hT : Tabs2 W) => eval_Test.calls k5 _ x _ _ W hT t5)
        have C6 := Aside0.mk (fun (W : World) (hT : Tabs2 W) => eval_Test.calls k6 _ x _ _ W hT t6)
        clear t3 t4 t5 t6 sa sb
        generalize lit x = X at *
        have hba := (Below.refl w.heap.size w).alloc (Nat.le_refl _) (.cells X 48)
        have HB0 := Aside0.mk hba
        have HT0 := Aside0.mk (hT.below hba)
        have HX0 := Aside0.mk (heap_alloc_last w (.cells X 48))
        clear hT hba
        have kq : (qb && qa) = (qa && qb) := Bool.and_comm _ _
        have kr : (qb || qa) = (qa || qb) := Bool.or_comm _ _
        go_enter Tryd.func10, Tryd.ntmps10
        go_wp2_with (first
          | (with_reducible refine Great.wpList_readTo rfl (some 29) rfl (.agg X) (exec_load rfl (LD.out _ _ HX0.out)) ?_)
          | (go_at_call 26; (with_reducible refine (C1.out _ HT0.out).mono ?_); rintro e1 w1 ⟨rfl, hb⟩; have HB1 := Aside0.mk (HB0.out.trans (hb.mono HB0.out.size)); have HT1 := Aside0.mk (HT0.out.below hb); have HX1 := Aside0.mk ((hb.block _ (blk_lt HX0.out)).trans HX0.out); clear hb)
          | (with_reducible refine Great.wpList_readTo rfl (some 35) rfl (.agg X) (exec_load rfl (LD.out _ _ HX1.out)) ?_)
          | (go_at_call 26; (with_reducible refine (C2.out _ HT1.out).mono ?_); rintro e1 w2 ⟨rfl, hb⟩; have HB2 := Aside0.mk (HB1.out.trans (hb.mono HB1.out.size)); have HT2 := Aside0.mk (HT1.out.below hb); have HX2 := Aside0.mk ((hb.block _ (blk_lt HX1.out)).trans HX1.out); clear hb)
          | (with_reducible refine Great.wpList_readTo rfl (some 66) rfl (.agg X) (exec_load rfl (LD.out _ _ HX2.out)) ?_)
          | (go_at_call 26; (with_reducible refine (C3.out _ HT2.out).mono ?_); rintro e1 w3 ⟨rfl, hb⟩; have HB3 := Aside0.mk (HB2.out.trans (hb.mono HB2.out.size)); have HT3 := Aside0.mk (HT2.out.below hb); have HX3 := Aside0.mk ((hb.block _ (blk_lt HX2.out)).trans HX2.out); clear hb)
          | (with_reducible refine Great.wpList_readTo rfl (some 77) rfl (.agg X) (exec_load rfl (LD.out _ _ HX3.out)) ?_)
          | (go_at_call 26; (with_reducible refine (C4.out _ HT3.out).mono ?_); rintro e1 w4 ⟨rfl, hb⟩; have HB4 := Aside0.mk (HB3.out.trans (hb.mono HB3.out.size)); have HT4 := Aside0.mk (HT3.out.below hb); have HX4 := Aside0.mk ((hb.block _ (blk_lt HX3.out)).trans HX3.out); clear hb)
          | (with_reducible refine Great.wpList_readTo rfl (some 88) rfl (.agg X) (exec_load rfl (LD.out _ _ HX4.out)) ?_)
          | (go_at_call 26; (with_reducible refine (C5.out _ HT4.out).mono ?_); rintro e1 w5 ⟨rfl, hb⟩; have HB5 := Aside0.mk (HB4.out.trans (hb.mono HB4.out.size)); have HT5 := Aside0.mk (HT4.out.below hb); have HX5 := Aside0.mk ((hb.block _ (blk_lt HX4.out)).trans HX4.out); clear hb)
          | (with_reducible refine Great.wpList_readTo rfl (some 99) rfl (.agg X) (exec_load rfl (LD.out _ _ HX5.out)) ?_)
          | (go_at_call 26; (with_reducible refine (C6.out _ HT5.out).mono ?_); rintro e1 w6 ⟨rfl, hb⟩; have HB6 := Aside0.mk (HB5.out.trans (hb.mono HB5.out.size)); have HT6 := Aside0.mk (HT5.out.below hb); have HX6 := Aside0.mk ((hb.block _ (blk_lt HX5.out)).trans HX5.out); clear hb)
          | (go_at_call 24; refine (wakes15_calls _ HT6.out).mono ?_; rintro e1 w9 ⟨rfl, hb⟩; have HB9 := Aside0.mk (HB6.out.trans (hb.mono HB6.out.size)); clear hb))
        all_goals go_ret
        all_goals exact ⟨rfl, HB9.out⟩
      · have kb : (eb != 0) = true := bne_iff_ne.2 nb
        clear sa nb
        generalize lit x = X at *
        have hba := (Below.refl w.heap.size w).alloc (Nat.le_refl _) (.cells X 48)
        have HB0 := Aside0.mk hba
        have HT0 := Aside0.mk (hT.below hba)
        have HX0 := Aside0.mk (heap_alloc_last w (.cells X 48))
        clear hT hba
        go_enter Tryd.func10, Tryd.ntmps10
        go_wp2_with (first
          | (with_reducible refine Great.wpList_readTo rfl (some 29) rfl (.agg X) (exec_load rfl (LD.out _ _ HX0.out)) ?_)
          | (go_at_call 26; (with_reducible refine (C1.out _ HT0.out).mono ?_); rintro e1 w1 ⟨rfl, hb⟩; have HB1 := Aside0.mk (HB0.out.trans (hb.mono HB0.out.size)); have HT1 := Aside0.mk (HT0.out.below hb); have HX1 := Aside0.mk ((hb.block _ (blk_lt HX0.out)).trans HX0.out); clear hb)
          | (with_reducible refine Great.wpList_readTo rfl (some 35) rfl (.agg X) (exec_load rfl (LD.out _ _ HX1.out)) ?_)
          | (go_at_call 26; (with_reducible refine (C2.out _ HT1.out).mono ?_); rintro e1 w2 ⟨rfl, hb⟩; have HB2 := Aside0.mk (HB1.out.trans (hb.mono HB1.out.size)); have HT2 := Aside0.mk (HT1.out.below hb); have HX2 := Aside0.mk ((hb.block _ (blk_lt HX1.out)).trans HX1.out); clear hb)
          | (go_at_call 24; refine (wakes15_calls _ HT2.out).mono ?_; rintro e1 w9 ⟨rfl, hb⟩; have HB9 := Aside0.mk (HB2.out.trans (hb.mono HB2.out.size)); clear hb))
        all_goals go_ret
        all_goals exact ⟨rfl, HB9.out⟩
    · have ka : (ea != 0) = true := bne_iff_ne.2 na
      rcases cb with ⟨rfl, sb⟩ | ⟨nb, rfl⟩
      · clear sb na
        generalize lit x = X at *
        have hba := (Below.refl w.heap.size w).alloc (Nat.le_refl _) (.cells X 48)
        have HB0 := Aside0.mk hba
        have HT0 := Aside0.mk (hT.below hba)
        have HX0 := Aside0.mk (heap_alloc_last w (.cells X 48))
        clear hT hba
        go_enter Tryd.func10, Tryd.ntmps10
        go_wp2_with (first
          | (with_reducible refine Great.wpList_readTo rfl (some 29) rfl (.agg X) (exec_load rfl (LD.out _ _ HX0.out)) ?_)
          | (go_at_call 26; (with_reducible refine (C1.out _ HT0.out).mono ?_); rintro e1 w1 ⟨rfl, hb⟩; have HB1 := Aside0.mk (HB0.out.trans (hb.mono HB0.out.size)); have HT1 := Aside0.mk (HT0.out.below hb); have HX1 := Aside0.mk ((hb.block _ (blk_lt HX0.out)).trans HX0.out); clear hb)
          | (with_reducible refine Great.wpList_readTo rfl (some 35) rfl (.agg X) (exec_load rfl (LD.out _ _ HX1.out)) ?_)
          | (go_at_call 26; (with_reducible refine (C2.out _ HT1.out).mono ?_); rintro e1 w2 ⟨rfl, hb⟩; have HB2 := Aside0.mk (HB1.out.trans (hb.mono HB1.out.size)); have HT2 := Aside0.mk (HT1.out.below hb); have HX2 := Aside0.mk ((hb.block _ (blk_lt HX1.out)).trans HX1.out); clear hb)
          | (go_at_call 24; refine (wakes15_calls _ HT2.out).mono ?_; rintro e1 w9 ⟨rfl, hb⟩; have HB9 := Aside0.mk (HB2.out.trans (hb.mono HB2.out.size)); clear hb))
        all_goals go_ret
        all_goals exact ⟨rfl, HB9.out⟩
      · have kb : (eb != 0) = true := bne_iff_ne.2 nb
        clear na nb
        generalize lit x = X at *
        have hba := (Below.refl w.heap.size w).alloc (Nat.le_refl _) (.cells X 48)
        have HB0 := Aside0.mk hba
        have HT0 := Aside0.mk (hT.below hba)
        have HX0 := Aside0.mk (heap_alloc_last w (.cells X 48))
        clear hT hba
        go_enter Tryd.func10, Tryd.ntmps10
        go_wp2_with (first
          | (with_reducible refine Great.wpList_readTo rfl (some 29) rfl (.agg X) (exec_load rfl (LD.out _ _ HX0.out)) ?_)
          | (go_at_call 26; (with_reducible refine (C1.out _ HT0.out).mono ?_); rintro e1 w1 ⟨rfl, hb⟩; have HB1 := Aside0.mk (HB0.out.trans (hb.mono HB0.out.size)); have HT1 := Aside0.mk (HT0.out.below hb); have HX1 := Aside0.mk ((hb.block _ (blk_lt HX0.out)).trans HX0.out); clear hb)
          | (with_reducible refine Great.wpList_readTo rfl (some 35) rfl (.agg X) (exec_load rfl (LD.out _ _ HX1.out)) ?_)
          | (go_at_call 26; (with_reducible refine (C2.out _ HT1.out).mono ?_); rintro e1 w2 ⟨rfl, hb⟩; have HB2 := Aside0.mk (HB1.out.trans (hb.mono HB1.out.size)); have HT2 := Aside0.mk (HT1.out.below hb); have HX2 := Aside0.mk ((hb.block _ (blk_lt HX1.out)).trans HX1.out); clear hb)
          | (go_at_call 24; refine (wakes15_calls _ HT2.out).mono ?_; rintro e1 w9 ⟨rfl, hb⟩; have HB9 := Aside0.mk (HB2.out.trans (hb.mono HB2.out.size)); clear hb))
        all_goals go_ret
        all_goals exact ⟨rfl, HB9.out⟩
  · have ks : decide (60 < wrap64 (wrap64 ((a.size : Int) + (b.size : Int)) + 14)) = true := decide_eq_true (by unfold wrap64; omega)
    generalize lit x = X at *
    have hba := (Below.refl w.heap.size w).alloc (Nat.le_refl _) (.cells X 48)
    have HB0 := Aside0.mk hba
    have HT0 := Aside0.mk (hT.below hba)
    have HX0 := Aside0.mk (heap_alloc_last w (.cells X 48))
    clear hT hba
    go_enter Tryd.func10, Tryd.ntmps10
    go_wp2_with (first
      | (go_at_call 24; refine (wakes15_calls _ HT0.out).mono ?_; rintro e1 w9 ⟨rfl, hb⟩; have HB9 := Aside0.mk (HB0.out.trans (hb.mono HB0.out.size)); clear hb))
    all_goals go_ret
    all_goals exact ⟨rfl, HB9.out⟩
end Go.Proofs.YtojfdekiponccaaDoor.H
/- EvalTurns: the plain statement is part of the walk (HTurnsW); only the texts' sizes are handed on. -/
namespace Go.Proofs.YtojfdekiponccaaDoor.Pure
set_option linter.unusedVariables false
theorem EvalTurns (a b : ByteArray) (x : Nat → Int) (ha : a.size ≤ 140737488351232) (hb : b.size ≤ 140737488351232) (hx : ∀ i, i < 26 → (Go.Lit.int .i64 (x i)).wf = true) : true = true ∧ a.size ≤ 140737488351232 ∧ b.size ≤ 140737488351232 := ⟨rfl, ha, hb⟩
end Go.Proofs.YtojfdekiponccaaDoor.Pure
