-- Written by hp.py (a program of this session, over the kit's print.py), with hand-made contracts beside it.
import Derived.Test.YtojfdekiponccaaDoorHx0
import Derived.Test.YtojfdekiponccaaDoorHx4
import Derived.Test.YtojfdekiponccaaDoorHTexts
import Derived.Test.YtojfdekiponccaaDoorHTabs
import Derived.Deep.RegionHeld3
import Derived.Test.YtojfdekiponccaaDoorHTabs
namespace Go.Proofs.YtojfdekiponccaaDoor.H
open Go.RowKit Go.Proofs.YtojfdekiponccaaDoorW.PrintWords Go.Proofs.YtojfdekiponccaaDoorW.PrintLast Go.Proofs.YtojfdekiponccaaDoorW.PrintMore
attribute [local go_sem] max2_int min2_int max_two min_two max_three min_three max_four min_four   -- for this text's walks alone
set_option linter.unusedVariables false
set_option linter.unusedSimpArgs false

-- HANDMADE remontoir/lex.Text
/-! ### lex_Text: function 19 -/
open Go.HK
def goodB (k n : Int) : Bool := if k = 1 then decide (0 ≤ n ∧ n ≤ 2147483647) else if k = 2 then decide (0 ≤ n ∧ n ≤ 25) else (decide (3 ≤ k ∧ k ≤ 18) && n == 0)
theorem lexin_eq (a b c : Int) : lex_in.f a b c = some (decide (b ≤ a ∧ a ≤ c)) := by
  unfold lex_in.f
  by_cases h : a ≥ b
  · rw [if_pos h]; congr 1; rw [decide_eq_decide]; omega
  · rw [if_neg h]; congr 1; symm; rw [decide_eq_false_iff_not]; omega
theorem good_eq (k n : Int) : lex_Good.f k n = some (goodB k n) := by
  unfold lex_Good.f goodB
  simp only [lexin_eq, Option.bind_some]
  split
  · rfl
  · split
    · rfl
    · by_cases h : (3 ≤ k ∧ k ≤ 18)
      · simp [h]
      · simp [h]
def lex_Text.t (k n : Int) : ByteArray := if k = 1 then ⟨(itoaS n).toArray⟩ else if k = 2 then ⟨#[(97 + n).toNat.toUInt8]⟩ else lexT.getD k.toNat ⟨#[]⟩
def lex_Text.f (a0_0 a0_1 : Int) : Option (ByteArray × Bool) := some (if goodB a0_0 a0_1 = true then (lex_Text.t a0_0 a0_1, true) else (⟨#[]⟩, false))
theorem rune_str (n : Int) (h0 : 0 ≤ n) (h1 : n ≤ 25) (w : World) : (convert 21 9 (.int .i32 (97 + n))).run Tryd.prog w = .ok (.string ⟨#[(97 + n).toNat.toUInt8]⟩) w := by
  rcases (by omega : n = 0 ∨ n = 1 ∨ n = 2 ∨ n = 3 ∨ n = 4 ∨ n = 5 ∨ n = 6 ∨ n = 7 ∨ n = 8 ∨ n = 9 ∨ n = 10 ∨ n = 11 ∨ n = 12 ∨ n = 13 ∨ n = 14 ∨ n = 15 ∨ n = 16 ∨ n = 17 ∨ n = 18 ∨ n = 19 ∨ n = 20 ∨ n = 21 ∨ n = 22 ∨ n = 23 ∨ n = 24 ∨ n = 25) with rfl | rfl | rfl | rfl | rfl | rfl | rfl | rfl | rfl | rfl | rfl | rfl | rfl | rfl | rfl | rfl | rfl | rfl | rfl | rfl | rfl | rfl | rfl | rfl | rfl | rfl
  all_goals kernel_rfl
set_option maxRecDepth 100000 in
set_option maxHeartbeats 1000000 in
theorem lex_Text.calls (a0_0 a0_1 : Int) (r1 : ByteArray) (r2 : Bool) (w : World) (hT : Tabs w) (h : lex_Text.f a0_0 a0_1 = some (r1, r2)) :
    Calls Tryd.prog 19 #[.agg #[.int .i64 a0_0, .int .i64 a0_1]] w fun e w' => e = .returned (.tuple #[.string r1, .bool r2]) ∧ Below w.heap.size w w' := by
  have hb0 : Below w.heap.size w (w.alloc (.cells #[.int .i64 a0_0, .int .i64 a0_1] 35)) := (Below.refl _ _).alloc (Nat.le_refl _) _
  have hT1 : Tabs (w.alloc (.cells #[.int .i64 a0_0, .int .i64 a0_1] 35)) := hT.below hb0
  have HB0 := Aside0.mk hb0
  have HT := Aside0.mk hT1
  have hnot : ∀ (x : Bool) (w : World), (Op.unary .not (.bool x)).run Tryd.prog w = .ok (.bool (!x)) w := fun _ _ => rfl
  have hblk : (w.alloc (.cells #[.int .i64 a0_0, .int .i64 a0_1] 35)).heap[w.heap.size]? = some (.cells #[.int .i64 a0_0, .int .i64 a0_1] 35) := heap_alloc_last w _
  unfold lex_Text.f at h
  have hg := good_eq a0_0 a0_1
  clear hT hT1 hb0
  cases hG : goodB a0_0 a0_1
  · rw [hG] at h hg
    simp only [Bool.false_eq_true, if_false, Option.some.injEq, Prod.mk.injEq] at h
    obtain ⟨rfl, rfl⟩ := h
    have HG := Aside0.mk hg
    clear hg hG
    go_enter Tryd.func19, Tryd.ntmps19
    go_wp2_with (first | (go_at_call 20; refine (lex_Good.calls _ _ _ _ HG.out).mono ?_; rintro e w1 ⟨rfl, hb⟩; have HB := Aside0.mk (HB0.out.trans (hb.mono (HB0.out.size))); clear hb))
    go_ret2
    exact ⟨rfl, HB.out⟩
  · rw [hG] at h hg
    simp only [if_true, Option.some.injEq, Prod.mk.injEq] at h
    obtain ⟨rfl, rfl⟩ := h
    have HG := Aside0.mk hg
    unfold goodB at hG
    clear hg
    by_cases k1 : a0_0 = 1
    · subst k1
      rw [if_pos rfl] at hG
      have hn := of_decide_eq_true hG
      obtain ⟨n0, n1⟩ := hn
      clear hG
      go_enter Tryd.func19, Tryd.ntmps19
      go_wp2_with (first | (go_at_call 20; refine (lex_Good.calls _ _ _ _ HG.out).mono ?_; rintro e w1 ⟨rfl, hb⟩; have HB := Aside0.mk (HB0.out.trans (hb.mono (HB0.out.size))); have HT1 := Aside0.mk (HT.out.below hb); replace hblk := (hb.block _ (by simp)).trans hblk; clear hb HT; have hc1 := cell_of_row _ _ 0 _ _ _ hblk; have hc2 := cell_of_row _ _ 1 _ _ _ hblk) | (go_at_call 38; refine (itoaS_calls _ (by omega) (by omega) _ HT1.out).mono ?_; rintro e w2 ⟨rfl, hb⟩; have HB2 := Aside0.mk (HB.out.trans (hb.mono HB.out.size)); clear hb))
      go_ret2
      exact ⟨rfl, HB2.out⟩
    · rw [if_neg k1] at hG
      have k1b : (a0_0 == 1) = false := beq_eq_false_iff_ne.2 k1
      by_cases k2 : a0_0 = 2
      · subst k2
        rw [if_pos rfl] at hG
        have hn := of_decide_eq_true hG
        obtain ⟨n0, n1⟩ := hn
        have hr := rune_str a0_1 n0 n1
        clear hG k1
        go_enter Tryd.func19, Tryd.ntmps19
        go_wp2_with (first | (go_at_call 20; refine (lex_Good.calls _ _ _ _ HG.out).mono ?_; rintro e w1 ⟨rfl, hb⟩; have HB := Aside0.mk (HB0.out.trans (hb.mono (HB0.out.size))); replace hblk := (hb.block _ (by simp)).trans hblk; clear hb HT; have hc1 := cell_of_row _ _ 0 _ _ _ hblk; have hc2 := cell_of_row _ _ 1 _ _ _ hblk))
        go_ret2
        exact ⟨rfl, HB.out⟩
      · rw [if_neg k2] at hG
        have k2b : (a0_0 == 2) = false := beq_eq_false_iff_ne.2 k2
        obtain ⟨hk, hn⟩ := (Bool.and_eq_true _ _).mp hG
        obtain ⟨k3, k4⟩ := of_decide_eq_true hk
        obtain rfl : a0_1 = 0 := eq_of_beq hn
        obtain ⟨kn, rfl⟩ := Int.eq_ofNat_of_zero_le (show 0 ≤ a0_0 by omega)
        have hi := fun (W : World) => idxT W kn (by omega)
        have HR := Aside0.mk (show lex_Text.t (kn : Int) 0 = lexT.getD kn ⟨#[]⟩ by unfold lex_Text.t; rw [if_neg k1, if_neg k2]; rfl)
        generalize lexT.getD kn ⟨#[]⟩ = tx at *
        have HI := Aside0.mk hi
        clear hi hG hk hn k1 k2
        go_enter Tryd.func19, Tryd.ntmps19
        go_wp2_with (first | (go_at_call 20; refine (lex_Good.calls _ _ _ _ HG.out).mono ?_; rintro e w1 ⟨rfl, hb⟩; have HB := Aside0.mk (HB0.out.trans (hb.mono (HB0.out.size))); replace hblk := (hb.block _ (by simp)).trans hblk; clear hb HT; have hc1 := cell_of_row _ _ 0 _ _ _ hblk))
        have hi := HI.out
        have hlt := World.block_lt_of_cell? w1 _ hc1
        go_region_held3 (fun W => W.cell? ⟨w.heap.size, 0, none⟩ = some (.int .i64 kn) ∧ w.heap.size < W.heap.size)
          (first
            | go_keep
            | exact ⟨(hb3.cell hlt).trans hc1, Nat.lt_of_lt_of_le hlt hb3.size⟩)
          ((go_at_call 39; refine (lex_texts _).mono ?_; rintro e w3 ⟨rfl, hb3⟩))
        go_wp2
        go_ret2
        exact ⟨by rw [HR.out]; rfl, HB.out.trans (Below.trans (Below.drew (Below.refl _ _)) (Below.mono hb3 HB.out.size))⟩


end Go.Proofs.YtojfdekiponccaaDoor.H
