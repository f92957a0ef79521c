/- Parts of the proof of LawGuardLeft: words, contracts of the functions, plain laws. -/
import Derived.Test.YtikbgoppmailjaaDoorLA02
import Derived.Test.YtikbgoppmailjaaDoorLA03
import Derived.Deep.RegionHeld3
import Derived.Test.YtikbgoppmailjaaDoorLA04
-- Written by hp.py (a program of this session, over the kit's print.py), with hand-made contracts beside it.
namespace Go.Proofs.YtikbgoppmailjaaDoor.H
open Go.RowKit Go.Proofs.YtikbgoppmailjaaDoorW.PrintWords Go.Proofs.YtikbgoppmailjaaDoorW.PrintLast Go.Proofs.YtikbgoppmailjaaDoorW.PrintMore
attribute [local go_sem] max2_int min2_int max_two min_two max_three min_three max_four min_four   -- for this text's walks alone
set_option linter.unusedVariables false
set_option linter.unusedSimpArgs false

/-! ### guard_bracket: function 30 -/
mutual
def guard_bracket.j0 : Nat → Int → Int → Bool → Bool → Option (Int × Int)
  | 0, _, _, _, _ => none
  | k + 1, x0, x1, x2, x8 => if x8 = true then (guard_bracket.j1 k x0 x1 x2 x8) else (if x1 = 12 then (if x0 = 14 then (guard_bracket.j1 k x0 x1 x2 true) else (if x0 = 12 then (guard_bracket.j1 k x0 x1 x2 x2) else (guard_bracket.j1 k x0 x1 x2 false))) else (guard_bracket.j1 k x0 x1 x2 false))
def guard_bracket.j1 : Nat → Int → Int → Bool → Bool → Option (Int × Int)
  | 0, _, _, _, _ => none
  | k + 1, x0, x1, x2, x8 => if x8 = true then (some (15, 16)) else ((guard_sums.f x1).bind fun t123 => (if t123 = true then (if x0 = 5 then (guard_bracket.j2 k x0 x1 x2 true) else (if x0 = 19 then (guard_bracket.j2 k x0 x1 x2 true) else ((guard_sums.f x0).bind fun t124 => (if t124 = true then (guard_bracket.j2 k x0 x1 x2 x2) else (guard_bracket.j2 k x0 x1 x2 false))))) else (guard_bracket.j2 k x0 x1 x2 false)))
def guard_bracket.j2 : Nat → Int → Int → Bool → Bool → Option (Int × Int)
  | 0, _, _, _, _ => none
  | k + 1, x0, x1, x2, x39 => if x39 = true then (some (17, 18)) else (if x1 = 5 then (if x0 = 19 then (some (17, 18)) else (if x0 = 5 then (if x2 = true then (some (17, 18)) else (some (0, 0))) else (some (0, 0)))) else (some (0, 0)))
end
def guard_bracket.f (k : Nat) (a0 : Int) (a1 : Int) (a2 : Bool) : Option (Int × Int) := if a1 = 13 then (if a0 = 12 then (guard_bracket.j0 k a0 a1 a2 true) else (if a0 = 14 then (guard_bracket.j0 k a0 a1 a2 true) else (if a0 = 13 then (guard_bracket.j0 k a0 a1 a2 a2) else (guard_bracket.j0 k a0 a1 a2 false)))) else (guard_bracket.j0 k a0 a1 a2 false)
theorem guard_bracket.mono_l : ∀ k, (∀ y0 y1 y2 y3, LeO (guard_bracket.j0 k y0 y1 y2 y3) (guard_bracket.j0 (k + 1) y0 y1 y2 y3)) ∧ (∀ y0 y1 y2 y3, LeO (guard_bracket.j1 k y0 y1 y2 y3) (guard_bracket.j1 (k + 1) y0 y1 y2 y3)) ∧ (∀ y0 y1 y2 y3, LeO (guard_bracket.j2 k y0 y1 y2 y3) (guard_bracket.j2 (k + 1) y0 y1 y2 y3))
  | 0 => ⟨fun _ _ _ _ r h => by simp [guard_bracket.j0] at h, fun _ _ _ _ r h => by simp [guard_bracket.j1] at h, fun _ _ _ _ r h => by simp [guard_bracket.j2] at h⟩
  | k + 1 => by
    obtain ⟨ih0, ih1, ih2⟩ := guard_bracket.mono_l k
    refine ⟨?_, ?_, ?_⟩
    · intro y0 y1 y2 y3
      unfold guard_bracket.j0
      repeat' first
      | (with_reducible exact ih0 _ _ _ _)
      | (with_reducible exact ih1 _ _ _ _)
      | (with_reducible exact ih2 _ _ _ _)
      | (with_reducible exact LeO.refl _)
      | (with_reducible exact LeO.none _)
      | (with_reducible refine LeO.ite ?_ ?_)
      | (with_reducible refine LeO.bind ?_ (fun _ => ?_))
      | exact ih0 _ _ _ _
      | exact ih1 _ _ _ _
      | exact ih2 _ _ _ _
      | exact LeO.none _
      | refine LeO.ite ?_ ?_
      | refine LeO.bind ?_ (fun _ => ?_)
    · intro y0 y1 y2 y3
      unfold guard_bracket.j1
      repeat' first
      | (with_reducible exact ih0 _ _ _ _)
      | (with_reducible exact ih1 _ _ _ _)
      | (with_reducible exact ih2 _ _ _ _)
      | (with_reducible exact LeO.refl _)
      | (with_reducible exact LeO.none _)
      | (with_reducible refine LeO.ite ?_ ?_)
      | (with_reducible refine LeO.bind ?_ (fun _ => ?_))
      | exact ih0 _ _ _ _
      | exact ih1 _ _ _ _
      | exact ih2 _ _ _ _
      | exact LeO.none _
      | refine LeO.ite ?_ ?_
      | refine LeO.bind ?_ (fun _ => ?_)
    · intro y0 y1 y2 y3
      unfold guard_bracket.j2
      repeat' first
      | (with_reducible exact ih0 _ _ _ _)
      | (with_reducible exact ih1 _ _ _ _)
      | (with_reducible exact ih2 _ _ _ _)
      | (with_reducible exact LeO.refl _)
      | (with_reducible exact LeO.none _)
      | (with_reducible refine LeO.ite ?_ ?_)
      | (with_reducible refine LeO.bind ?_ (fun _ => ?_))
      | exact ih0 _ _ _ _
      | exact ih1 _ _ _ _
      | exact ih2 _ _ _ _
      | exact LeO.none _
      | refine LeO.ite ?_ ?_
      | refine LeO.bind ?_ (fun _ => ?_)
theorem guard_bracket.mono : ∀ a0 a1 a2 k, LeO (guard_bracket.f k a0 a1 a2) (guard_bracket.f (k + 1) a0 a1 a2) := by
  intro a0 a1 a2 k
  obtain ⟨ih0, ih1, ih2⟩ := guard_bracket.mono_l k
  unfold guard_bracket.f
  repeat' first
      | (with_reducible exact ih0 _ _ _ _)
      | (with_reducible exact ih1 _ _ _ _)
      | (with_reducible exact ih2 _ _ _ _)
      | (with_reducible exact LeO.refl _)
      | (with_reducible exact LeO.none _)
      | (with_reducible refine LeO.ite ?_ ?_)
      | (with_reducible refine LeO.bind ?_ (fun _ => ?_))
      | exact ih0 _ _ _ _
      | exact ih1 _ _ _ _
      | exact ih2 _ _ _ _
      | exact LeO.none _
      | refine LeO.ite ?_ ?_
      | refine LeO.bind ?_ (fun _ => ?_)
set_option maxHeartbeats 8000000 in
set_option maxRecDepth 100000 in
theorem guard_bracket.calls (k : Nat) (a0 : Int) (a1 : Int) (a2 : Bool) (r1 : Int) (r2 : Int) (w : World) (h : guard_bracket.f k a0 a1 a2 = some (r1, r2)) :
    Calls Tryd.prog 30 #[.int .i64 a0, .int .i64 a1, .bool a2] w fun e w' => e = .returned (.tuple #[.int .i64 r1, .int .i64 r2]) ∧ Drawn0 w w' := by
  have H : (if a1 = 13 then (if a0 = 12 then (guard_bracket.j0 k a0 a1 a2 true) else (if a0 = 14 then (guard_bracket.j0 k a0 a1 a2 true) else (if a0 = 13 then (guard_bracket.j0 k a0 a1 a2 a2) else (guard_bracket.j0 k a0 a1 a2 false)))) else (guard_bracket.j0 k a0 a1 a2 false)) = some (r1, r2) := h
  clear h
  have HC4 := Aside0.mk H
  clear H
  go_enter Tryd.func30, Tryd.ntmps30
  go_upto_region 1 with (fail)
  go_cut [8] (fun v8 wc => ∃ (kq : Nat) (x8_3 : Bool), v8 = .bool x8_3 ∧ Aside0 (guard_bracket.j0 kq a0 a1 a2 x8_3 = some (r1, r2)) ∧ Aside0 (kq ≤ k) ∧ Drawn0 w wc)
  case first =>
    have H := HC4.out
    clear HC4
    by_cases c5 : a1 = 13
    · rw [if_pos c5] at H
      have c5b0 : (a1 == 13) = true := beq_iff_eq.mpr c5
      have c5b1 : (a1 != 13) = false := bne_eq_false_iff_eq.mpr c5
      clear c5
      (first | rw [c5b0] | (simp only [i64_w, i32_w]; rw [c5b0]) | skip)
      by_cases c6 : a0 = 12
      · rw [if_pos c6] at H
        have c6b0 : (a0 == 12) = true := beq_iff_eq.mpr c6
        have c6b1 : (a0 != 12) = false := bne_eq_false_iff_eq.mpr c6
        clear c6
        have H' := Aside0.mk H
        clear H
        go_wp2
        go_meet
        case rel => exact ⟨_, (true), (by first | rfl | (simp; done) | (simp [*]; done)), H', ⟨by first | omega | exact Nat.le_refl _⟩, by repeat (first | exact Drawn0.refl _ | apply Drawn0.step)⟩
      · rw [if_neg c6] at H
        have c6b0 : (a0 == 12) = false := beq_eq_false_iff_ne.mpr c6
        have c6b1 : (a0 != 12) = true := bne_iff_ne.mpr c6
        by_cases c7 : a0 = 14
        · rw [if_pos c7] at H
          have c7b0 : (a0 == 14) = true := beq_iff_eq.mpr c7
          have c7b1 : (a0 != 14) = false := bne_eq_false_iff_eq.mpr c7
          clear c7
          have H' := Aside0.mk H
          clear H
          go_wp2
          go_meet
          case rel => exact ⟨_, (true), (by first | rfl | (simp; done) | (simp [*]; done)), H', ⟨by first | omega | exact Nat.le_refl _⟩, by repeat (first | exact Drawn0.refl _ | apply Drawn0.step)⟩
        · rw [if_neg c7] at H
          have c7b0 : (a0 == 14) = false := beq_eq_false_iff_ne.mpr c7
          have c7b1 : (a0 != 14) = true := bne_iff_ne.mpr c7
          by_cases c8 : a0 = 13
          · rw [if_pos c8] at H
            have c8b0 : (a0 == 13) = true := beq_iff_eq.mpr c8
            have c8b1 : (a0 != 13) = false := bne_eq_false_iff_eq.mpr c8
            clear c8
            have H' := Aside0.mk H
            clear H
            go_wp2
            go_meet
            case rel => exact ⟨_, (a2), (by first | rfl | (simp; done) | (simp [*]; done)), H', ⟨by first | omega | exact Nat.le_refl _⟩, by repeat (first | exact Drawn0.refl _ | apply Drawn0.step)⟩
          · rw [if_neg c8] at H
            have c8b0 : (a0 == 13) = false := beq_eq_false_iff_ne.mpr c8
            have c8b1 : (a0 != 13) = true := bne_iff_ne.mpr c8
            have H' := Aside0.mk H
            clear H
            go_wp2
            go_meet
            case rel => exact ⟨_, (false), (by first | rfl | (simp; done) | (simp [*]; done)), H', ⟨by first | omega | exact Nat.le_refl _⟩, by repeat (first | exact Drawn0.refl _ | apply Drawn0.step)⟩
    · rw [if_neg c5] at H
      have c5b0 : (a1 == 13) = false := beq_eq_false_iff_ne.mpr c5
      have c5b1 : (a1 != 13) = true := bne_iff_ne.mpr c5
      (first | rw [c5b0] | (simp only [i64_w, i32_w]; rw [c5b0]) | skip)
      have H' := Aside0.mk H
      clear H
      go_wp2
      go_meet
      case rel => exact ⟨_, (false), (by first | rfl | (simp; done) | (simp [*]; done)), H', ⟨by first | omega | exact Nat.le_refl _⟩, by repeat (first | exact Drawn0.refl _ | apply Drawn0.step)⟩
  case rest =>
    clear HC4
    try clear p2
    try clear c3
    try clear c5
    try clear c5b0
    try clear c5b1
    try clear c6
    try clear c6b0
    try clear c6b1
    try clear c7
    try clear c7b0
    try clear c7b1
    try clear c8
    try clear c8b0
    try clear c8b1
    obtain ⟨kq, x8_3, rfl, HA, HJ3, ⟨mc3, rfl⟩⟩ := hcut
    cases kq with
    | zero => exact absurd HA.out (by simp [guard_bracket.j0])
    | succ kj3 =>
      have H := HA.out
      clear HA
      simp only [guard_bracket.j0] at H
      have HC9 := Aside0.mk H
      clear H
      go_upto_if 8 with (fail)
      go_cut [8] (fun v8 wc => ∃ (kq : Nat) (x8_8 : Bool), v8 = .bool x8_8 ∧ Aside0 (guard_bracket.j1 kq a0 a1 a2 x8_8 = some (r1, r2)) ∧ Aside0 (kq ≤ kj3) ∧ Drawn0 w wc)
      case first =>
        have H := HC9.out
        clear HC9
        by_cases c10 : x8_3 = true
        · subst c10
          have H1 : (guard_bracket.j1 kj3 a0 a1 a2 true) = some (r1, r2) := by rw [if_pos rfl] at H; exact H
          clear H
          have H := H1
          clear H1
          have H' := Aside0.mk H
          clear H
          go_wp2
          go_meet
          case rel => exact ⟨_, (true), (by first | rfl | (simp; done) | (simp [*]; done)), H', ⟨by have := HJ3.out; first | omega | exact Nat.le_refl _⟩, by repeat (first | exact Drawn0.refl _ | apply Drawn0.step)⟩
        · replace c10 := Bool.eq_false_iff.mpr c10
          subst c10
          have H1 : (if a1 = 12 then (if a0 = 14 then (guard_bracket.j1 kj3 a0 a1 a2 true) else (if a0 = 12 then (guard_bracket.j1 kj3 a0 a1 a2 a2) else (guard_bracket.j1 kj3 a0 a1 a2 false))) else (guard_bracket.j1 kj3 a0 a1 a2 false)) = some (r1, r2) := by rw [if_neg (show ¬ (false = true) by decide)] at H; exact H
          clear H
          have H := H1
          clear H1
          by_cases c11 : a1 = 12
          · rw [if_pos c11] at H
            have c11b0 : (a1 == 12) = true := beq_iff_eq.mpr c11
            have c11b1 : (a1 != 12) = false := bne_eq_false_iff_eq.mpr c11
            clear c11
            (first | rw [c11b0] | (simp only [i64_w, i32_w]; rw [c11b0]) | skip)
            by_cases c12 : a0 = 14
            · rw [if_pos c12] at H
              have c12b0 : (a0 == 14) = true := beq_iff_eq.mpr c12
              have c12b1 : (a0 != 14) = false := bne_eq_false_iff_eq.mpr c12
              clear c12
              have H' := Aside0.mk H
              clear H
              go_wp2
              go_meet
              case rel => exact ⟨_, (true), (by first | rfl | (simp; done) | (simp [*]; done)), H', ⟨by have := HJ3.out; first | omega | exact Nat.le_refl _⟩, by repeat (first | exact Drawn0.refl _ | apply Drawn0.step)⟩
            · rw [if_neg c12] at H
              have c12b0 : (a0 == 14) = false := beq_eq_false_iff_ne.mpr c12
              have c12b1 : (a0 != 14) = true := bne_iff_ne.mpr c12
              by_cases c13 : a0 = 12
              · rw [if_pos c13] at H
                have c13b0 : (a0 == 12) = true := beq_iff_eq.mpr c13
                have c13b1 : (a0 != 12) = false := bne_eq_false_iff_eq.mpr c13
                clear c13
                have H' := Aside0.mk H
                clear H
                go_wp2
                go_meet
                case rel => exact ⟨_, (a2), (by first | rfl | (simp; done) | (simp [*]; done)), H', ⟨by have := HJ3.out; first | omega | exact Nat.le_refl _⟩, by repeat (first | exact Drawn0.refl _ | apply Drawn0.step)⟩
              · rw [if_neg c13] at H
                have c13b0 : (a0 == 12) = false := beq_eq_false_iff_ne.mpr c13
                have c13b1 : (a0 != 12) = true := bne_iff_ne.mpr c13
                have H' := Aside0.mk H
                clear H
                go_wp2
                go_meet
                case rel => exact ⟨_, (false), (by first | rfl | (simp; done) | (simp [*]; done)), H', ⟨by have := HJ3.out; first | omega | exact Nat.le_refl _⟩, by repeat (first | exact Drawn0.refl _ | apply Drawn0.step)⟩
          · rw [if_neg c11] at H
            have c11b0 : (a1 == 12) = false := beq_eq_false_iff_ne.mpr c11
            have c11b1 : (a1 != 12) = true := bne_iff_ne.mpr c11
            (first | rw [c11b0] | (simp only [i64_w, i32_w]; rw [c11b0]) | skip)
            have H' := Aside0.mk H
            clear H
            go_wp2
            go_meet
            case rel => exact ⟨_, (false), (by first | rfl | (simp; done) | (simp [*]; done)), H', ⟨by have := HJ3.out; first | omega | exact Nat.le_refl _⟩, by repeat (first | exact Drawn0.refl _ | apply Drawn0.step)⟩
      case rest =>
        clear HC9
        try clear c1
        try clear p2
        try clear c3
        try clear c5
        try clear c5b0
        try clear c5b1
        try clear c6
        try clear c6b0
        try clear c6b1
        try clear c7
        try clear c7b0
        try clear c7b1
        try clear c8
        try clear c8b0
        try clear c8b1
        try clear c10
        try clear c11
        try clear c11b0
        try clear c11b1
        try clear c12
        try clear c12b0
        try clear c12b1
        try clear c13
        try clear c13b0
        try clear c13b1
        try clear p2
        obtain ⟨kq, x8_8, rfl, HA, HJ8, ⟨mc8, rfl⟩⟩ := hcut
        cases kq with
        | zero => exact absurd HA.out (by simp [guard_bracket.j1])
        | succ kj8 =>
          have H := HA.out
          clear HA
          simp only [guard_bracket.j1] at H
          by_cases c14 : x8_8 = true
          · subst c14
            have H1 : (some (15, 16)) = some (r1, r2) := by rw [if_pos rfl] at H; exact H
            clear H
            have H := H1
            clear H1
            simp only [Option.some.injEq, Prod.mk.injEq] at H
            obtain ⟨rfl, rfl⟩ := H
            go_wp2
            go_ret2
            exact ⟨by first | rfl | (simp; done) | (simp [*]; done), by repeat (first | exact Drawn0.refl _ | apply Drawn0.step)⟩
          · replace c14 := Bool.eq_false_iff.mpr c14
            subst c14
            have H1 : ((guard_sums.f a1).bind fun t123 => (if t123 = true then (if a0 = 5 then (guard_bracket.j2 kj8 a0 a1 a2 true) else (if a0 = 19 then (guard_bracket.j2 kj8 a0 a1 a2 true) else ((guard_sums.f a0).bind fun t124 => (if t124 = true then (guard_bracket.j2 kj8 a0 a1 a2 a2) else (guard_bracket.j2 kj8 a0 a1 a2 false))))) else (guard_bracket.j2 kj8 a0 a1 a2 false))) = some (r1, r2) := by rw [if_neg (show ¬ (false = true) by decide)] at H; exact H
            clear H
            have H := H1
            clear H1
            have HC15 := Aside0.mk H
            clear H
            go_upto_region 4 with (fail)
            go_cut [39] (fun v39 wc => ∃ (kq : Nat) (x39_14 : Bool), v39 = .bool x39_14 ∧ Aside0 (guard_bracket.j2 kq a0 a1 a2 x39_14 = some (r1, r2)) ∧ Aside0 (kq ≤ kj8) ∧ Drawn0 w wc)
            case first =>
              have H := HC15.out
              clear HC15
              replace H := Option.bind_eq_some_iff.mp H
              obtain ⟨t123, A160, H⟩ := H
              replace H : (if t123 = true then (if a0 = 5 then (guard_bracket.j2 kj8 a0 a1 a2 true) else (if a0 = 19 then (guard_bracket.j2 kj8 a0 a1 a2 true) else ((guard_sums.f a0).bind fun t124 => (if t124 = true then (guard_bracket.j2 kj8 a0 a1 a2 a2) else (guard_bracket.j2 kj8 a0 a1 a2 false))))) else (guard_bracket.j2 kj8 a0 a1 a2 false)) = some (r1, r2) := H
              have A16 := Aside0.mk A160
              clear A160
              by_cases c17 : t123 = true
              · subst c17
                have H1 : (if a0 = 5 then (guard_bracket.j2 kj8 a0 a1 a2 true) else (if a0 = 19 then (guard_bracket.j2 kj8 a0 a1 a2 true) else ((guard_sums.f a0).bind fun t124 => (if t124 = true then (guard_bracket.j2 kj8 a0 a1 a2 a2) else (guard_bracket.j2 kj8 a0 a1 a2 false))))) = some (r1, r2) := by rw [if_pos rfl] at H; exact H
                clear H
                have H := H1
                clear H1
                by_cases c18 : a0 = 5
                · rw [if_pos c18] at H
                  have c18b0 : (a0 == 5) = true := beq_iff_eq.mpr c18
                  have c18b1 : (a0 != 5) = false := bne_eq_false_iff_eq.mpr c18
                  clear c18
                  (first | rw [c18b0] | (simp only [i64_w, i32_w]; rw [c18b0]) | skip)
                  have H' := Aside0.mk H
                  clear H
                  go_wp2_with (first | ((with_reducible refine gate_callee (f := 25) rfl ?_); refine goesL_ (some 41) rfl rfl Tryd.func25 (by kernel_rfl) rfl #[.int .i64 a1] rfl (by (try simp only [List.map_toArray, List.map_cons, List.map_nil]); first | done | rfl | (simp only [List.length_drop, List.length_take]; rfl)) ?_; (with_reducible refine (guard_sums.calls a1 true _ A16.out).mono ?_); rintro e w' ⟨rfl, ⟨nd, rfl⟩⟩; refine ⟨_, rfl, ?_⟩))
                  go_meet
                  case rel => exact ⟨_, (true), (by first | rfl | (simp; done) | (simp [*]; done)), H', ⟨by have := HJ3.out; have := HJ8.out; first | omega | exact Nat.le_refl _⟩, by repeat (first | exact Drawn0.refl _ | apply Drawn0.step)⟩
                · rw [if_neg c18] at H
                  have c18b0 : (a0 == 5) = false := beq_eq_false_iff_ne.mpr c18
                  have c18b1 : (a0 != 5) = true := bne_iff_ne.mpr c18
                  (first | rw [c18b0] | (simp only [i64_w, i32_w]; rw [c18b0]) | skip)
                  by_cases c19 : a0 = 19
                  · rw [if_pos c19] at H
                    have c19b0 : (a0 == 19) = true := beq_iff_eq.mpr c19
                    have c19b1 : (a0 != 19) = false := bne_eq_false_iff_eq.mpr c19
                    clear c19
                    have H' := Aside0.mk H
                    clear H
                    go_wp2_with (first | ((with_reducible refine gate_callee (f := 25) rfl ?_); refine goesL_ (some 41) rfl rfl Tryd.func25 (by kernel_rfl) rfl #[.int .i64 a1] rfl (by (try simp only [List.map_toArray, List.map_cons, List.map_nil]); first | done | rfl | (simp only [List.length_drop, List.length_take]; rfl)) ?_; (with_reducible refine (guard_sums.calls a1 true _ A16.out).mono ?_); rintro e w' ⟨rfl, ⟨nd, rfl⟩⟩; refine ⟨_, rfl, ?_⟩))
                    go_meet
                    case rel => exact ⟨_, (true), (by first | rfl | (simp; done) | (simp [*]; done)), H', ⟨by have := HJ3.out; have := HJ8.out; first | omega | exact Nat.le_refl _⟩, by repeat (first | exact Drawn0.refl _ | apply Drawn0.step)⟩
                  · rw [if_neg c19] at H
                    have c19b0 : (a0 == 19) = false := beq_eq_false_iff_ne.mpr c19
                    have c19b1 : (a0 != 19) = true := bne_iff_ne.mpr c19
                    replace H := Option.bind_eq_some_iff.mp H
                    obtain ⟨t124, A200, H⟩ := H
                    replace H : (if t124 = true then (guard_bracket.j2 kj8 a0 a1 a2 a2) else (guard_bracket.j2 kj8 a0 a1 a2 false)) = some (r1, r2) := H
                    have A20 := Aside0.mk A200
                    clear A200
                    by_cases c21 : t124 = true
                    · subst c21
                      have H1 : (guard_bracket.j2 kj8 a0 a1 a2 a2) = some (r1, r2) := by rw [if_pos rfl] at H; exact H
                      clear H
                      have H := H1
                      clear H1
                      have H' := Aside0.mk H
                      clear H
                      go_wp2_with (first | ((with_reducible refine gate_callee (f := 25) rfl ?_); refine goesL_ (some 41) rfl rfl Tryd.func25 (by kernel_rfl) rfl #[.int .i64 a1] rfl (by (try simp only [List.map_toArray, List.map_cons, List.map_nil]); first | done | rfl | (simp only [List.length_drop, List.length_take]; rfl)) ?_; (with_reducible refine (guard_sums.calls a1 true _ A16.out).mono ?_); rintro e w' ⟨rfl, ⟨nd, rfl⟩⟩; refine ⟨_, rfl, ?_⟩) | (go_at_call 25; (with_reducible refine (guard_sums.calls a0 true _ A20.out).mono ?_); rintro e w' ⟨rfl, ⟨nd, rfl⟩⟩))
                      go_meet
                      case rel => exact ⟨_, (a2), (by first | rfl | (simp; done) | (simp [*]; done)), H', ⟨by have := HJ3.out; have := HJ8.out; first | omega | exact Nat.le_refl _⟩, by repeat (first | exact Drawn0.refl _ | apply Drawn0.step)⟩
                    · replace c21 := Bool.eq_false_iff.mpr c21
                      subst c21
                      have H1 : (guard_bracket.j2 kj8 a0 a1 a2 false) = some (r1, r2) := by rw [if_neg (show ¬ (false = true) by decide)] at H; exact H
                      clear H
                      have H := H1
                      clear H1
                      have H' := Aside0.mk H
                      clear H
                      go_wp2_with (first | ((with_reducible refine gate_callee (f := 25) rfl ?_); refine goesL_ (some 41) rfl rfl Tryd.func25 (by kernel_rfl) rfl #[.int .i64 a1] rfl (by (try simp only [List.map_toArray, List.map_cons, List.map_nil]); first | done | rfl | (simp only [List.length_drop, List.length_take]; rfl)) ?_; (with_reducible refine (guard_sums.calls a1 true _ A16.out).mono ?_); rintro e w' ⟨rfl, ⟨nd, rfl⟩⟩; refine ⟨_, rfl, ?_⟩) | (go_at_call 25; (with_reducible refine (guard_sums.calls a0 false _ A20.out).mono ?_); rintro e w' ⟨rfl, ⟨nd, rfl⟩⟩))
                      go_meet
                      case rel => exact ⟨_, (false), (by first | rfl | (simp; done) | (simp [*]; done)), H', ⟨by have := HJ3.out; have := HJ8.out; first | omega | exact Nat.le_refl _⟩, by repeat (first | exact Drawn0.refl _ | apply Drawn0.step)⟩
              · replace c17 := Bool.eq_false_iff.mpr c17
                subst c17
                have H1 : (guard_bracket.j2 kj8 a0 a1 a2 false) = some (r1, r2) := by rw [if_neg (show ¬ (false = true) by decide)] at H; exact H
                clear H
                have H := H1
                clear H1
                have H' := Aside0.mk H
                clear H
                go_wp2_with (first | ((with_reducible refine gate_callee (f := 25) rfl ?_); refine goesL_ (some 41) rfl rfl Tryd.func25 (by kernel_rfl) rfl #[.int .i64 a1] rfl (by (try simp only [List.map_toArray, List.map_cons, List.map_nil]); first | done | rfl | (simp only [List.length_drop, List.length_take]; rfl)) ?_; (with_reducible refine (guard_sums.calls a1 false _ A16.out).mono ?_); rintro e w' ⟨rfl, ⟨nd, rfl⟩⟩; refine ⟨_, rfl, ?_⟩))
                go_meet
                case rel => exact ⟨_, (false), (by first | rfl | (simp; done) | (simp [*]; done)), H', ⟨by have := HJ3.out; have := HJ8.out; first | omega | exact Nat.le_refl _⟩, by repeat (first | exact Drawn0.refl _ | apply Drawn0.step)⟩
            case rest =>
              clear HC15
              try clear c1
              try clear c2
              try clear p2
              try clear c3
              try clear c5
              try clear c5b0
              try clear c5b1
              try clear c6
              try clear c6b0
              try clear c6b1
              try clear c7
              try clear c7b0
              try clear c7b1
              try clear c8
              try clear c8b0
              try clear c8b1
              try clear c10
              try clear c11
              try clear c11b0
              try clear c11b1
              try clear c12
              try clear c12b0
              try clear c12b1
              try clear c13
              try clear c13b0
              try clear c13b1
              try clear c14
              try clear c17
              try clear c18
              try clear c18b0
              try clear c18b1
              try clear c19
              try clear c19b0
              try clear c19b1
              try clear c21
              try clear p2
              obtain ⟨kq, x39_14, rfl, HA, HJ14, ⟨mc14, rfl⟩⟩ := hcut
              cases kq with
              | zero => exact absurd HA.out (by simp [guard_bracket.j2])
              | succ kj14 =>
                have H := HA.out
                clear HA
                simp only [guard_bracket.j2] at H
                by_cases c22 : x39_14 = true
                · subst c22
                  have H1 : (some (17, 18)) = some (r1, r2) := by rw [if_pos rfl] at H; exact H
                  clear H
                  have H := H1
                  clear H1
                  simp only [Option.some.injEq, Prod.mk.injEq] at H
                  obtain ⟨rfl, rfl⟩ := H
                  go_wp2
                  go_ret2
                  exact ⟨by first | rfl | (simp; done) | (simp [*]; done), by repeat (first | exact Drawn0.refl _ | apply Drawn0.step)⟩
                · replace c22 := Bool.eq_false_iff.mpr c22
                  subst c22
                  have H1 : (if a1 = 5 then (if a0 = 19 then (some (17, 18)) else (if a0 = 5 then (if a2 = true then (some (17, 18)) else (some (0, 0))) else (some (0, 0)))) else (some (0, 0))) = some (r1, r2) := by rw [if_neg (show ¬ (false = true) by decide)] at H; exact H
                  clear H
                  have H := H1
                  clear H1
                  by_cases c23 : a1 = 5
                  · rw [if_pos c23] at H
                    have c23b0 : (a1 == 5) = true := beq_iff_eq.mpr c23
                    have c23b1 : (a1 != 5) = false := bne_eq_false_iff_eq.mpr c23
                    clear c23
                    by_cases c24 : a0 = 19
                    · rw [if_pos c24] at H
                      have c24b0 : (a0 == 19) = true := beq_iff_eq.mpr c24
                      have c24b1 : (a0 != 19) = false := bne_eq_false_iff_eq.mpr c24
                      clear c24
                      simp only [Option.some.injEq, Prod.mk.injEq] at H
                      obtain ⟨rfl, rfl⟩ := H
                      go_wp2
                      go_ret2
                      exact ⟨by first | rfl | (simp; done) | (simp [*]; done), by repeat (first | exact Drawn0.refl _ | apply Drawn0.step)⟩
                    · rw [if_neg c24] at H
                      have c24b0 : (a0 == 19) = false := beq_eq_false_iff_ne.mpr c24
                      have c24b1 : (a0 != 19) = true := bne_iff_ne.mpr c24
                      by_cases c25 : a0 = 5
                      · rw [if_pos c25] at H
                        have c25b0 : (a0 == 5) = true := beq_iff_eq.mpr c25
                        have c25b1 : (a0 != 5) = false := bne_eq_false_iff_eq.mpr c25
                        clear c25
                        by_cases c26 : a2 = true
                        · subst c26
                          have H1 : (some (17, 18)) = some (r1, r2) := by rw [if_pos rfl] at H; exact H
                          clear H
                          have H := H1
                          clear H1
                          simp only [Option.some.injEq, Prod.mk.injEq] at H
                          obtain ⟨rfl, rfl⟩ := H
                          go_wp2
                          go_ret2
                          exact ⟨by first | rfl | (simp; done) | (simp [*]; done), by repeat (first | exact Drawn0.refl _ | apply Drawn0.step)⟩
                        · replace c26 := Bool.eq_false_iff.mpr c26
                          subst c26
                          have H1 : (some (0, 0)) = some (r1, r2) := by rw [if_neg (show ¬ (false = true) by decide)] at H; exact H
                          clear H
                          have H := H1
                          clear H1
                          simp only [Option.some.injEq, Prod.mk.injEq] at H
                          obtain ⟨rfl, rfl⟩ := H
                          go_wp2
                          go_ret2
                          exact ⟨by first | rfl | (simp; done) | (simp [*]; done), by repeat (first | exact Drawn0.refl _ | apply Drawn0.step)⟩
                      · rw [if_neg c25] at H
                        have c25b0 : (a0 == 5) = false := beq_eq_false_iff_ne.mpr c25
                        have c25b1 : (a0 != 5) = true := bne_iff_ne.mpr c25
                        simp only [Option.some.injEq, Prod.mk.injEq] at H
                        obtain ⟨rfl, rfl⟩ := H
                        go_wp2
                        go_ret2
                        exact ⟨by first | rfl | (simp; done) | (simp [*]; done), by repeat (first | exact Drawn0.refl _ | apply Drawn0.step)⟩
                  · rw [if_neg c23] at H
                    have c23b0 : (a1 == 5) = false := beq_eq_false_iff_ne.mpr c23
                    have c23b1 : (a1 != 5) = true := bne_iff_ne.mpr c23
                    simp only [Option.some.injEq, Prod.mk.injEq] at H
                    obtain ⟨rfl, rfl⟩ := H
                    go_wp2
                    go_ret2
                    exact ⟨by first | rfl | (simp; done) | (simp [*]; done), by repeat (first | exact Drawn0.refl _ | apply Drawn0.step)⟩

end Go.Proofs.YtikbgoppmailjaaDoor.H
-- Written by hp.py (a program of this session, over the kit's print.py), with hand-made contracts beside it.
namespace Go.Proofs.YtikbgoppmailjaaDoor.H
open Go.RowKit Go.Proofs.YtikbgoppmailjaaDoorW.PrintWords Go.Proofs.YtikbgoppmailjaaDoorW.PrintLast Go.Proofs.YtikbgoppmailjaaDoorW.PrintMore
attribute [local go_sem] max2_int min2_int max_two min_two max_three min_three max_four min_four   -- for this text's walks alone
set_option linter.unusedVariables false
set_option linter.unusedSimpArgs false

/-! ### lex_in: function 32 -/
def lex_in.f (a0 : Int) (a1 : Int) (a2 : Int) : Option (Bool) := if a0 ≥ a1 then (some (decide (a0 ≤ a2))) else (some false)
set_option maxHeartbeats 8000000 in
set_option maxRecDepth 100000 in
theorem lex_in.calls (a0 : Int) (a1 : Int) (a2 : Int) (r : Bool) (w : World) (h : lex_in.f a0 a1 a2 = some r) :
    Calls Tryd.prog 32 #[.int .i64 a0, .int .i64 a1, .int .i64 a2] w fun e w' => e = .returned (.bool r) ∧ Drawn0 w w' := by
  have H : (if a0 ≥ a1 then (some (decide (a0 ≤ a2))) else (some false)) = some r := h
  clear h
  by_cases c4 : a0 ≥ a1
  · rw [if_pos c4] at H
    have c4b0 : decide (a1 ≤ a0) = true := decide_eq_true c4
    clear c4
    obtain rfl := Option.some.inj H
    go_enter Tryd.func32, Tryd.ntmps32
    go_wp2
    go_ret
    exact ⟨by first | rfl | (simp; done) | (simp [*]; done), by repeat (first | exact Drawn0.refl _ | apply Drawn0.step)⟩
  · rw [if_neg c4] at H
    have c4b0 : decide (a1 ≤ a0) = false := decide_eq_false c4
    clear c4
    obtain rfl := Option.some.inj H
    go_enter Tryd.func32, Tryd.ntmps32
    go_wp2
    go_ret
    exact ⟨by first | rfl | (simp; done) | (simp [*]; done), by repeat (first | exact Drawn0.refl _ | apply Drawn0.step)⟩

/-! ### lex_Good: function 38 -/
def lex_Good.f (a0_0 : Int) (a0_1 : Int) : Option (Bool) := if a0_0 = 1 then ((lex_in.f a0_1 0 2147483647).bind fun t126 => (some t126)) else (if a0_0 = 2 then ((lex_in.f a0_1 0 25).bind fun t127 => (some t127)) else ((lex_in.f a0_0 3 18).bind fun t128 => (if t128 = true then (some (a0_1 == 0)) else (some false))))
set_option maxHeartbeats 8000000 in
set_option maxRecDepth 100000 in
theorem lex_Good.calls (a0_0 : Int) (a0_1 : Int) (r : Bool) (w : World) (h : lex_Good.f a0_0 a0_1 = some r) :
    Calls Tryd.prog 38 #[.agg #[.int .i64 a0_0, .int .i64 a0_1]] w fun e w' => e = .returned (.bool r) ∧ Below w.heap.size w w' := by
  have hu33 := Tryd.underlying33
  have HB := Aside0.mk (Below.refl w.heap.size w)
  have H : (if a0_0 = 1 then ((lex_in.f a0_1 0 2147483647).bind fun t126 => (some t126)) else (if a0_0 = 2 then ((lex_in.f a0_1 0 25).bind fun t127 => (some t127)) else ((lex_in.f a0_0 3 18).bind fun t128 => (if t128 = true then (some (a0_1 == 0)) else (some false))))) = some r := h
  clear h
  by_cases c2 : a0_0 = 1
  · rw [if_pos c2] at H
    have c2b0 : (a0_0 == 1) = true := beq_iff_eq.mpr c2
    have c2b1 : (a0_0 != 1) = false := bne_eq_false_iff_eq.mpr c2
    clear c2
    replace H := Option.bind_eq_some_iff.mp H
    obtain ⟨t126, A30, H⟩ := H
    replace H : (some t126) = some r := H
    have A3 := Aside0.mk A30
    clear A30
    obtain rfl := Option.some.inj H
    go_enter Tryd.func38, Tryd.ntmps38
    go_wp2_with (first | ((with_reducible refine gate_dst (N := 1) rfl ?_); refine box_event ?hg (N := 1) ?hd (cs := #[.int .i64 a0_0, .int .i64 a0_1]) (t := 33) ?hr ?_; (case hd => rfl); (case hg => rfl); (case hr => first | (go_simp; done) | (go_simp; rfl)); intro gb125 hg w4 hbox hb; have n0_ := Aside0.mk (below_step (by repeat (first | (with_reducible first | exact HB.out | apply below_alloc | apply pw_below_drewN | apply below_drew1) | exact HB.out)) hb); have n1_ := Aside0.mk (hbox); have n2_ := Aside0.mk ((by rw [hg]; exact (below_size (by repeat (first | (with_reducible first | exact HB.out | apply below_alloc | apply pw_below_drewN | apply below_drew1) | exact HB.out))) : w.heap.size ≤ gb125)); have n3_ := Aside0.mk ((by rw [hg]; exact (below_size (by repeat (first | (with_reducible first | exact HB.out | apply below_alloc | apply pw_below_drewN | apply below_drew1) | exact HB.out))) : w.heap.size ≤ gb125)); clear HB; have HB := n0_; have BK125 := n1_; have GW125 := n2_; have GE125 := n3_; clear n0_ n1_ n2_ n3_; clear hb hbox hg; have hcz5_0 : w4.cell? ⟨gb125, 0, none⟩ = some (.int .i64 a0_0) := (blk_cell BK125.out 0).trans rfl; have hcz5_1 : w4.cell? ⟨gb125, 1, none⟩ = some (.int .i64 a0_1) := (blk_cell BK125.out 1).trans rfl; have hfz5_0 := blk_frozen BK125.out 0; have hfz5_1 := blk_frozen BK125.out 1) | ((with_reducible refine gate_callee (f := 32) rfl ?_); refine goesL_ (some 9) rfl rfl Tryd.func32 (by kernel_rfl) rfl #[.int .i64 a0_1, .int .i64 0, .int .i64 2147483647] rfl (by (try simp only [List.map_toArray, List.map_cons, List.map_nil]); first | done | rfl | (simp only [List.length_drop, List.length_take]; rfl)) ?_; (with_reducible refine (lex_in.calls a0_1 0 2147483647 t126 _ A3.out).mono ?_); rintro e w' ⟨rfl, ⟨nd, rfl⟩⟩; refine ⟨_, rfl, ?_⟩))
    go_ret
    exact ⟨by first | rfl | (simp [errW_none, errW_some] <;> rfl) | (simp [*, errW_none, errW_some] <;> rfl), by repeat (first | (with_reducible first | exact HB.out | apply below_alloc | apply pw_below_drewN | apply below_drew1 | refine below_set ?_ GE125.out) | exact HB.out)⟩
  · rw [if_neg c2] at H
    have c2b0 : (a0_0 == 1) = false := beq_eq_false_iff_ne.mpr c2
    have c2b1 : (a0_0 != 1) = true := bne_iff_ne.mpr c2
    by_cases c6 : a0_0 = 2
    · rw [if_pos c6] at H
      have c6b0 : (a0_0 == 2) = true := beq_iff_eq.mpr c6
      have c6b1 : (a0_0 != 2) = false := bne_eq_false_iff_eq.mpr c6
      clear c6
      replace H := Option.bind_eq_some_iff.mp H
      obtain ⟨t127, A70, H⟩ := H
      replace H : (some t127) = some r := H
      have A7 := Aside0.mk A70
      clear A70
      obtain rfl := Option.some.inj H
      go_enter Tryd.func38, Tryd.ntmps38
      go_wp2_with (first | ((with_reducible refine gate_dst (N := 1) rfl ?_); refine box_event ?hg (N := 1) ?hd (cs := #[.int .i64 a0_0, .int .i64 a0_1]) (t := 33) ?hr ?_; (case hd => rfl); (case hg => rfl); (case hr => first | (go_simp; done) | (go_simp; rfl)); intro gb125 hg w8 hbox hb; have n0_ := Aside0.mk (below_step (by repeat (first | (with_reducible first | exact HB.out | apply below_alloc | apply pw_below_drewN | apply below_drew1) | exact HB.out)) hb); have n1_ := Aside0.mk (hbox); have n2_ := Aside0.mk ((by rw [hg]; exact (below_size (by repeat (first | (with_reducible first | exact HB.out | apply below_alloc | apply pw_below_drewN | apply below_drew1) | exact HB.out))) : w.heap.size ≤ gb125)); have n3_ := Aside0.mk ((by rw [hg]; exact (below_size (by repeat (first | (with_reducible first | exact HB.out | apply below_alloc | apply pw_below_drewN | apply below_drew1) | exact HB.out))) : w.heap.size ≤ gb125)); clear HB; have HB := n0_; have BK125 := n1_; have GW125 := n2_; have GE125 := n3_; clear n0_ n1_ n2_ n3_; clear hb hbox hg; have hcz9_0 : w8.cell? ⟨gb125, 0, none⟩ = some (.int .i64 a0_0) := (blk_cell BK125.out 0).trans rfl; have hcz9_1 : w8.cell? ⟨gb125, 1, none⟩ = some (.int .i64 a0_1) := (blk_cell BK125.out 1).trans rfl; have hfz9_0 := blk_frozen BK125.out 0; have hfz9_1 := blk_frozen BK125.out 1) | ((with_reducible refine gate_callee (f := 32) rfl ?_); refine goesL_ (some 14) rfl rfl Tryd.func32 (by kernel_rfl) rfl #[.int .i64 a0_1, .int .i64 0, .int .i64 25] rfl (by (try simp only [List.map_toArray, List.map_cons, List.map_nil]); first | done | rfl | (simp only [List.length_drop, List.length_take]; rfl)) ?_; (with_reducible refine (lex_in.calls a0_1 0 25 t127 _ A7.out).mono ?_); rintro e w' ⟨rfl, ⟨nd, rfl⟩⟩; refine ⟨_, rfl, ?_⟩))
      go_ret
      exact ⟨by first | rfl | (simp [errW_none, errW_some] <;> rfl) | (simp [*, errW_none, errW_some] <;> rfl), by repeat (first | (with_reducible first | exact HB.out | apply below_alloc | apply pw_below_drewN | apply below_drew1 | refine below_set ?_ GE125.out) | exact HB.out)⟩
    · rw [if_neg c6] at H
      have c6b0 : (a0_0 == 2) = false := beq_eq_false_iff_ne.mpr c6
      have c6b1 : (a0_0 != 2) = true := bne_iff_ne.mpr c6
      replace H := Option.bind_eq_some_iff.mp H
      obtain ⟨t128, A100, H⟩ := H
      replace H : (if t128 = true then (some (a0_1 == 0)) else (some false)) = some r := H
      have A10 := Aside0.mk A100
      clear A100
      by_cases c11 : t128 = true
      · subst c11
        have H1 : (some (a0_1 == 0)) = some r := by rw [if_pos rfl] at H; exact H
        clear H
        have H := H1
        clear H1
        obtain rfl := Option.some.inj H
        go_enter Tryd.func38, Tryd.ntmps38
        go_wp2_with (first | ((with_reducible refine gate_dst (N := 1) rfl ?_); refine box_event ?hg (N := 1) ?hd (cs := #[.int .i64 a0_0, .int .i64 a0_1]) (t := 33) ?hr ?_; (case hd => rfl); (case hg => rfl); (case hr => first | (go_simp; done) | (go_simp; rfl)); intro gb125 hg w12 hbox hb; have n0_ := Aside0.mk (below_step (by repeat (first | (with_reducible first | exact HB.out | apply below_alloc | apply pw_below_drewN | apply below_drew1) | exact HB.out)) hb); have n1_ := Aside0.mk (hbox); have n2_ := Aside0.mk ((by rw [hg]; exact (below_size (by repeat (first | (with_reducible first | exact HB.out | apply below_alloc | apply pw_below_drewN | apply below_drew1) | exact HB.out))) : w.heap.size ≤ gb125)); have n3_ := Aside0.mk ((by rw [hg]; exact (below_size (by repeat (first | (with_reducible first | exact HB.out | apply below_alloc | apply pw_below_drewN | apply below_drew1) | exact HB.out))) : w.heap.size ≤ gb125)); clear HB; have HB := n0_; have BK125 := n1_; have GW125 := n2_; have GE125 := n3_; clear n0_ n1_ n2_ n3_; clear hb hbox hg; have hcz13_0 : w12.cell? ⟨gb125, 0, none⟩ = some (.int .i64 a0_0) := (blk_cell BK125.out 0).trans rfl; have hcz13_1 : w12.cell? ⟨gb125, 1, none⟩ = some (.int .i64 a0_1) := (blk_cell BK125.out 1).trans rfl; have hfz13_0 := blk_frozen BK125.out 0; have hfz13_1 := blk_frozen BK125.out 1) | ((with_reducible refine gate_callee (f := 32) rfl ?_); refine goesL_ (some 17) rfl rfl Tryd.func32 (by kernel_rfl) rfl #[.int .i64 a0_0, .int .i64 3, .int .i64 18] rfl (by (try simp only [List.map_toArray, List.map_cons, List.map_nil]); first | done | rfl | (simp only [List.length_drop, List.length_take]; rfl)) ?_; (with_reducible refine (lex_in.calls a0_0 3 18 true _ A10.out).mono ?_); rintro e w' ⟨rfl, ⟨nd, rfl⟩⟩; refine ⟨_, rfl, ?_⟩))
        go_ret
        exact ⟨by first | rfl | (simp [errW_none, errW_some] <;> rfl) | (simp [*, errW_none, errW_some] <;> rfl), by repeat (first | (with_reducible first | exact HB.out | apply below_alloc | apply pw_below_drewN | apply below_drew1 | refine below_set ?_ GE125.out) | exact HB.out)⟩
      · replace c11 := Bool.eq_false_iff.mpr c11
        subst c11
        have H1 : (some false) = some r := by rw [if_neg (show ¬ (false = true) by decide)] at H; exact H
        clear H
        have H := H1
        clear H1
        obtain rfl := Option.some.inj H
        go_enter Tryd.func38, Tryd.ntmps38
        go_wp2_with (first | ((with_reducible refine gate_dst (N := 1) rfl ?_); refine box_event ?hg (N := 1) ?hd (cs := #[.int .i64 a0_0, .int .i64 a0_1]) (t := 33) ?hr ?_; (case hd => rfl); (case hg => rfl); (case hr => first | (go_simp; done) | (go_simp; rfl)); intro gb125 hg w14 hbox hb; have n0_ := Aside0.mk (below_step (by repeat (first | (with_reducible first | exact HB.out | apply below_alloc | apply pw_below_drewN | apply below_drew1) | exact HB.out)) hb); have n1_ := Aside0.mk (hbox); have n2_ := Aside0.mk ((by rw [hg]; exact (below_size (by repeat (first | (with_reducible first | exact HB.out | apply below_alloc | apply pw_below_drewN | apply below_drew1) | exact HB.out))) : w.heap.size ≤ gb125)); have n3_ := Aside0.mk ((by rw [hg]; exact (below_size (by repeat (first | (with_reducible first | exact HB.out | apply below_alloc | apply pw_below_drewN | apply below_drew1) | exact HB.out))) : w.heap.size ≤ gb125)); clear HB; have HB := n0_; have BK125 := n1_; have GW125 := n2_; have GE125 := n3_; clear n0_ n1_ n2_ n3_; clear hb hbox hg; have hcz15_0 : w14.cell? ⟨gb125, 0, none⟩ = some (.int .i64 a0_0) := (blk_cell BK125.out 0).trans rfl; have hcz15_1 : w14.cell? ⟨gb125, 1, none⟩ = some (.int .i64 a0_1) := (blk_cell BK125.out 1).trans rfl; have hfz15_0 := blk_frozen BK125.out 0; have hfz15_1 := blk_frozen BK125.out 1) | ((with_reducible refine gate_callee (f := 32) rfl ?_); refine goesL_ (some 17) rfl rfl Tryd.func32 (by kernel_rfl) rfl #[.int .i64 a0_0, .int .i64 3, .int .i64 18] rfl (by (try simp only [List.map_toArray, List.map_cons, List.map_nil]); first | done | rfl | (simp only [List.length_drop, List.length_take]; rfl)) ?_; (with_reducible refine (lex_in.calls a0_0 3 18 false _ A10.out).mono ?_); rintro e w' ⟨rfl, ⟨nd, rfl⟩⟩; refine ⟨_, rfl, ?_⟩))
        go_ret
        exact ⟨by first | rfl | (simp [errW_none, errW_some] <;> rfl) | (simp [*, errW_none, errW_some] <;> rfl), by repeat (first | (with_reducible first | exact HB.out | apply below_alloc | apply pw_below_drewN | apply below_drew1 | refine below_set ?_ GE125.out) | exact HB.out)⟩

end Go.Proofs.YtikbgoppmailjaaDoor.H
-- Written by hp.py (a program of this session, over the kit's print.py), with hand-made contracts beside it.
namespace Go.Proofs.YtikbgoppmailjaaDoor.H
open Go.RowKit Go.Proofs.YtikbgoppmailjaaDoorW.PrintWords Go.Proofs.YtikbgoppmailjaaDoorW.PrintLast Go.Proofs.YtikbgoppmailjaaDoorW.PrintMore
attribute [local go_sem] max2_int min2_int max_two min_two max_three min_three max_four min_four   -- for this text's walks alone
set_option linter.unusedVariables false
set_option linter.unusedSimpArgs false

-- HANDMADE remontoir/lex.Text
/-! ### lex_Text: function 27 -/
open Go.HK
def goodB (k n : Int) : Bool := if k = 1 then decide (0 ≤ n ∧ n ≤ 2147483647) else if k = 2 then decide (0 ≤ n ∧ n ≤ 25) else (decide (3 ≤ k ∧ k ≤ 18) && n == 0)
theorem lexin_eq (a b c : Int) : lex_in.f a b c = some (decide (b ≤ a ∧ a ≤ c)) := by
  unfold lex_in.f
  by_cases h : a ≥ b
  · rw [if_pos h]; congr 1; rw [decide_eq_decide]; omega
  · rw [if_neg h]; congr 1; symm; rw [decide_eq_false_iff_not]; omega
theorem good_eq (k n : Int) : lex_Good.f k n = some (goodB k n) := by
  unfold lex_Good.f goodB
  simp only [lexin_eq, Option.bind_some]
  split
  · rfl
  · split
    · rfl
    · by_cases h : (3 ≤ k ∧ k ≤ 18)
      · simp [h]
      · simp [h]
def lex_Text.t (k n : Int) : ByteArray := if k = 1 then ⟨(itoaS n).toArray⟩ else if k = 2 then ⟨#[(97 + n).toNat.toUInt8]⟩ else lexT.getD k.toNat ⟨#[]⟩
def lex_Text.f (a0_0 a0_1 : Int) : Option (ByteArray × Bool) := some (if goodB a0_0 a0_1 = true then (lex_Text.t a0_0 a0_1, true) else (⟨#[]⟩, false))
theorem rune_str (n : Int) (h0 : 0 ≤ n) (h1 : n ≤ 25) (w : World) : (convert 21 9 (.int .i32 (97 + n))).run Tryd.prog w = .ok (.string ⟨#[(97 + n).toNat.toUInt8]⟩) w := by
  rcases (by omega : n = 0 ∨ n = 1 ∨ n = 2 ∨ n = 3 ∨ n = 4 ∨ n = 5 ∨ n = 6 ∨ n = 7 ∨ n = 8 ∨ n = 9 ∨ n = 10 ∨ n = 11 ∨ n = 12 ∨ n = 13 ∨ n = 14 ∨ n = 15 ∨ n = 16 ∨ n = 17 ∨ n = 18 ∨ n = 19 ∨ n = 20 ∨ n = 21 ∨ n = 22 ∨ n = 23 ∨ n = 24 ∨ n = 25) with rfl | rfl | rfl | rfl | rfl | rfl | rfl | rfl | rfl | rfl | rfl | rfl | rfl | rfl | rfl | rfl | rfl | rfl | rfl | rfl | rfl | rfl | rfl | rfl | rfl | rfl
  all_goals kernel_rfl
set_option maxRecDepth 100000 in
set_option maxHeartbeats 1000000 in
theorem lex_Text.calls (a0_0 a0_1 : Int) (r1 : ByteArray) (r2 : Bool) (w : World) (hT : Tabs w) (h : lex_Text.f a0_0 a0_1 = some (r1, r2)) :
    Calls Tryd.prog 27 #[.agg #[.int .i64 a0_0, .int .i64 a0_1]] w fun e w' => e = .returned (.tuple #[.string r1, .bool r2]) ∧ Below w.heap.size w w' := by
  have hb0 : Below w.heap.size w (w.alloc (.cells #[.int .i64 a0_0, .int .i64 a0_1] 33)) := (Below.refl _ _).alloc (Nat.le_refl _) _
  have hT1 : Tabs (w.alloc (.cells #[.int .i64 a0_0, .int .i64 a0_1] 33)) := hT.below hb0
  have HB0 := Aside0.mk hb0
  have HT := Aside0.mk hT1
  have hnot : ∀ (x : Bool) (w : World), (Op.unary .not (.bool x)).run Tryd.prog w = .ok (.bool (!x)) w := fun _ _ => rfl
  have hblk : (w.alloc (.cells #[.int .i64 a0_0, .int .i64 a0_1] 33)).heap[w.heap.size]? = some (.cells #[.int .i64 a0_0, .int .i64 a0_1] 33) := heap_alloc_last w _
  unfold lex_Text.f at h
  have hg := good_eq a0_0 a0_1
  clear hT hT1 hb0
  cases hG : goodB a0_0 a0_1
  · rw [hG] at h hg
    simp only [Bool.false_eq_true, if_false, Option.some.injEq, Prod.mk.injEq] at h
    obtain ⟨rfl, rfl⟩ := h
    have HG := Aside0.mk hg
    clear hg hG
    go_enter Tryd.func27, Tryd.ntmps27
    go_wp2_with (first | (go_at_call 38; refine (lex_Good.calls _ _ _ _ HG.out).mono ?_; rintro e w1 ⟨rfl, hb⟩; have HB := Aside0.mk (HB0.out.trans (hb.mono (HB0.out.size))); clear hb))
    go_ret2
    exact ⟨rfl, HB.out⟩
  · rw [hG] at h hg
    simp only [if_true, Option.some.injEq, Prod.mk.injEq] at h
    obtain ⟨rfl, rfl⟩ := h
    have HG := Aside0.mk hg
    unfold goodB at hG
    clear hg
    by_cases k1 : a0_0 = 1
    · subst k1
      rw [if_pos rfl] at hG
      have hn := of_decide_eq_true hG
      obtain ⟨n0, n1⟩ := hn
      clear hG
      go_enter Tryd.func27, Tryd.ntmps27
      go_wp2_with (first | (go_at_call 38; refine (lex_Good.calls _ _ _ _ HG.out).mono ?_; rintro e w1 ⟨rfl, hb⟩; have HB := Aside0.mk (HB0.out.trans (hb.mono (HB0.out.size))); have HT1 := Aside0.mk (HT.out.below hb); replace hblk := (hb.block _ (by simp)).trans hblk; clear hb HT; have hc1 := cell_of_row _ _ 0 _ _ _ hblk; have hc2 := cell_of_row _ _ 1 _ _ _ hblk) | (go_at_call 39; refine (itoaS_calls _ (by omega) (by omega) _ HT1.out).mono ?_; rintro e w2 ⟨rfl, hb⟩; have HB2 := Aside0.mk (HB.out.trans (hb.mono HB.out.size)); clear hb))
      go_ret2
      exact ⟨rfl, HB2.out⟩
    · rw [if_neg k1] at hG
      have k1b : (a0_0 == 1) = false := beq_eq_false_iff_ne.2 k1
      by_cases k2 : a0_0 = 2
      · subst k2
        rw [if_pos rfl] at hG
        have hn := of_decide_eq_true hG
        obtain ⟨n0, n1⟩ := hn
        have hr := rune_str a0_1 n0 n1
        clear hG k1
        go_enter Tryd.func27, Tryd.ntmps27
        go_wp2_with (first | (go_at_call 38; refine (lex_Good.calls _ _ _ _ HG.out).mono ?_; rintro e w1 ⟨rfl, hb⟩; have HB := Aside0.mk (HB0.out.trans (hb.mono (HB0.out.size))); replace hblk := (hb.block _ (by simp)).trans hblk; clear hb HT; have hc1 := cell_of_row _ _ 0 _ _ _ hblk; have hc2 := cell_of_row _ _ 1 _ _ _ hblk))
        go_ret2
        exact ⟨rfl, HB.out⟩
      · rw [if_neg k2] at hG
        have k2b : (a0_0 == 2) = false := beq_eq_false_iff_ne.2 k2
        obtain ⟨hk, hn⟩ := (Bool.and_eq_true _ _).mp hG
        obtain ⟨k3, k4⟩ := of_decide_eq_true hk
        obtain rfl : a0_1 = 0 := eq_of_beq hn
        obtain ⟨kn, rfl⟩ := Int.eq_ofNat_of_zero_le (show 0 ≤ a0_0 by omega)
        have hi := fun (W : World) => idxT W kn (by omega)
        have HR := Aside0.mk (show lex_Text.t (kn : Int) 0 = lexT.getD kn ⟨#[]⟩ by unfold lex_Text.t; rw [if_neg k1, if_neg k2]; rfl)
        generalize lexT.getD kn ⟨#[]⟩ = tx at *
        have HI := Aside0.mk hi
        clear hi hG hk hn k1 k2
        go_enter Tryd.func27, Tryd.ntmps27
        go_wp2_with (first | (go_at_call 38; refine (lex_Good.calls _ _ _ _ HG.out).mono ?_; rintro e w1 ⟨rfl, hb⟩; have HB := Aside0.mk (HB0.out.trans (hb.mono (HB0.out.size))); replace hblk := (hb.block _ (by simp)).trans hblk; clear hb HT; have hc1 := cell_of_row _ _ 0 _ _ _ hblk))
        have hi := HI.out
        have hlt := World.block_lt_of_cell? w1 _ hc1
        go_region_held3 (fun W => W.cell? ⟨w.heap.size, 0, none⟩ = some (.int .i64 kn) ∧ w.heap.size < W.heap.size)
          (first
            | go_keep
            | exact ⟨(hb3.cell hlt).trans hc1, Nat.lt_of_lt_of_le hlt hb3.size⟩)
          ((go_at_call 40; refine (lex_texts _).mono ?_; rintro e w3 ⟨rfl, hb3⟩))
        go_wp2
        go_ret2
        exact ⟨by rw [HR.out]; rfl, HB.out.trans (Below.trans (Below.drew (Below.refl _ _)) (Below.mono hb3 HB.out.size))⟩


end Go.Proofs.YtikbgoppmailjaaDoor.H
-- Written by hp.py (a program of this session, over the kit's print.py), with hand-made contracts beside it.
namespace Go.Proofs.YtikbgoppmailjaaDoor.H
open Go.RowKit Go.Proofs.YtikbgoppmailjaaDoorW.PrintWords Go.Proofs.YtikbgoppmailjaaDoorW.PrintLast Go.Proofs.YtikbgoppmailjaaDoorW.PrintMore
attribute [local go_sem] max2_int min2_int max_two min_two max_three min_three max_four min_four   -- for this text's walks alone
set_option linter.unusedVariables false
set_option linter.unusedSimpArgs false

-- HANDMADE strings.Join
/-! ### strings_Join: function 28 -/
def strings_Join.f (l0 : List ByteArray) (a1 : ByteArray) : Option ByteArray :=
  if (Lib.join (l0.map (·.data.toList)) a1.data.toList).length ≤ 140737488355328 ∧ l0.length ≤ 140737488355328 then some ⟨(Lib.join (l0.map (·.data.toList)) a1.data.toList).toArray⟩ else none
theorem strings_Join.calls (A0 : Option Addr) (c0 : Nat) (l0 : List ByteArray) (a1 : ByteArray) (r : ByteArray) (w : World) (hr0 : Kd.C Kd.string w A0 l0.length l0) (hc0 : l0.length ≤ c0) (h : strings_Join.f l0 a1 = some r) :
    Calls Tryd.prog 28 #[.slice A0 l0.length c0, .string a1] w fun e w' => e = .returned (.string r) ∧ Below w.heap.size w w' := by
  unfold strings_Join.f at h
  by_cases hc : (Lib.join (l0.map (·.data.toList)) a1.data.toList).length ≤ 140737488355328 ∧ l0.length ≤ 140737488355328
  · rw [if_pos hc] at h
    obtain rfl := Option.some.inj h
    by_cases h0 : l0 = []
    · subst h0
      exact (Tryd.strings_Join_none A0 c0 a1 w).mono fun e w' ⟨he, hw⟩ => ⟨he, hw ▸ Below.refl _ _⟩
    · have hpos : 0 < l0.length := by cases l0 with | nil => exact absurd rfl h0 | cons a l => simp
      obtain ⟨ad, rfl, hcell⟩ := Kd.at_string hr0 0 (by omega) (by omega)
      obtain ⟨b, o, sp⟩ := ad
      have hsp : sp = none := by
        cases sp with
        | none => rfl
        | some q =>
          have : w.cell? ((⟨b, o, some q⟩ : Addr).add (0 : Int).toNat) = none := by
            show w.cell? ⟨b, o, some q⟩ = none
            unfold World.cell?
            split <;> simp
          rw [this] at hcell
          cases hcell
      subst hsp
      have hbk : b < w.heap.size := World.block_lt_of_cell? w _ hcell
      refine Tryd.strings_Join b o c0 l0 a1 w ?_ hbk hc.2 hc0 hc.1
      intro j x hx
      have hj : j < l0.length := by
        rcases Nat.lt_or_ge j l0.length with h1 | h1
        · exact h1
        · rw [List.getElem?_eq_none h1] at hx; cases hx
      obtain ⟨ad2, e2, hcell2⟩ := Kd.at_string hr0 (j : Int) (by omega) (by omega)
      obtain rfl := Option.some.inj e2
      have e3 : (⟨b, o, none⟩ : Addr).add ((j : Int)).toNat = ⟨b, o + j, none⟩ := by
        unfold Addr.add
        split
        · rename_i h2; simp at h2; subst h2; rfl
        · simp
      rw [e3] at hcell2
      rw [hcell2]
      simp [rdOf, List.getD, hx]
  · rw [if_neg hc] at h
    exact absurd h (by simp)


end Go.Proofs.YtikbgoppmailjaaDoor.H
-- Written by hp.py (a program of this session, over the kit's print.py), with hand-made contracts beside it.
namespace Go.Proofs.YtikbgoppmailjaaDoor.H
open Go.RowKit Go.Proofs.YtikbgoppmailjaaDoorW.PrintWords Go.Proofs.YtikbgoppmailjaaDoorW.PrintLast Go.Proofs.YtikbgoppmailjaaDoorW.PrintMore
attribute [local go_sem] max2_int min2_int max_two min_two max_three min_three max_four min_four   -- for this text's walks alone
set_option linter.unusedVariables false
set_option linter.unusedSimpArgs false

/-! ### lex_Print: function 16 -/
def lex_Print.l0 : Nat → List ByteArray → List (S33) → Int → Int → Option (ByteArray × Bool)
  | 0, _, _, _, _ => none
  | k + 1, x4, x9, x10, x11 => if x11 < x10 then (if 0 ≤ x11 then (if x11 < (x9.length : Int) then ((lex_Text.f ((rd_T33 x9 x11).f0) ((rd_T33 x9 x11).f1)).bind fun bt131 => (if bt131.2 = true then (if x4.length < 8796093022208 then (lex_Print.l0 k (x4 ++ [bt131.1]) x9 x10 (wrap64 (x11 + 1))) else (none)) else (some ((⟨#[]⟩ : ByteArray), false)))) else (none)) else (none)) else ((strings_Join.f x4 (⟨#[32]⟩ : ByteArray)).bind fun t136 => (some (t136, true)))
def lex_Print.f (k : Nat) (l0 : List (S33)) : Option (ByteArray × Bool) := lex_Print.l0 k ([] : List ByteArray) l0 (l0.length : Int) 0
theorem lex_Print.mono_l : ∀ k, (∀ y0 y1 y2 y3, LeO (lex_Print.l0 k y0 y1 y2 y3) (lex_Print.l0 (k + 1) y0 y1 y2 y3))
  | 0 => fun _ _ _ _ r h => by simp [lex_Print.l0] at h
  | k + 1 => by
    have ih0 := lex_Print.mono_l k
    · intro y0 y1 y2 y3
      unfold lex_Print.l0
      repeat' first
      | (with_reducible exact ih0 _ _ _ _)
      | (with_reducible exact LeO.refl _)
      | (with_reducible exact LeO.none _)
      | (with_reducible refine LeO.ite ?_ ?_)
      | (with_reducible refine LeO.bind ?_ (fun _ => ?_))
      | exact ih0 _ _ _ _
      | exact LeO.none _
      | refine LeO.ite ?_ ?_
      | refine LeO.bind ?_ (fun _ => ?_)
theorem lex_Print.mono : ∀ a0 k, LeO (lex_Print.f k a0) (lex_Print.f (k + 1) a0) := by
  intro a0 k
  have ih0 := lex_Print.mono_l k
  unfold lex_Print.f
  repeat' first
      | (with_reducible exact ih0 _ _ _ _)
      | (with_reducible exact LeO.refl _)
      | (with_reducible exact LeO.none _)
      | (with_reducible refine LeO.ite ?_ ?_)
      | (with_reducible refine LeO.bind ?_ (fun _ => ?_))
      | exact ih0 _ _ _ _
      | exact LeO.none _
      | refine LeO.ite ?_ ?_
      | refine LeO.bind ?_ (fun _ => ?_)
set_option maxHeartbeats 8000000 in
set_option maxRecDepth 100000 in
theorem lex_Print.calls (k : Nat) (A0 : Option Addr) (c0 : Nat) (l0 : List (S33)) (r1 : ByteArray) (r2 : Bool) (w : World) (hr0 : Kd.C k33 w A0 l0.length l0) (hc0 : l0.length ≤ c0) (hT : Tabs w) (h : lex_Print.f k l0 = some (r1, r2)) :
    Calls Tryd.prog 16 #[.slice A0 l0.length c0] w fun e w' => e = .returned (.tuple #[.string r1, .bool r2]) ∧ Below w.heap.size w w' := by
  have hu33 := Tryd.underlying33
  have HR0 := Aside0.mk hr0
  have HC0 := Aside0.mk hc0
  clear hr0 hc0
  have HB := Aside0.mk (Below.refl w.heap.size w)
  have H : (lex_Print.l0 k ([] : List ByteArray) l0 (l0.length : Int) 0) = some (r1, r2) := h
  clear h
  have H' := Aside0.mk H
  clear H
  go_enter Tryd.func16, Tryd.ntmps16
  go_wp2
  go_loopg [4, 11] k (fun kq v4 v11 w' => ∃ (x4_1 : List ByteArray) (x11_1 : Int), v11 = .int .i64 x11_1 ∧ Aside0 (lex_Print.l0 kq x4_1 l0 (l0.length : Int) x11_1 = some (r1, r2)) ∧ Aside0 (kq ≤ k) ∧ Aside0 (Kd.R Kd.string 9 w' w.heap.size (fun _ => True) v4 x4_1) ∧ Aside0 (Below w.heap.size w w'))
  case atStart => exact ⟨(([] : List ByteArray)), (0), (by first | rfl | (simp; done) | (simp [*]; done)), H', ⟨Nat.le_refl _⟩, ⟨by first | exact Kd.R_nil _ _ _ _ _ | exact Kd.N_nil _ _ _ _ _ | exact Kd.V_nil _ _ _ _ _ | exact Kd.Q_nil _ _ _ _ _ | exact Kd.S_nil _ _ _ _ _⟩, ⟨by repeat (first | (with_reducible first | exact HB.out | apply below_alloc | apply pw_below_drewN | apply below_drew1) | exact HB.out)⟩⟩
  case round =>
    clear H'
    try clear c1
    obtain ⟨x4_1, x11_1, rfl, HA, HK1, HO_4, HB⟩ := hrel
    cases gk with
    | zero => exact absurd HA.out (by simp [lex_Print.l0])
    | succ k1 =>
      have H := HA.out
      clear HA
      simp only [lex_Print.l0] at H
      by_cases c2 : x11_1 < (l0.length : Int)
      · rw [if_pos c2] at H
        have c2b0 : decide (x11_1 < (l0.length : Int)) = true := decide_eq_true c2
        clear c2
        by_cases c3 : 0 ≤ x11_1
        · rw [if_pos c3] at H
          have c3b0 : decide (0 ≤ x11_1) = true := decide_eq_true c3
          clear c3
          by_cases c4 : x11_1 < (l0.length : Int)
          · rw [if_pos c4] at H
            have c4b0 : decide (x11_1 < (l0.length : Int)) = true := decide_eq_true c4
            clear c4
            replace H := Option.bind_eq_some_iff.mp H
            obtain ⟨⟨t131, t132⟩, A50, H⟩ := H
            replace H : (if t132 = true then (if x4_1.length < 8796093022208 then (lex_Print.l0 k1 (x4_1 ++ [t131]) l0 (l0.length : Int) (wrap64 (x11_1 + 1))) else (none)) else (some ((⟨#[]⟩ : ByteArray), false))) = some (r1, r2) := H
            have A5 := Aside0.mk A50
            clear A50
            by_cases c6 : t132 = true
            · subst c6
              have H1 : (if x4_1.length < 8796093022208 then (lex_Print.l0 k1 (x4_1 ++ [t131]) l0 (l0.length : Int) (wrap64 (x11_1 + 1))) else (none)) = some (r1, r2) := by rw [if_pos rfl] at H; exact H
              clear H
              have H := H1
              clear H1
              by_cases c7 : x4_1.length < 8796093022208
              · rw [if_pos c7] at H
                have LMc7 := Aside0.mk c7
                clear c7
                obtain ⟨y133, hy133⟩ : ∃ y_ : List ByteArray, y_ = (x4_1 ++ [t131]) := ⟨_, rfl⟩
                replace H : (lex_Print.l0 k1 y133 l0 (l0.length : Int) (wrap64 (x11_1 + 1))) = some (r1, r2) := by first | (rw [hy133]; with_reducible exact H) | (have H2_ := (Option.bind_some _ _).symm.trans H; rw [hy133]; with_reducible exact H2_) | (have H2_ := (Option.bind_some _ _).symm.trans H; with_reducible exact H2_) | with_reducible exact H | (rw [hy133]; exact H) | exact H
                have Ny133 := Aside0.mk hy133
                clear hy133
                have H' := Aside0.mk H
                clear H
                have p129 : 0 ≤ (x11_1 : Int) := of_decide_eq_true (by first | (with_reducible assumption) | assumption)
                have q129 : x11_1 < (l0.length : Int) := of_decide_eq_true (by first | (with_reducible assumption) | assumption)
                obtain ⟨ad129, e129, hx129_0, hx129_1⟩ := at_T33 HR0.out x11_1 p129 q129
                cases e129
                replace hx129_0 := (HB.out.cell (World.block_lt_of_cell? w _ hx129_0)).trans hx129_0
                replace hx129_1 := (HB.out.cell (World.block_lt_of_cell? w _ hx129_1)).trans hx129_1
                replace p129 := eq_true p129
                replace q129 := eq_true q129
                go_wp2_with (first | ((with_reducible refine gate_dst (N := 6) rfl ?_); refine box_event ?hg (N := 6) ?hd (cs := #[.int .i64 0, .int .i64 0]) (t := 33) ?hr ?_; (case hd => rfl); (case hg => rfl); (case hr => first | (go_simp; done) | (go_simp; rfl)); intro gb130 hg w8 hbox hb; have n0_ := Aside0.mk (Kd.R_below (by (with_reducible repeat (first | apply Kd.R_alloc | apply Kd.R_drewN | apply Kd.R_drew)); exact HO_4.out) hb); have n1_ := Aside0.mk (below_step (by repeat (first | (with_reducible first | exact HB.out | apply below_alloc | apply pw_below_drewN | apply below_drew1) | exact HB.out)) hb); have n2_ := Aside0.mk (hbox); have n3_ := Aside0.mk ((by rw [hg]; exact (below_size (by repeat (first | (with_reducible first | exact HB.out | apply below_alloc | apply pw_below_drewN | apply below_drew1) | exact HB.out))) : w.heap.size ≤ gb130)); have n4_ := Aside0.mk ((by rw [hg]; exact (below_size (by repeat (first | (with_reducible first | exact HB.out | apply below_alloc | apply pw_below_drewN | apply below_drew1) | exact HB.out))) : w.heap.size ≤ gb130)); clear HO_4; clear HB; have HO_4 := n0_; have HB := n1_; have BK130 := n2_; have GW130 := n3_; have GE130 := n4_; clear n0_ n1_ n2_ n3_ n4_; clear hb hbox hg; have hcz9_0 : w8.cell? ⟨gb130, 0, none⟩ = some (.int .i64 0) := (blk_cell BK130.out 0).trans rfl; have hcz9_1 : w8.cell? ⟨gb130, 1, none⟩ = some (.int .i64 0) := (blk_cell BK130.out 1).trans rfl; have hfz9_0 := blk_frozen BK130.out 0; have hfz9_1 := blk_frozen BK130.out 1) | ((with_reducible refine gate_callee (f := 27) rfl ?_); refine goesL_ (some 17) rfl rfl Tryd.func27 (by kernel_rfl) rfl #[.agg #[.int .i64 ((rd_T33 l0 x11_1).f0), .int .i64 ((rd_T33 l0 x11_1).f1)]] rfl (by (try simp only [List.map_toArray, List.map_cons, List.map_nil]); first | done | rfl | (simp only [List.length_drop, List.length_take]; rfl)) ?_; (with_reducible refine (lex_Text.calls ((rd_T33 l0 x11_1).f0) ((rd_T33 l0 x11_1).f1) t131 true _ (Tabs.below hT (by repeat (first | (with_reducible first | exact HB.out | apply below_alloc | apply pw_below_drewN | apply below_drew1 | refine below_set ?_ GE130.out) | exact HB.out))) A5.out).mono ?_); rintro e w10 ⟨rfl, hb⟩; refine ⟨_, rfl, ?_⟩; have n0_ := Aside0.mk (Kd.R_below (by (with_reducible repeat (first | apply Kd.R_alloc | apply Kd.R_drewN | apply Kd.R_drew)); exact (Kd.R_mono (Kd.R_far (p := ⟨gb130, 1, none⟩) (Kd.R_far (p := ⟨gb130, 0, none⟩) (Kd.R_types HO_4.out BK130.out (by decide)) (fun _ hk => hk.2) (.int .i64 ((rd_T33 l0 x11_1).f0))) (fun _ hk => hk.2) (.int .i64 ((rd_T33 l0 x11_1).f1))) (fun _ h_ => h_.1))) hb); have n1_ := Aside0.mk (blk_below (g := gb130) (o := .cells #[.int .i64 ((rd_T33 l0 x11_1).f0), .int .i64 ((rd_T33 l0 x11_1).f1)] 33 (0, 0)) (by (with_reducible repeat (first | refine blk_drewN ?_ _ | refine blk_drew ?_ | refine blk_alloc ?_ _)); refine blk_put (cs := #[.int .i64 ((rd_T33 l0 x11_1).f0), .int .i64 0]) ?_ 1 _ rfl; (with_reducible repeat (first | refine blk_drewN ?_ _ | refine blk_drew ?_ | refine blk_alloc ?_ _)); refine blk_put (cs := #[.int .i64 0, .int .i64 0]) ?_ 0 _ rfl; (with_reducible repeat (first | refine blk_drewN ?_ _ | refine blk_drew ?_ | refine blk_alloc ?_ _)); exact BK130.out) hb); have n2_ := Aside0.mk (below_step (by repeat (first | (with_reducible first | exact HB.out | apply below_alloc | apply pw_below_drewN | apply below_drew1 | refine below_set ?_ GE130.out) | exact HB.out)) hb); clear HO_4; clear BK130; clear HB; have HO_4 := n0_; have BK130 := n1_; have HB := n2_; clear n0_ n1_ n2_; (try clear hb); (try clear hb2); (try clear hk); (try clear hi)) | ((with_reducible refine gate_builtin (b := .append) (xs := #[.tmp 22, .tmp 24]) rfl ?_); at_builtin; refine Kd.R_append Kd.string (w0 := w) w.heap.size rfl (.tmp 22) (.tmp 24) 44 9 (.string ⟨#[]⟩) 16 rfl Tryd.underlying44 info9 rfl (by decide) (by omega) u4 x4_1 t131 [.string t131] (fun _ => True) (fun _ => False) rfl rfl ?aP (fun _ hk => hk.elim) ?aF ?aO ?aB ?aS ?aL ?_; (case aP => exact rfl); (case aB => exact (by repeat (first | (with_reducible first | exact HB.out | apply below_alloc | apply pw_below_drewN | apply below_drew1 | refine below_set ?_ GE130.out) | exact HB.out))); (case aF => exact (fun _ _ => trivial)); (case aO => exact (by (with_reducible repeat (first | apply Kd.R_alloc | apply Kd.R_drewN | apply Kd.R_drew)); exact HO_4.out)); (case aS => exact (below_size (by repeat (first | (with_reducible first | exact HB.out | apply below_alloc | apply pw_below_drewN | apply below_drew1 | refine below_set ?_ GE130.out) | exact HB.out)))); (case aL => have := LMc7.out; omega); intro v134 w11 ho hb hg hat; rw [← Ny133.out] at ho; have n0_ := Aside0.mk (blk_grown (g := gb130) (o := .cells #[.int .i64 ((rd_T33 l0 x11_1).f0), .int .i64 ((rd_T33 l0 x11_1).f1)] 33 (0, 0)) (by (with_reducible repeat (first | refine blk_drewN ?_ _ | refine blk_drew ?_ | refine blk_alloc ?_ _)); exact BK130.out) hg (Kd.R_ne HO_4.out BK130.out (by decide))); have n1_ := Aside0.mk (hb); have n2_ := Aside0.mk (ho); clear BK130; clear HB; clear HO_4; have BK130 := n0_; have HB := n1_; have HO135 := n2_; clear n0_ n1_ n2_; clear ho hb hg hat))
                go_roundg k1
                case measure => have := HK1.out; omega
                case rel => exact ⟨(y133), (wrap64 (x11_1 + 1)), (by first | rfl | (simp; done) | (simp [*]; done)), H', ⟨by have := HK1.out; omega⟩, ⟨by (with_reducible repeat (first | apply Kd.R_alloc | apply Kd.R_drewN | apply Kd.R_drew)); exact HO135.out⟩, ⟨by repeat (first | (with_reducible first | exact HB.out | apply below_alloc | apply pw_below_drewN | apply below_drew1 | refine below_set ?_ GE130.out) | exact HB.out)⟩⟩
              · rw [if_neg c7] at H
                exact absurd H (by simp)
            · replace c6 := Bool.eq_false_iff.mpr c6
              subst c6
              have H1 : (some ((⟨#[]⟩ : ByteArray), false)) = some (r1, r2) := by rw [if_neg (show ¬ (false = true) by decide)] at H; exact H
              clear H
              have H := H1
              clear H1
              simp only [Option.some.injEq, Prod.mk.injEq] at H
              obtain ⟨rfl, rfl⟩ := H
              have p129 : 0 ≤ (x11_1 : Int) := of_decide_eq_true (by first | (with_reducible assumption) | assumption)
              have q129 : x11_1 < (l0.length : Int) := of_decide_eq_true (by first | (with_reducible assumption) | assumption)
              obtain ⟨ad129, e129, hx129_0, hx129_1⟩ := at_T33 HR0.out x11_1 p129 q129
              cases e129
              replace hx129_0 := (HB.out.cell (World.block_lt_of_cell? w _ hx129_0)).trans hx129_0
              replace hx129_1 := (HB.out.cell (World.block_lt_of_cell? w _ hx129_1)).trans hx129_1
              replace p129 := eq_true p129
              replace q129 := eq_true q129
              go_wp2_with (first | ((with_reducible refine gate_dst (N := 6) rfl ?_); refine box_event ?hg (N := 6) ?hd (cs := #[.int .i64 0, .int .i64 0]) (t := 33) ?hr ?_; (case hd => rfl); (case hg => rfl); (case hr => first | (go_simp; done) | (go_simp; rfl)); intro gb130 hg w12 hbox hb; have n0_ := Aside0.mk (Kd.R_below (by (with_reducible repeat (first | apply Kd.R_alloc | apply Kd.R_drewN | apply Kd.R_drew)); exact HO_4.out) hb); have n1_ := Aside0.mk (below_step (by repeat (first | (with_reducible first | exact HB.out | apply below_alloc | apply pw_below_drewN | apply below_drew1) | exact HB.out)) hb); have n2_ := Aside0.mk (hbox); have n3_ := Aside0.mk ((by rw [hg]; exact (below_size (by repeat (first | (with_reducible first | exact HB.out | apply below_alloc | apply pw_below_drewN | apply below_drew1) | exact HB.out))) : w.heap.size ≤ gb130)); have n4_ := Aside0.mk ((by rw [hg]; exact (below_size (by repeat (first | (with_reducible first | exact HB.out | apply below_alloc | apply pw_below_drewN | apply below_drew1) | exact HB.out))) : w.heap.size ≤ gb130)); clear HO_4; clear HB; have HO_4 := n0_; have HB := n1_; have BK130 := n2_; have GW130 := n3_; have GE130 := n4_; clear n0_ n1_ n2_ n3_ n4_; clear hb hbox hg; have hcz13_0 : w12.cell? ⟨gb130, 0, none⟩ = some (.int .i64 0) := (blk_cell BK130.out 0).trans rfl; have hcz13_1 : w12.cell? ⟨gb130, 1, none⟩ = some (.int .i64 0) := (blk_cell BK130.out 1).trans rfl; have hfz13_0 := blk_frozen BK130.out 0; have hfz13_1 := blk_frozen BK130.out 1) | ((with_reducible refine gate_callee (f := 27) rfl ?_); refine goesL_ (some 17) rfl rfl Tryd.func27 (by kernel_rfl) rfl #[.agg #[.int .i64 ((rd_T33 l0 x11_1).f0), .int .i64 ((rd_T33 l0 x11_1).f1)]] rfl (by (try simp only [List.map_toArray, List.map_cons, List.map_nil]); first | done | rfl | (simp only [List.length_drop, List.length_take]; rfl)) ?_; (with_reducible refine (lex_Text.calls ((rd_T33 l0 x11_1).f0) ((rd_T33 l0 x11_1).f1) t131 false _ (Tabs.below hT (by repeat (first | (with_reducible first | exact HB.out | apply below_alloc | apply pw_below_drewN | apply below_drew1 | refine below_set ?_ GE130.out) | exact HB.out))) A5.out).mono ?_); rintro e w14 ⟨rfl, hb⟩; refine ⟨_, rfl, ?_⟩; have n0_ := Aside0.mk (Kd.R_below (by (with_reducible repeat (first | apply Kd.R_alloc | apply Kd.R_drewN | apply Kd.R_drew)); exact (Kd.R_mono (Kd.R_far (p := ⟨gb130, 1, none⟩) (Kd.R_far (p := ⟨gb130, 0, none⟩) (Kd.R_types HO_4.out BK130.out (by decide)) (fun _ hk => hk.2) (.int .i64 ((rd_T33 l0 x11_1).f0))) (fun _ hk => hk.2) (.int .i64 ((rd_T33 l0 x11_1).f1))) (fun _ h_ => h_.1))) hb); have n1_ := Aside0.mk (blk_below (g := gb130) (o := .cells #[.int .i64 ((rd_T33 l0 x11_1).f0), .int .i64 ((rd_T33 l0 x11_1).f1)] 33 (0, 0)) (by (with_reducible repeat (first | refine blk_drewN ?_ _ | refine blk_drew ?_ | refine blk_alloc ?_ _)); refine blk_put (cs := #[.int .i64 ((rd_T33 l0 x11_1).f0), .int .i64 0]) ?_ 1 _ rfl; (with_reducible repeat (first | refine blk_drewN ?_ _ | refine blk_drew ?_ | refine blk_alloc ?_ _)); refine blk_put (cs := #[.int .i64 0, .int .i64 0]) ?_ 0 _ rfl; (with_reducible repeat (first | refine blk_drewN ?_ _ | refine blk_drew ?_ | refine blk_alloc ?_ _)); exact BK130.out) hb); have n2_ := Aside0.mk (below_step (by repeat (first | (with_reducible first | exact HB.out | apply below_alloc | apply pw_below_drewN | apply below_drew1 | refine below_set ?_ GE130.out) | exact HB.out)) hb); clear HO_4; clear BK130; clear HB; have HO_4 := n0_; have BK130 := n1_; have HB := n2_; clear n0_ n1_ n2_; (try clear hb); (try clear hb2); (try clear hk); (try clear hi)))
              go_ret2
              exact ⟨by first | rfl | (simp [errW_none, errW_some] <;> rfl) | (simp [*, errW_none, errW_some] <;> rfl), by repeat (first | (with_reducible first | exact HB.out | apply below_alloc | apply pw_below_drewN | apply below_drew1 | refine below_set ?_ GE130.out) | exact HB.out)⟩
          · rw [if_neg c4] at H
            exact absurd H (by simp)
        · rw [if_neg c3] at H
          exact absurd H (by simp)
      · rw [if_neg c2] at H
        have c2b0 : decide (x11_1 < (l0.length : Int)) = false := decide_eq_false c2
        clear c2
        replace H := Option.bind_eq_some_iff.mp H
        obtain ⟨t136, A150, H⟩ := H
        replace H : (some (t136, true)) = some (r1, r2) := H
        have A15 := Aside0.mk A150
        clear A150
        simp only [Option.some.injEq, Prod.mk.injEq] at H
        obtain ⟨rfl, rfl⟩ := H
        obtain ⟨Ao16, co16, eo16⟩ := Kd.R_slice HO_4.out
        subst eo16
        go_wp2_with (first | ((with_reducible refine gate_callee (f := 28) rfl ?_); refine goesL_ (some 28) rfl rfl Tryd.func28 (by kernel_rfl) rfl #[.slice Ao16 x4_1.length co16, .string (⟨#[32]⟩ : ByteArray)] rfl (by (try simp only [List.map_toArray, List.map_cons, List.map_nil]); first | done | rfl | (simp only [List.length_drop, List.length_take]; rfl)) ?_; (with_reducible refine (strings_Join.calls _ _ x4_1 (⟨#[32]⟩ : ByteArray) t136 _ ?side1 ?side2 A15.out).mono ?_); (case side1 => repeat (first | exact (Kd.R_reads' HO_4.out).2.2 | (with_reducible refine Kd.C_alloc ?_ _) | (with_reducible refine Kd.C_drewN ?_ _) | (with_reducible refine Kd.C_drew ?_))); (case side2 => exact (Kd.R_reads' HO_4.out).2.1); rintro e w17 ⟨rfl, hb⟩; refine ⟨_, rfl, ?_⟩; have n0_ := Aside0.mk (Kd.R_below (by (with_reducible repeat (first | apply Kd.R_alloc | apply Kd.R_drewN | apply Kd.R_drew)); exact HO_4.out) hb); have n1_ := Aside0.mk (below_step (by repeat (first | (with_reducible first | exact HB.out | apply below_alloc | apply pw_below_drewN | apply below_drew1) | exact HB.out)) hb); clear HO_4; clear HB; have HO_4 := n0_; have HB := n1_; clear n0_ n1_; (try clear hb); (try clear hb2); (try clear hk); (try clear hi)))
        go_ret2
        exact ⟨by first | rfl | (simp [errW_none, errW_some] <;> rfl) | (simp [*, errW_none, errW_some] <;> rfl), by repeat (first | (with_reducible first | exact HB.out | apply below_alloc | apply pw_below_drewN | apply below_drew1) | exact HB.out)⟩

end Go.Proofs.YtikbgoppmailjaaDoor.H
/- Guards as trees; how they stand between; what stands between is read as it was. -/
namespace Go.Proofs.YtikbgoppmailjaaDoor.Pure
open Go.Proofs.YtikbgoppmailjaaDoor.H
set_option linter.unusedVariables false
set_option linter.unusedSimpArgs false
inductive Tr
  | lf (k n : Int)
  | un (k : Int) (a : Tr)
  | bi (k : Int) (a b : Tr)
namespace Tr
def kind : Tr → Int
  | lf k _ => k
  | un k _ => k
  | bi k _ _ => k
def post : Tr → List S33
  | lf k n => [⟨k, n⟩]
  | un k a => a.post ++ [⟨k, 0⟩]
  | bi k a b => a.post ++ b.post ++ [⟨k, 0⟩]
end Tr
/-- The brackets about a thing of a kind, in one of another: none, ( ), [ ]. -/
def brk (of kind : Int) (sec : Bool) : Int × Int :=
  if (kind = 13 ∧ (of = 12 ∨ of = 14 ∨ (of = 13 ∧ sec = true))) ∨ (kind = 12 ∧ (of = 14 ∨ (of = 12 ∧ sec = true))) then (15, 16)
  else if ((kind = 3 ∨ kind = 4) ∧ (of = 5 ∨ of = 19 ∨ ((of = 3 ∨ of = 4) ∧ sec = true))) ∨ (kind = 5 ∧ (of = 19 ∨ (of = 5 ∧ sec = true))) then (17, 18)
  else (0, 0)
def wr (of kind : Int) (sec : Bool) (x : List S33) : List S33 :=
  if (brk of kind sec).1 = 0 then x else ⟨(brk of kind sec).1, 0⟩ :: (x ++ [⟨(brk of kind sec).2, 0⟩])
def Tr.sh : Tr → List S33
  | .lf k n => [⟨k, n⟩]
  | .un k a => ⟨if k = 19 then 4 else k, 0⟩ :: wr k a.kind false a.sh
  | .bi k a b => wr k a.kind false a.sh ++ ⟨k, 0⟩ :: wr k b.kind true b.sh
inductive Wf : Bool → Tr → Prop
  | num (n : Int) : 0 ≤ n → n ≤ 2147483647 → Wf false (.lf 1 n)
  | name (n : Int) : 0 ≤ n → n < 26 → Wf false (.lf 2 n)
  | neg {a} : Wf false a → Wf false (.un 19 a)
  | op {a b} (k : Int) : 3 ≤ k → k ≤ 5 → Wf false a → Wf false b → Wf false (.bi k a b)
  | cmp {a b} (k : Int) : 6 ≤ k → k ≤ 11 → Wf false a → Wf false b → Wf true (.bi k a b)
  | con {a b} (k : Int) : (k = 12 ∨ k = 13) → Wf true a → Wf true b → Wf true (.bi k a b)
  | nt {a} : Wf true a → Wf true (.un 14 a)
/-- Signs that are read whole at a level, and how they lie behind then. -/
def Rd (lev : Nat) (x p : List S33) : Prop := ∃ k, PF k lev (x, []) = some (some ([], p))
theorem Rd.up {lev lev2 : Nat} {ks : List Int} (hs : ∀ k st, PF (k + 1) lev st = rowF (PF k lev2) ks k st) {x p : List S33} (h : Rd lev2 x p) : Rd lev x p := up_end hs h
theorem Rd.ahead {lev : Nat} {x p : List S33} (h : Rd lev x p) (q : List S33) : ∃ k, PF k lev (x, q) = some (some ([], q ++ p)) := by
  obtain ⟨k, hk⟩ := h
  have := acc q k lev x [] _ hk
  rw [List.append_nil] at this
  exact ⟨k, this⟩
theorem Rd.then_ {lev : Nat} {x p : List S33} (h : Rd lev x p) (c : S33) (hc : OKc lev c.f0) (r q : List S33) : ∃ k, PF k lev (x ++ c :: r, q) = some (some (c :: r, q ++ p)) := by
  obtain ⟨k, hk⟩ := h
  have h1 := ext c r k lev x [] [] p hk (fun _ => hc)
  have := acc q k lev _ [] _ h1
  rw [List.append_nil] at this
  exact ⟨k, this⟩
/-- Over one sign of a row's, behind what may be such a row already. -/
theorem Rd.join {lev lev2 : Nat} {ks : List Int} (hs : ∀ k st, PF (k + 1) lev st = rowF (PF k lev2) ks k st) {x p y q : List S33} {c : Int} (hc : ks.contains c = true) (okc : OKc lev2 c)
    (h : Rd lev x p) (h2 : Rd lev2 y q) : Rd lev (x ++ ⟨c, 0⟩ :: y) (p ++ q ++ [⟨c, 0⟩]) := by
  obtain ⟨k, hk⟩ := h
  cases k with
  | zero => cases hk
  | succ k =>
    rw [hs] at hk
    rcases rowF_some hk with ⟨_, h3⟩ | ⟨l1, o1, h3, h4⟩
    · cases h3
    · have hth : ∀ K, ∀ l o l' o', PF K lev2 (l, o) = some (some (l', o')) → PF K lev2 (l ++ (⟨c, 0⟩ : S33) :: y, o) = some (some (l' ++ (⟨c, 0⟩ : S33) :: y, o')) :=
        fun K l o l' o' q => ext _ _ K lev2 l o l' o' q (fun _ => okc)
      obtain ⟨k2, hk2⟩ := h2.ahead p
      have h5 := rowL_mono (PF k lev2) (PF (k + k2) lev2) ks (fun st r q => PF_mono (by omega) q) k k _ _ (Nat.le_refl _) h4
      have h6 : rowL (PF (k + k2) lev2) ks 2 ((⟨c, 0⟩ : S33) :: y, p) = some (some ([], p ++ q ++ [(⟨c, 0⟩ : S33)])) := by
        rw [rowL_go (a := (⟨c, 0⟩ : S33)) hc (PF_mono (by omega) hk2)]
        rfl
      have h7 := cont_row (hth (k + k2)) k l1 o1 p h5 2 _ h6
      refine ⟨k + k2 + 2 + 1, ?_⟩
      rw [hs, rowF_mk (PF_mono (by omega) (hth k _ _ _ _ h3))]
      exact rowL_mono (PF (k + k2) lev2) (PF (k + k2 + 2) lev2) ks (fun st r q => PF_mono (by omega) q) (k + 2) (k + k2 + 2) _ _ (by omega) h7
theorem hs0 (k : Nat) (st : ST) : PF (k + 1) 0 st = rowF (PF k 1) [13] k st := rfl
theorem hs1 (k : Nat) (st : ST) : PF (k + 1) 1 st = rowF (PF k 2) [12] k st := rfl
theorem hs3 (k : Nat) (st : ST) : PF (k + 1) 3 st = rowF (PF k 4) [3, 4] k st := rfl
theorem hs4 (k : Nat) (st : ST) : PF (k + 1) 4 st = rowF (PF k 5) [5] k st := rfl
/-- From which level on a truth, a number of a kind can be read. -/
def levT (k : Int) : Nat := if k = 13 then 0 else if k = 12 then 1 else 2
def levN (k : Int) : Nat := if k = 3 ∨ k = 4 then 3 else if k = 5 then 4 else 5
theorem sh_len {b : Bool} {t : Tr} (h : Wf b t) : t.sh.length + 2 ≤ 3 * t.post.length ∧ 1 ≤ t.post.length := by
  have hwr : ∀ of kind sec (x : List S33), (wr of kind sec x).length ≤ x.length + 2 := by
    intro of kind sec x
    unfold wr
    split
    · omega
    · simp
  induction h with
  | num n => exact ⟨Nat.le_refl 3, Nat.le_refl 1⟩
  | name n => exact ⟨Nat.le_refl 3, Nat.le_refl 1⟩
  | @neg a _ ih =>
    have := hwr 19 a.kind false a.sh
    simp only [Tr.sh, Tr.post, List.length_cons, List.length_append, List.length_nil]
    omega
  | @op a b k _ _ _ _ i1 i2 =>
    have h1 := hwr k a.kind false a.sh
    have h2 := hwr k b.kind true b.sh
    simp only [Tr.sh, Tr.post, List.length_cons, List.length_append, List.length_nil]
    omega
  | @cmp a b k _ _ _ _ i1 i2 =>
    have h1 := hwr k a.kind false a.sh
    have h2 := hwr k b.kind true b.sh
    simp only [Tr.sh, Tr.post, List.length_cons, List.length_append, List.length_nil]
    omega
  | @con a b k _ _ _ i1 i2 =>
    have h1 := hwr k a.kind false a.sh
    have h2 := hwr k b.kind true b.sh
    simp only [Tr.sh, Tr.post, List.length_cons, List.length_append, List.length_nil]
    omega
  | @nt a _ ih =>
    have := hwr 14 a.kind false a.sh
    simp only [Tr.sh, Tr.post, List.length_cons, List.length_append, List.length_nil]
    omega
end Go.Proofs.YtikbgoppmailjaaDoor.Pure
/- guard.Print: the tree of nodes, and their signs. -/
namespace Go.Proofs.YtikbgoppmailjaaDoor.H
open Go.RowKit Go.HK Go.Proofs.YtikbgoppmailjaaDoorW.PrintWords Go.Proofs.YtikbgoppmailjaaDoorW.PrintLast Go.Proofs.YtikbgoppmailjaaDoorW.PrintMore
set_option linter.unusedVariables false
set_option linter.unusedSimpArgs false
theorem bracket_brk (of kind : Int) (sec : Bool) : guard_bracket.f 4 of kind sec = some (Pure.brk of kind sec) := by
  have sum3 : ∀ x : Int, guard_sums.f x = some (decide (x = 3 ∨ x = 4)) := by
    intro x
    unfold guard_sums.f
    by_cases h : x = 3
    · rw [if_pos h, decide_eq_true (Or.inl h)]
    · rw [if_neg h]
      by_cases h4 : x = 4
      · subst h4; rfl
      · rw [decide_eq_false (fun q => q.elim h h4), beq_eq_false_iff_ne.2 h4]
  have j2 : ∀ b, guard_bracket.j2 1 of kind sec b = some (if b = true ∨ (kind = 5 ∧ (of = 19 ∨ (of = 5 ∧ sec = true))) then (17, 18) else (0, 0)) := by
    intro b
    simp only [guard_bracket.j2]
    cases b
    · by_cases h5 : kind = 5
      · by_cases h19 : of = 19
        · simp [h5, h19]
        · by_cases h55 : of = 5
          · cases sec <;> simp [h5, h55]
          · simp [h5, h19, h55]
      · simp [h5]
    · simp
  have j1 : ∀ b, guard_bracket.j1 2 of kind sec b = some (if b = true then (15, 16) else if ((kind = 3 ∨ kind = 4) ∧ (of = 5 ∨ of = 19 ∨ ((of = 3 ∨ of = 4) ∧ sec = true))) ∨ (kind = 5 ∧ (of = 19 ∨ (of = 5 ∧ sec = true))) then (17, 18) else (0, 0)) := by
    intro b
    simp only [guard_bracket.j1, sum3, Option.bind_some, j2]
    cases b
    · by_cases hk : kind = 3 ∨ kind = 4
      · by_cases h5 : of = 5
        · simp [hk, h5]
        · by_cases h19 : of = 19
          · simp [hk, h5, h19]
          · by_cases h34 : of = 3 ∨ of = 4
            · cases sec <;> simp [hk, h5, h19, h34]
            · simp [hk, h5, h19, h34]
      · simp [hk]
    · simp
  have j0 : ∀ b, guard_bracket.j0 3 of kind sec b = some (if b = true ∨ (kind = 12 ∧ (of = 14 ∨ (of = 12 ∧ sec = true))) then (15, 16) else if ((kind = 3 ∨ kind = 4) ∧ (of = 5 ∨ of = 19 ∨ ((of = 3 ∨ of = 4) ∧ sec = true))) ∨ (kind = 5 ∧ (of = 19 ∨ (of = 5 ∧ sec = true))) then (17, 18) else (0, 0)) := by
    intro b
    simp only [guard_bracket.j0, j1]
    cases b
    · by_cases hk : kind = 12
      · by_cases h14 : of = 14
        · simp [hk, h14]
        · by_cases h12 : of = 12
          · cases sec <;> simp [hk, h12]
          · simp [hk, h14, h12]
      · simp [hk]
    · simp
  unfold guard_bracket.f Pure.brk
  have e4 : (4 : Nat) = 3 + 1 := rfl
  have m0 : ∀ b, guard_bracket.j0 4 of kind sec b = guard_bracket.j0 3 of kind sec b := by
    intro b
    have h3 := j0 b
    rw [h3]
    exact (guard_bracket.mono_l 3).1 of kind sec b _ h3
  simp only [m0, j0]
  by_cases hk : kind = 13
  · by_cases h12 : of = 12
    · simp [hk, h12]
    · by_cases h14 : of = 14
      · simp [hk, h14]
      · by_cases h13 : of = 13
        · cases sec <;> simp [hk, h13]
        · simp [hk, h12, h14, h13]
  · simp [hk]
/-- A tree lies at a block. -/
def TrAt (w : World) : Nat → Pure.Tr → Prop
  | g, .lf k n => w.heap[g]? = some (.cells #[.int .i64 k, .int .i64 n, .pointer none, .pointer none] 51 (0, 0))
  | g, .un k a => ∃ ga, w.heap[g]? = some (.cells #[.int .i64 k, .int .i64 0, .pointer (some ⟨ga, 0, none⟩), .pointer none] 51 (0, 0)) ∧ TrAt w ga a
  | g, .bi k a b => ∃ ga gb, w.heap[g]? = some (.cells #[.int .i64 k, .int .i64 0, .pointer (some ⟨ga, 0, none⟩), .pointer (some ⟨gb, 0, none⟩)] 51 (0, 0)) ∧ TrAt w ga a ∧ TrAt w gb b
theorem TrAt.move {w w1 : World} (h : ∀ (g : Nat) (cells : Array Value), w.heap[g]? = some (Obj.cells cells 51 (0, 0)) → w1.heap[g]? = some (Obj.cells cells 51 (0, 0))) : ∀ {t : Pure.Tr} {g : Nat}, TrAt w g t → TrAt w1 g t
  | .lf k n, g, q => h g _ q
  | .un k a, g, ⟨ga, q1, q2⟩ => ⟨ga, h g _ q1, TrAt.move h q2⟩
  | .bi k a b, g, ⟨ga, gb, q1, q2, q3⟩ => ⟨ga, gb, h g _ q1, TrAt.move h q2, TrAt.move h q3⟩
theorem TrAt.below {w w1 : World} (hb : Below w.heap.size w w1) {t : Pure.Tr} {g : Nat} (h : TrAt w g t) : TrAt w1 g t := TrAt.move (fun g _ q => (hb.block g (blk_lt q)).trans q) h
theorem TrAt.kind {w : World} {t : Pure.Tr} {g : Nat} (h : TrAt w g t) : w.cell? ⟨g, 0, none⟩ = some (.int .i64 t.kind) := by
  cases t with
  | lf k n => exact blk_cell h 0
  | un k a => obtain ⟨ga, q, _⟩ := h; exact blk_cell q 0
  | bi k a b => obtain ⟨ga, gb, q, _⟩ := h; exact blk_cell q 0
theorem TrAt.lt {w : World} {t : Pure.Tr} {g : Nat} (h : TrAt w g t) : g < w.heap.size := by
  cases t with
  | lf k n => exact blk_lt h
  | un k a => obtain ⟨ga, q, _⟩ := h; exact blk_lt q
  | bi k a b => obtain ⟨ga, gb, q, _⟩ := h; exact blk_lt q
/-- From w to w1 nothing of w turned but the row that was written, which is the one that it was, or new. -/
def Kp (w w1 : World) (v v1 : Value) : Prop := (∀ g, KeepBut w w1 g v.ownBlock) ∧ (v1.ownBlock = v.ownBlock ∨ ∃ q, v1.ownBlock = some q ∧ w.heap.size ≤ q)
/-- The row of signs that is being laid. -/
abbrev Row (w : World) (b : Nat) (v : Value) (out : List S33) : Prop := Kd.R k33 33 w b (fun _ => True) v out
theorem TrAt.kept {w w1 : World} {g b : Nat} {v : Value} {out : List S33} (hr : Row w b v out) (hk : KeepBut w w1 g v.ownBlock) {t0 : Nat} {cs : Array Value} (hg : w.heap[g]? = some (.cells cs t0 (0, 0))) (ht0 : t0 ≠ 51) {t : Pure.Tr} {gx : Nat} (h : TrAt w gx t) : TrAt w1 gx t :=
  TrAt.move (fun k cells q => (hk.2 k (blk_lt q) (by
    rintro rfl
    rw [hg] at q
    injection q with q
    injection q with _ q
    exact ht0 q) (Kd.R_ne hr q (by decide))).trans q) h
/-- What calling signs at a tree does. -/
def Can14 (t : Pure.Tr) : Prop := ∀ (b g : Nat) (v : Value) (w : World) (out : List S33), TrAt w g t → Row w b v out → b ≤ w.heap.size → out.length + 3 * t.sh.length ≤ 100000 →
  Calls Tryd.prog 17 #[.pointer (some ⟨g, 0, none⟩), v] w fun e w' => ∃ v', e = .returned v' ∧ Row w' b v' (out ++ t.sh) ∧ Below b w w' ∧ Kp w w' v v'
theorem out_stored {b po : Nat} {v v1 : Value} {w w1 : World} {out out1 : List S33} (ho : w.heap[po]? = some (.cells #[v] 22 (0, 0))) (hr : Row w b v out) (HO1 : Row w1 b v1 out1) (HB1 : Below b w w1) (hbo : b ≤ po) (HK : Kp w w1 v v1) :
    Mv b po v w v1 (w1.setCell ⟨po, 0, none⟩ v1) ∧ Row (w1.setCell ⟨po, 0, none⟩ v1) b v1 out1 ∧ (w1.setCell ⟨po, 0, none⟩ v1).heap[po]? = some (.cells #[v1] 22 (0, 0)) := by
  have hne : some po ≠ v.ownBlock := Kd.R_ne hr ho (by decide)
  have hb1 : w1.heap[po]? = some (.cells #[v] 22 (0, 0)) := ((HK.1 w.heap.size).2 po (blk_lt ho) (by have := blk_lt ho; omega) hne).trans ho
  exact ⟨⟨HB1.setCell hbo v1, (HK.1 po).set_ 0 v1, HK.2⟩, Kd.R_set HO1 hb1 (by decide) 0 v1, blk_set hb1 0 v1⟩
theorem Kp.of_grown {w w1 : World} {v v1 : Value} (hg : w.grownBy w1 v.ownBlock) (hat : v1.ownBlock = v.ownBlock ∨ ∃ q, v1.ownBlock = some q ∧ w.heap.size ≤ q) : Kp w w1 v v1 := ⟨fun g => KeepBut.of_grown hg g, hat⟩
end Go.Proofs.YtikbgoppmailjaaDoor.H
/- The walk of (*node).signs. -/
namespace Go.Proofs.YtikbgoppmailjaaDoor.H
open Go.RowKit Go.HK Go.Proofs.YtikbgoppmailjaaDoorW.PrintWords Go.Proofs.YtikbgoppmailjaaDoorW.PrintLast Go.Proofs.YtikbgoppmailjaaDoorW.PrintMore
set_option linter.unusedVariables false
set_option linter.unusedSimpArgs false
theorem row_sl {w : World} {b : Nat} {v : Value} {o : List S33} (h : Row w b v o) : ∃ A n c, v = .slice A n c := by
  obtain ⟨A, c, e⟩ := Kd.R_slice h
  exact ⟨A, _, c, e⟩
set_option maxRecDepth 100000 in
set_option maxHeartbeats 1600000 in
theorem part_none (x : Pure.Tr) (hx : Can14 x) {b : Nat} {w : World} {pn po g gx : Nat} {v : Value} {out : List S33} (sec : Bool) (of : Int)
    (hn : w.heap[pn]? = some (.cells #[.pointer (some ⟨g, 0, none⟩)] 49 (0, 0))) (ho : w.heap[po]? = some (.cells #[v] 22 (0, 0)))
    (hg : w.cell? ⟨g, 0, none⟩ = some (.int .i64 of)) (ht : TrAt w gx x) (hr : Row w b v out) (hb : b ≤ po) (hl : out.length + 3 * x.sh.length + 2 ≤ 100000) (hbr : Pure.brk of x.kind sec = (0, 0)) :
    Calls Tryd.prog 29 #[.pointer (some ⟨gx, 0, none⟩), .bool sec, .pointer (some ⟨pn, 0, none⟩), .pointer (some ⟨po, 0, none⟩)] w fun e w' =>
      ∃ v', e = .returned (.tuple #[]) ∧ Row w' b v' (out ++ x.sh) ∧ w'.heap[po]? = some (.cells #[v'] 22 (0, 0)) ∧ Mv b po v w v' w' := by
  have BR := Aside0.mk (show guard_bracket.f 4 of x.kind sec = some (0, 0) from (bracket_brk of x.kind sec).trans (congrArg some hbr))
  have hcn : w.cell? ⟨pn, 0, none⟩ = some (.pointer (some ⟨g, 0, none⟩)) := blk_cell hn 0
  have hco : w.cell? ⟨po, 0, none⟩ = some v := blk_cell ho 0
  have hcx := ht.kind
  have hlo : po < w.heap.size := blk_lt ho
  have HX := Aside0.mk hx
  have HO := Aside0.mk ho
  have HT := Aside0.mk ht
  have HR := Aside0.mk hr
  have HB := Aside0.mk hb
  have HL := Aside0.mk hl
  have HLO := Aside0.mk hlo
  clear hx ho ht hr hb hl hn hbr hlo
  go_enter Tryd.func29, Tryd.ntmps29
  go_wp2
  refine start_ (n := 17) (S := fun w' => w'.cell? ⟨pn, 0, none⟩ = some (.pointer (some ⟨g, 0, none⟩)) ∧ w'.cell? ⟨g, 0, none⟩ = some (.int .i64 of) ∧ w'.cell? ⟨gx, 0, none⟩ = some (.int .i64 x.kind)) (ds := []) #[false, false, false, false, false, false, false, false, false, false, false, false, false, false, false, false, false] (by kernel_rfl) rfl rfl ⟨hcn, hg, hcx⟩ (fun hHeld => ?_)
  refine pure_ (i := 5) (N := some 14) (v := ?_) (a' := ?_) #[false, false, false, false, false, true, false, false, false, false, false, false, false, false, false, false, false] rfl rfl (by kernel_rfl) (fun _ _ _ h => h) (Or.inl ⟨by rfl, ?_⟩) ?_ ?_
  rotate_left
  · intro w'
    go_simp
    with_reducible rfl
  rotate_left
  · simp only [Act.put, List.setIfInBounds_toArray, List.set_cons_zero, List.set_cons_succ, i64_w, i32_w]
    rfl
  refine pure_ (i := 6) (N := some 15) (v := ?_) (a' := ?_) #[false, false, false, false, false, true, true, false, false, false, false, false, false, false, false, false, false] rfl rfl (by kernel_rfl) (fun _ _ _ h => h) (Or.inl ⟨by rfl, ?_⟩) ?_ ?_
  rotate_left
  · intro w'
    go_simp
    with_reducible rfl
  rotate_left
  · simp only [Act.put, List.setIfInBounds_toArray, List.set_cons_zero, List.set_cons_succ, i64_w, i32_w]
    rfl
  refine pure_ (i := 7) (N := some 16) (v := ?_) (a' := ?_) #[false, false, false, false, false, true, true, true, false, false, false, false, false, false, false, false, false] rfl rfl (by kernel_rfl) (fun _ _ _ h => h) (Or.inl ⟨by rfl, ?_⟩) ?_ ?_
  rotate_left
  · intro w'
    go_simp
    with_reducible rfl
  rotate_left
  · simp only [Act.put, List.setIfInBounds_toArray, List.set_cons_zero, List.set_cons_succ, i64_w, i32_w]
    rfl
  refine pure_ (i := 8) (N := some 17) (v := ?_) (a' := ?_) #[false, false, false, false, false, true, true, true, true, false, false, false, false, false, false, false, false] rfl rfl (by kernel_rfl) (fun _ _ _ h => h) (Or.inl ⟨by rfl, ?_⟩) ?_ ?_
  rotate_left
  · intro w'
    go_simp
    with_reducible rfl
  rotate_left
  · simp only [Act.put, List.setIfInBounds_toArray, List.set_cons_zero, List.set_cons_succ, i64_w, i32_w]
    rfl
  refine pure_ (i := 10) (N := some 19) (v := ?_) (a' := ?_) #[false, false, false, false, false, true, true, true, true, false, true, false, false, false, false, false, false] rfl rfl (by kernel_rfl) (fun _ _ _ h => h) (Or.inl ⟨by rfl, ?_⟩) ?_ ?_
  rotate_left
  · intro w'
    go_simp
    with_reducible rfl
  rotate_left
  · simp only [Act.put, List.setIfInBounds_toArray, List.set_cons_zero, List.set_cons_succ, i64_w, i32_w]
    rfl
  refine take_ (i := 0) (N := some 9) (v := ?_) (a' := ?_) #[true, false, false, false, false, true, true, true, true, false, true, false, false, false, false, false, false] rfl rfl (by kernel_rfl) (fun _ _ _ h => h) (Or.inl ⟨by rfl, ?_⟩) hHeld ?_ ?_
  rotate_left
  · rintro w' ⟨s0, s1, s2⟩
    go_simp
    with_reducible rfl
  rotate_left
  · simp only [Act.put, List.setIfInBounds_toArray, List.set_cons_zero, List.set_cons_succ, i64_w, i32_w]
    rfl
  refine pure_ (i := 1) (N := some 10) (v := ?_) (a' := ?_) #[true, true, false, false, false, true, true, true, true, false, true, false, false, false, false, false, false] rfl rfl (by kernel_rfl) (fun _ _ _ h => h) (Or.inl ⟨by rfl, ?_⟩) ?_ ?_
  rotate_left
  · intro w'
    go_simp
    with_reducible rfl
  rotate_left
  · simp only [Act.put, List.setIfInBounds_toArray, List.set_cons_zero, List.set_cons_succ, i64_w, i32_w]
    rfl
  refine pure_ (i := 2) (N := some 11) (v := ?_) (a' := ?_) #[true, true, true, false, false, true, true, true, true, false, true, false, false, false, false, false, false] rfl rfl (by kernel_rfl) (fun _ _ _ h => h) (Or.inl ⟨by rfl, ?_⟩) ?_ ?_
  rotate_left
  · intro w'
    go_simp
    with_reducible rfl
  rotate_left
  · simp only [Act.put, List.setIfInBounds_toArray, List.set_cons_zero, List.set_cons_succ, i64_w, i32_w]
    rfl
  refine pure_ (i := 3) (N := some 12) (v := ?_) (a' := ?_) #[true, true, true, true, false, true, true, true, true, false, true, false, false, false, false, false, false] rfl rfl (by kernel_rfl) (fun _ _ _ h => h) (Or.inl ⟨by rfl, ?_⟩) ?_ ?_
  rotate_left
  · intro w'
    go_simp
    with_reducible rfl
  rotate_left
  · simp only [Act.put, List.setIfInBounds_toArray, List.set_cons_zero, List.set_cons_succ, i64_w, i32_w]
    rfl
  refine take_ (i := 4) (N := some 13) (v := ?_) (a' := ?_) #[true, true, true, true, true, true, true, true, true, false, true, false, false, false, false, false, false] rfl rfl (by kernel_rfl) (fun _ _ _ h => h) (Or.inl ⟨by rfl, ?_⟩) hHeld ?_ ?_
  rotate_left
  · rintro w' ⟨s0, s1, s2⟩
    go_simp
    with_reducible rfl
  rotate_left
  · simp only [Act.put, List.setIfInBounds_toArray, List.set_cons_zero, List.set_cons_succ, i64_w, i32_w]
    rfl
  refine take_ (i := 9) (N := some 18) (v := ?_) (a' := ?_) #[true, true, true, true, true, true, true, true, true, true, true, false, false, false, false, false, false] rfl rfl (by kernel_rfl) (fun _ _ _ h => h) (Or.inl ⟨by rfl, ?_⟩) hHeld ?_ ?_
  rotate_left
  · rintro w' ⟨s0, s1, s2⟩
    go_simp
    with_reducible rfl
  rotate_left
  · simp only [Act.put, List.setIfInBounds_toArray, List.set_cons_zero, List.set_cons_succ, i64_w, i32_w]
    rfl
  refine one_ (i := 11) (N := some 20) #[true, true, true, true, true, true, true, true, true, true, true, true, false, false, false, false, false] rfl rfl (by kernel_rfl) (by decide) (fun K hK => ?_)
  refine goes_ Tryd.func30 (by kernel_rfl) rfl #[.int .i64 of, .int .i64 x.kind, .bool sec] (by rfl) rfl rfl (by simp only [List.map_toArray, List.map_cons, List.map_nil]; rfl) ?_
  with_reducible refine (guard_bracket.calls 4 of x.kind sec 0 0 _ BR.out).mono ?_
  rintro e1 w1 ⟨rfl, hd⟩
  refine ⟨_, rfl, ?_⟩
  have c0 := (hd.below.cell (World.block_lt_of_cell? _ _ hHeld.1)).trans hHeld.1
  have c1 := (hd.below.cell (World.block_lt_of_cell? _ _ hHeld.2.1)).trans hHeld.2.1
  have c2 := (hd.below.cell (World.block_lt_of_cell? _ _ hHeld.2.2)).trans hHeld.2.2
  have hB1 : Below w.heap.size w w1 := ((Below.refl w.heap.size w).drew).trans hd.below
  have HB1 := Aside0.mk hB1
  have hco1 : w1.cell? ⟨po, 0, none⟩ = some v := (hB1.cell (p := ⟨po, 0, none⟩) HLO.out).trans hco
  have HO1 := Aside0.mk ((hB1.block _ HLO.out).trans HO.out)
  have HR1 := Aside0.mk (Kd.R_below HR.out hB1)
  have HT1 := Aside0.mk (HT.out.below hB1)
  clear hd hB1
  refine hK.out _ _ ⟨c0, c1, c2⟩ (fun hHeld => ?_)
  clear hK K
  refine norm_ (a' := ?_) ?_ ?_
  rotate_left
  · show Act.put _ (some 20) _ = _
    simp only [Act.put, List.setIfInBounds_toArray, List.set_cons_zero, List.set_cons_succ, i64_w, i32_w]
    rfl
  refine pure_ (i := 12) (N := some 8) (v := ?_) (a' := ?_) #[true, true, true, true, true, true, true, true, true, true, true, true, true, false, false, false, false] rfl rfl (by kernel_rfl) (fun _ _ _ h => h) (Or.inl ⟨by rfl, ?_⟩) ?_ ?_
  rotate_left
  · intro w'
    go_simp
    with_reducible rfl
  rotate_left
  · simp only [Act.put, List.setIfInBounds_toArray, List.set_cons_zero, List.set_cons_succ, i64_w, i32_w]
    rfl
  refine pure_ (i := 13) (N := some 21) (v := ?_) (a' := ?_) #[true, true, true, true, true, true, true, true, true, true, true, true, true, true, false, false, false] rfl rfl (by kernel_rfl) (fun _ _ _ h => h) (Or.inl ⟨by rfl, ?_⟩) ?_ ?_
  rotate_left
  · intro w'
    go_simp
    with_reducible rfl
  rotate_left
  · simp only [Act.put, List.setIfInBounds_toArray, List.set_cons_zero, List.set_cons_succ, i64_w, i32_w]
    rfl
  refine pure_ (i := 14) (N := some 22) (v := ?_) (a' := ?_) #[true, true, true, true, true, true, true, true, true, true, true, true, true, true, true, false, false] rfl rfl (by kernel_rfl) (fun _ _ _ h => h) (Or.inl ⟨by rfl, ?_⟩) ?_ ?_
  rotate_left
  · intro w'
    go_simp
    with_reducible rfl
  rotate_left
  · simp only [Act.put, List.setIfInBounds_toArray, List.set_cons_zero, List.set_cons_succ, i64_w, i32_w]
    rfl
  refine pure_ (i := 15) (N := some 6) (v := ?_) (a' := ?_) #[true, true, true, true, true, true, true, true, true, true, true, true, true, true, true, true, false] rfl rfl (by kernel_rfl) (fun _ _ _ h => h) (Or.inl ⟨by rfl, ?_⟩) ?_ ?_
  rotate_left
  · intro w'
    go_simp
    with_reducible rfl
  rotate_left
  · simp only [Act.put, List.setIfInBounds_toArray, List.set_cons_zero, List.set_cons_succ, i64_w, i32_w]
    rfl
  refine pure_ (i := 16) (N := some 7) (v := ?_) (a' := ?_) #[true, true, true, true, true, true, true, true, true, true, true, true, true, true, true, true, true] rfl rfl (by kernel_rfl) (fun _ _ _ h => h) (Or.inl ⟨by rfl, ?_⟩) ?_ ?_
  rotate_left
  · intro w'
    go_simp
    with_reducible rfl
  rotate_left
  · simp only [Act.put, List.setIfInBounds_toArray, List.set_cons_zero, List.set_cons_succ, i64_w, i32_w]
    rfl
  refine done_ (by kernel_rfl) ?_
  go_wp2_with (first
    | (go_at_call 17; refine (HX.out b gx v w1 (out) HT1.out HR1.out (Nat.le_trans HB.out (Nat.le_of_lt (blk_lt HO1.out))) (by have := HL.out; (try simp only [List.length_append, List.length_cons, List.length_nil]); omega)).mono ?_; rintro e w2 ⟨v2, rfl, hr2, hb2, hk2⟩; obtain ⟨A2, n2, c2, e2⟩ := row_sl hr2; subst e2; have hne := Kd.R_ne HR1.out HO1.out (by decide); have ho2 := ((hk2.1 w1.heap.size).2 po (blk_lt HO1.out) (Nat.ne_of_lt (blk_lt HO1.out)) hne).trans HO1.out; have hcell2 := blk_cell ho2 0; have hfr2 := blk_frozen ho2 0; obtain ⟨q1, q2, q3⟩ := out_stored HO1.out HR1.out hr2 hb2 HB.out hk2; have HM2 := Aside0.mk q1; have HR2 := Aside0.mk q2; have HO2 := Aside0.mk q3; have HT2 := Aside0.mk (TrAt.kept HR1.out q1.2.1 HO1.out (by decide) HT1.out); have hco2 := blk_cell q3 0; clear hr2 hb2 hk2 hne ho2 q1 q2 q3))
  go_end0
  exact ⟨_, rfl, HR2.out, HO2.out, (Mv.of_below HB1.out (Nat.le_trans HB.out (Nat.le_of_lt HLO.out))).trans HM2.out⟩
set_option maxRecDepth 100000 in
set_option maxHeartbeats 1600000 in
theorem part_some (x : Pure.Tr) (hx : Can14 x) {b : Nat} {w : World} {pn po g gx : Nat} {v : Value} {out : List S33} (sec : Bool) (of : Int) (o s : Int)
    (hn : w.heap[pn]? = some (.cells #[.pointer (some ⟨g, 0, none⟩)] 49 (0, 0))) (ho : w.heap[po]? = some (.cells #[v] 22 (0, 0)))
    (hg : w.cell? ⟨g, 0, none⟩ = some (.int .i64 of)) (ht : TrAt w gx x) (hr : Row w b v out) (hb : b ≤ po) (hl : out.length + 3 * x.sh.length + 2 ≤ 100000) (hbr : Pure.brk of x.kind sec = (o, s)) (ho0 : (o != 0) = true) (hs0 : (s != 0) = true) :
    Calls Tryd.prog 29 #[.pointer (some ⟨gx, 0, none⟩), .bool sec, .pointer (some ⟨pn, 0, none⟩), .pointer (some ⟨po, 0, none⟩)] w fun e w' =>
      ∃ v', e = .returned (.tuple #[]) ∧ Row w' b v' (out ++ [(⟨o, 0⟩ : S33)] ++ x.sh ++ [(⟨s, 0⟩ : S33)]) ∧ w'.heap[po]? = some (.cells #[v'] 22 (0, 0)) ∧ Mv b po v w v' w' := by
  have BR := Aside0.mk (show guard_bracket.f 4 of x.kind sec = some (o, s) from (bracket_brk of x.kind sec).trans (congrArg some hbr))
  have hcn : w.cell? ⟨pn, 0, none⟩ = some (.pointer (some ⟨g, 0, none⟩)) := blk_cell hn 0
  have hco : w.cell? ⟨po, 0, none⟩ = some v := blk_cell ho 0
  have hcx := ht.kind
  have hlo : po < w.heap.size := blk_lt ho
  have HX := Aside0.mk hx
  have HO := Aside0.mk ho
  have HT := Aside0.mk ht
  have HR := Aside0.mk hr
  have HB := Aside0.mk hb
  have HL := Aside0.mk hl
  have HLO := Aside0.mk hlo
  clear hx ho ht hr hb hl hn hbr hlo
  go_enter Tryd.func29, Tryd.ntmps29
  go_wp2
  refine start_ (n := 17) (S := fun w' => w'.cell? ⟨pn, 0, none⟩ = some (.pointer (some ⟨g, 0, none⟩)) ∧ w'.cell? ⟨g, 0, none⟩ = some (.int .i64 of) ∧ w'.cell? ⟨gx, 0, none⟩ = some (.int .i64 x.kind)) (ds := []) #[false, false, false, false, false, false, false, false, false, false, false, false, false, false, false, false, false] (by kernel_rfl) rfl rfl ⟨hcn, hg, hcx⟩ (fun hHeld => ?_)
  refine pure_ (i := 5) (N := some 14) (v := ?_) (a' := ?_) #[false, false, false, false, false, true, false, false, false, false, false, false, false, false, false, false, false] rfl rfl (by kernel_rfl) (fun _ _ _ h => h) (Or.inl ⟨by rfl, ?_⟩) ?_ ?_
  rotate_left
  · intro w'
    go_simp
    with_reducible rfl
  rotate_left
  · simp only [Act.put, List.setIfInBounds_toArray, List.set_cons_zero, List.set_cons_succ, i64_w, i32_w]
    rfl
  refine pure_ (i := 6) (N := some 15) (v := ?_) (a' := ?_) #[false, false, false, false, false, true, true, false, false, false, false, false, false, false, false, false, false] rfl rfl (by kernel_rfl) (fun _ _ _ h => h) (Or.inl ⟨by rfl, ?_⟩) ?_ ?_
  rotate_left
  · intro w'
    go_simp
    with_reducible rfl
  rotate_left
  · simp only [Act.put, List.setIfInBounds_toArray, List.set_cons_zero, List.set_cons_succ, i64_w, i32_w]
    rfl
  refine pure_ (i := 7) (N := some 16) (v := ?_) (a' := ?_) #[false, false, false, false, false, true, true, true, false, false, false, false, false, false, false, false, false] rfl rfl (by kernel_rfl) (fun _ _ _ h => h) (Or.inl ⟨by rfl, ?_⟩) ?_ ?_
  rotate_left
  · intro w'
    go_simp
    with_reducible rfl
  rotate_left
  · simp only [Act.put, List.setIfInBounds_toArray, List.set_cons_zero, List.set_cons_succ, i64_w, i32_w]
    rfl
  refine pure_ (i := 8) (N := some 17) (v := ?_) (a' := ?_) #[false, false, false, false, false, true, true, true, true, false, false, false, false, false, false, false, false] rfl rfl (by kernel_rfl) (fun _ _ _ h => h) (Or.inl ⟨by rfl, ?_⟩) ?_ ?_
  rotate_left
  · intro w'
    go_simp
    with_reducible rfl
  rotate_left
  · simp only [Act.put, List.setIfInBounds_toArray, List.set_cons_zero, List.set_cons_succ, i64_w, i32_w]
    rfl
  refine pure_ (i := 10) (N := some 19) (v := ?_) (a' := ?_) #[false, false, false, false, false, true, true, true, true, false, true, false, false, false, false, false, false] rfl rfl (by kernel_rfl) (fun _ _ _ h => h) (Or.inl ⟨by rfl, ?_⟩) ?_ ?_
  rotate_left
  · intro w'
    go_simp
    with_reducible rfl
  rotate_left
  · simp only [Act.put, List.setIfInBounds_toArray, List.set_cons_zero, List.set_cons_succ, i64_w, i32_w]
    rfl
  refine take_ (i := 0) (N := some 9) (v := ?_) (a' := ?_) #[true, false, false, false, false, true, true, true, true, false, true, false, false, false, false, false, false] rfl rfl (by kernel_rfl) (fun _ _ _ h => h) (Or.inl ⟨by rfl, ?_⟩) hHeld ?_ ?_
  rotate_left
  · rintro w' ⟨s0, s1, s2⟩
    go_simp
    with_reducible rfl
  rotate_left
  · simp only [Act.put, List.setIfInBounds_toArray, List.set_cons_zero, List.set_cons_succ, i64_w, i32_w]
    rfl
  refine pure_ (i := 1) (N := some 10) (v := ?_) (a' := ?_) #[true, true, false, false, false, true, true, true, true, false, true, false, false, false, false, false, false] rfl rfl (by kernel_rfl) (fun _ _ _ h => h) (Or.inl ⟨by rfl, ?_⟩) ?_ ?_
  rotate_left
  · intro w'
    go_simp
    with_reducible rfl
  rotate_left
  · simp only [Act.put, List.setIfInBounds_toArray, List.set_cons_zero, List.set_cons_succ, i64_w, i32_w]
    rfl
  refine pure_ (i := 2) (N := some 11) (v := ?_) (a' := ?_) #[true, true, true, false, false, true, true, true, true, false, true, false, false, false, false, false, false] rfl rfl (by kernel_rfl) (fun _ _ _ h => h) (Or.inl ⟨by rfl, ?_⟩) ?_ ?_
  rotate_left
  · intro w'
    go_simp
    with_reducible rfl
  rotate_left
  · simp only [Act.put, List.setIfInBounds_toArray, List.set_cons_zero, List.set_cons_succ, i64_w, i32_w]
    rfl
  refine pure_ (i := 3) (N := some 12) (v := ?_) (a' := ?_) #[true, true, true, true, false, true, true, true, true, false, true, false, false, false, false, false, false] rfl rfl (by kernel_rfl) (fun _ _ _ h => h) (Or.inl ⟨by rfl, ?_⟩) ?_ ?_
  rotate_left
  · intro w'
    go_simp
    with_reducible rfl
  rotate_left
  · simp only [Act.put, List.setIfInBounds_toArray, List.set_cons_zero, List.set_cons_succ, i64_w, i32_w]
    rfl
  refine take_ (i := 4) (N := some 13) (v := ?_) (a' := ?_) #[true, true, true, true, true, true, true, true, true, false, true, false, false, false, false, false, false] rfl rfl (by kernel_rfl) (fun _ _ _ h => h) (Or.inl ⟨by rfl, ?_⟩) hHeld ?_ ?_
  rotate_left
  · rintro w' ⟨s0, s1, s2⟩
    go_simp
    with_reducible rfl
  rotate_left
  · simp only [Act.put, List.setIfInBounds_toArray, List.set_cons_zero, List.set_cons_succ, i64_w, i32_w]
    rfl
  refine take_ (i := 9) (N := some 18) (v := ?_) (a' := ?_) #[true, true, true, true, true, true, true, true, true, true, true, false, false, false, false, false, false] rfl rfl (by kernel_rfl) (fun _ _ _ h => h) (Or.inl ⟨by rfl, ?_⟩) hHeld ?_ ?_
  rotate_left
  · rintro w' ⟨s0, s1, s2⟩
    go_simp
    with_reducible rfl
  rotate_left
  · simp only [Act.put, List.setIfInBounds_toArray, List.set_cons_zero, List.set_cons_succ, i64_w, i32_w]
    rfl
  refine one_ (i := 11) (N := some 20) #[true, true, true, true, true, true, true, true, true, true, true, true, false, false, false, false, false] rfl rfl (by kernel_rfl) (by decide) (fun K hK => ?_)
  refine goes_ Tryd.func30 (by kernel_rfl) rfl #[.int .i64 of, .int .i64 x.kind, .bool sec] (by rfl) rfl rfl (by simp only [List.map_toArray, List.map_cons, List.map_nil]; rfl) ?_
  with_reducible refine (guard_bracket.calls 4 of x.kind sec o s _ BR.out).mono ?_
  rintro e1 w1 ⟨rfl, hd⟩
  refine ⟨_, rfl, ?_⟩
  have c0 := (hd.below.cell (World.block_lt_of_cell? _ _ hHeld.1)).trans hHeld.1
  have c1 := (hd.below.cell (World.block_lt_of_cell? _ _ hHeld.2.1)).trans hHeld.2.1
  have c2 := (hd.below.cell (World.block_lt_of_cell? _ _ hHeld.2.2)).trans hHeld.2.2
  have hB1 : Below w.heap.size w w1 := ((Below.refl w.heap.size w).drew).trans hd.below
  have HB1 := Aside0.mk hB1
  have hco1 : w1.cell? ⟨po, 0, none⟩ = some v := (hB1.cell (p := ⟨po, 0, none⟩) HLO.out).trans hco
  have HO1 := Aside0.mk ((hB1.block _ HLO.out).trans HO.out)
  have HR1 := Aside0.mk (Kd.R_below HR.out hB1)
  have HT1 := Aside0.mk (HT.out.below hB1)
  clear hd hB1
  refine hK.out _ _ ⟨c0, c1, c2⟩ (fun hHeld => ?_)
  clear hK K
  refine norm_ (a' := ?_) ?_ ?_
  rotate_left
  · show Act.put _ (some 20) _ = _
    simp only [Act.put, List.setIfInBounds_toArray, List.set_cons_zero, List.set_cons_succ, i64_w, i32_w]
    rfl
  refine pure_ (i := 12) (N := some 8) (v := ?_) (a' := ?_) #[true, true, true, true, true, true, true, true, true, true, true, true, true, false, false, false, false] rfl rfl (by kernel_rfl) (fun _ _ _ h => h) (Or.inl ⟨by rfl, ?_⟩) ?_ ?_
  rotate_left
  · intro w'
    go_simp
    with_reducible rfl
  rotate_left
  · simp only [Act.put, List.setIfInBounds_toArray, List.set_cons_zero, List.set_cons_succ, i64_w, i32_w]
    rfl
  refine pure_ (i := 13) (N := some 21) (v := ?_) (a' := ?_) #[true, true, true, true, true, true, true, true, true, true, true, true, true, true, false, false, false] rfl rfl (by kernel_rfl) (fun _ _ _ h => h) (Or.inl ⟨by rfl, ?_⟩) ?_ ?_
  rotate_left
  · intro w'
    go_simp
    with_reducible rfl
  rotate_left
  · simp only [Act.put, List.setIfInBounds_toArray, List.set_cons_zero, List.set_cons_succ, i64_w, i32_w]
    rfl
  refine pure_ (i := 14) (N := some 22) (v := ?_) (a' := ?_) #[true, true, true, true, true, true, true, true, true, true, true, true, true, true, true, false, false] rfl rfl (by kernel_rfl) (fun _ _ _ h => h) (Or.inl ⟨by rfl, ?_⟩) ?_ ?_
  rotate_left
  · intro w'
    go_simp
    with_reducible rfl
  rotate_left
  · simp only [Act.put, List.setIfInBounds_toArray, List.set_cons_zero, List.set_cons_succ, i64_w, i32_w]
    rfl
  refine pure_ (i := 15) (N := some 6) (v := ?_) (a' := ?_) #[true, true, true, true, true, true, true, true, true, true, true, true, true, true, true, true, false] rfl rfl (by kernel_rfl) (fun _ _ _ h => h) (Or.inl ⟨by rfl, ?_⟩) ?_ ?_
  rotate_left
  · intro w'
    go_simp
    with_reducible rfl
  rotate_left
  · simp only [Act.put, List.setIfInBounds_toArray, List.set_cons_zero, List.set_cons_succ, i64_w, i32_w]
    rfl
  refine pure_ (i := 16) (N := some 7) (v := ?_) (a' := ?_) #[true, true, true, true, true, true, true, true, true, true, true, true, true, true, true, true, true] rfl rfl (by kernel_rfl) (fun _ _ _ h => h) (Or.inl ⟨by rfl, ?_⟩) ?_ ?_
  rotate_left
  · intro w'
    go_simp
    with_reducible rfl
  rotate_left
  · simp only [Act.put, List.setIfInBounds_toArray, List.set_cons_zero, List.set_cons_succ, i64_w, i32_w]
    rfl
  refine done_ (by kernel_rfl) ?_
  obtain ⟨A1, n1, c1, e1⟩ := row_sl HR1.out
  subst e1
  go_wp2_with (first
    | (at_builtin; refine Kd.R_append k33 (w0 := w1) b rfl (.tmp 25) (.tmp 28) 22 33 (.agg #[(.int .i64 0), (.int .i64 0)]) 16 rfl Tryd.underlying22 info33 rfl (by decide) (by omega) (.slice A1 n1 c1) (out) (⟨o, 0⟩ : S33) [.int .i64 o, .int .i64 0] (fun _ => True) (fun _ => False) ?h1 ?h2 ?aP (fun _ hk => hk.elim) ?aF ?aO ?aB ?aS ?aL ?_; (case h1 => rfl); (case h2 => first | rfl | (simp only [World.size_setCell]; rfl)); (case aP => exact k33_mkM _ _ _ (⟨o, 0⟩ : S33)); (case aB => exact Below.refl _ _); (case aF => exact (fun _ _ => trivial)); (case aO => exact HR1.out); (case aS => exact Nat.le_trans HB.out (Nat.le_of_lt (blk_lt HO1.out))); (case aL => exact (by have := HL.out; (try simp only [List.length_append, List.length_cons, List.length_nil]); omega)); intro v2 w2 hr2 hb2 hg2 hat2; obtain ⟨A2, n2, c2, e2⟩ := row_sl hr2; subst e2; have hk2 := Kp.of_grown hg2 hat2; have ho2 := blk_grown HO1.out hg2 (Kd.R_ne HR1.out HO1.out (by decide)); have hcell2 := blk_cell ho2 0; have hfr2 := blk_frozen ho2 0; obtain ⟨q1, q2, q3⟩ := out_stored HO1.out HR1.out hr2 hb2 HB.out hk2; have HM2 := Aside0.mk q1; have HR2 := Aside0.mk q2; have HO2 := Aside0.mk q3; have HT2 := Aside0.mk (TrAt.kept HR1.out q1.2.1 HO1.out (by decide) HT1.out); have hco2 := blk_cell q3 0; clear hr2 hb2 hg2 hat2 hk2 ho2 q1 q2 q3)
    | (go_at_call 17; refine (HX.out b gx (.slice A2 n2 c2) (w2.setCell ⟨po, 0, none⟩ (.slice A2 n2 c2)) (out ++ [(⟨o, 0⟩ : S33)]) HT2.out HR2.out (Nat.le_trans HB.out (Nat.le_of_lt (blk_lt HO2.out))) (by have := HL.out; (try simp only [List.length_append, List.length_cons, List.length_nil]); omega)).mono ?_; rintro e w3 ⟨v3, rfl, hr2, hb2, hk2⟩; obtain ⟨A3, n3, c3, e2⟩ := row_sl hr2; subst e2; have hne := Kd.R_ne HR2.out HO2.out (by decide); have ho2 := ((hk2.1 (w2.setCell ⟨po, 0, none⟩ (.slice A2 n2 c2)).heap.size).2 po (blk_lt HO2.out) (Nat.ne_of_lt (blk_lt HO2.out)) hne).trans HO2.out; have hcell3 := blk_cell ho2 0; have hfr3 := blk_frozen ho2 0; obtain ⟨q1, q2, q3⟩ := out_stored HO2.out HR2.out hr2 hb2 HB.out hk2; have HM3 := Aside0.mk q1; have HR3 := Aside0.mk q2; have HO3 := Aside0.mk q3; have HT3 := Aside0.mk (TrAt.kept HR2.out q1.2.1 HO2.out (by decide) HT2.out); have hco3 := blk_cell q3 0; clear hr2 hb2 hk2 hne ho2 q1 q2 q3)
    | (at_builtin; refine Kd.R_append k33 (w0 := (w3.setCell ⟨po, 0, none⟩ (.slice A3 n3 c3))) b rfl (.tmp 35) (.tmp 38) 22 33 (.agg #[(.int .i64 0), (.int .i64 0)]) 16 rfl Tryd.underlying22 info33 rfl (by decide) (by omega) (.slice A3 n3 c3) (out ++ [(⟨o, 0⟩ : S33)] ++ x.sh) (⟨s, 0⟩ : S33) [.int .i64 s, .int .i64 0] (fun _ => True) (fun _ => False) ?h1 ?h2 ?aP (fun _ hk => hk.elim) ?aF ?aO ?aB ?aS ?aL ?_; (case h1 => rfl); (case h2 => first | rfl | (simp only [World.size_setCell]; rfl)); (case aP => exact k33_mkM _ _ _ (⟨s, 0⟩ : S33)); (case aB => exact Below.refl _ _); (case aF => exact (fun _ _ => trivial)); (case aO => exact HR3.out); (case aS => exact Nat.le_trans HB.out (Nat.le_of_lt (blk_lt HO3.out))); (case aL => exact (by have := HL.out; (try simp only [List.length_append, List.length_cons, List.length_nil]); omega)); intro v4 w4 hr2 hb2 hg2 hat2; obtain ⟨A4, n4, c4, e2⟩ := row_sl hr2; subst e2; have hk2 := Kp.of_grown hg2 hat2; have ho2 := blk_grown HO3.out hg2 (Kd.R_ne HR3.out HO3.out (by decide)); have hcell4 := blk_cell ho2 0; have hfr4 := blk_frozen ho2 0; obtain ⟨q1, q2, q3⟩ := out_stored HO3.out HR3.out hr2 hb2 HB.out hk2; have HM4 := Aside0.mk q1; have HR4 := Aside0.mk q2; have HO4 := Aside0.mk q3; have HT4 := Aside0.mk (TrAt.kept HR3.out q1.2.1 HO3.out (by decide) HT3.out); have hco4 := blk_cell q3 0; clear hr2 hb2 hg2 hat2 hk2 ho2 q1 q2 q3))
  go_end0
  exact ⟨_, rfl, HR4.out, HO4.out, (((Mv.of_below HB1.out (Nat.le_trans HB.out (Nat.le_of_lt HLO.out))).trans HM2.out).trans HM3.out).trans HM4.out⟩
end Go.Proofs.YtikbgoppmailjaaDoor.H
/- (*node).signs: the signs of a tree are laid behind those that lie there. -/
namespace Go.Proofs.YtikbgoppmailjaaDoor.H
open Go.RowKit Go.HK Go.Proofs.YtikbgoppmailjaaDoorW.PrintWords Go.Proofs.YtikbgoppmailjaaDoorW.PrintLast Go.Proofs.YtikbgoppmailjaaDoorW.PrintMore
set_option linter.unusedVariables false
set_option linter.unusedSimpArgs false
theorem wr_ge (of kind : Int) (sec : Bool) (x : List S33) : x.length ≤ (Pure.wr of kind sec x).length := by
  unfold Pure.wr
  split
  · exact Nat.le_refl _
  · simp only [List.length_cons, List.length_append, List.length_nil]
    omega
theorem alloc3 (w : World) (o1 o2 o3 : Obj) : Below w.heap.size w (((w.alloc o1).alloc o2).alloc o3) :=
  (((Below.refl w.heap.size w).alloc (Nat.le_refl _) _).alloc (by simp) _).alloc (by simp only [World.size_alloc]; omega) _
theorem part_calls (x : Pure.Tr) (hx : Can14 x) {b : Nat} {w : World} {pn po g gx : Nat} {v : Value} {out : List S33} (sec : Bool) (of : Int)
    (hn : w.heap[pn]? = some (.cells #[.pointer (some ⟨g, 0, none⟩)] 49 (0, 0))) (ho : w.heap[po]? = some (.cells #[v] 22 (0, 0)))
    (hg : w.cell? ⟨g, 0, none⟩ = some (.int .i64 of)) (ht : TrAt w gx x) (hr : Row w b v out) (hb : b ≤ po) (hl : out.length + 3 * x.sh.length + 2 ≤ 100000) :
    Calls Tryd.prog 29 #[.pointer (some ⟨gx, 0, none⟩), .bool sec, .pointer (some ⟨pn, 0, none⟩), .pointer (some ⟨po, 0, none⟩)] w fun e w' =>
      ∃ v', e = .returned (.tuple #[]) ∧ Row w' b v' (out ++ Pure.wr of x.kind sec x.sh) ∧ w'.heap[po]? = some (.cells #[v'] 22 (0, 0)) ∧ Mv b po v w v' w' := by
  have hv : Pure.brk of x.kind sec = (0, 0) ∨ Pure.brk of x.kind sec = (15, 16) ∨ Pure.brk of x.kind sec = (17, 18) := by
    unfold Pure.brk
    split
    · exact .inr (.inl rfl)
    · split
      · exact .inr (.inr rfl)
      · exact .inl rfl
  unfold Pure.wr
  rcases hv with e | e | e
  · rw [e, if_pos rfl]
    exact part_none x hx sec of hn ho hg ht hr hb hl e
  · rw [e, if_neg (by decide)]
    have := part_some x hx sec of 15 16 hn ho hg ht hr hb hl e rfl rfl
    simpa using this
  · rw [e, if_neg (by decide)]
    have := part_some x hx sec of 17 18 hn ho hg ht hr hb hl e rfl rfl
    simpa using this
/-- What stands while signs runs: from the world W on, where its own cells lie. -/
structure Fr (b : Nat) (W : World) (pn po ps g : Nat) (nc sc : Array Value) (v0 v : Value) (out : List S33) (w' : World) : Prop where
  hpn : w'.heap[pn]? = some (.cells #[.pointer (some ⟨g, 0, none⟩)] 49 (0, 0))
  hpo : w'.heap[po]? = some (.cells #[v] 22 (0, 0))
  hps : w'.heap[ps]? = some (.cells sc 33 (0, 0))
  gc : w'.heap[g]? = some (.cells nc 51 (0, 0))
  row : Row w' b v out
  ns : some ps ≠ v.ownBlock
  nn : pn ≠ po ∧ ps ≠ po ∧ g ≠ po
  ch : ∀ x gx, TrAt W gx x → TrAt w' gx x
  mv : Mv b po v0 W v w'
theorem Fr.step {b : Nat} {W w1 w2 : World} {pn po ps g : Nat} {nc sc : Array Value} {v0 v1 v2 : Value} {out1 out2 : List S33} (h : Fr b W pn po ps g nc sc v0 v1 out1 w1) (hm : Mv b po v1 w1 v2 w2) (hr : Row w2 b v2 out2) (ho : w2.heap[po]? = some (.cells #[v2] 22 (0, 0))) : Fr b W pn po ps g nc sc v0 v2 out2 w2 := by
  refine ⟨?_, ho, ?_, ?_, hr, ?_, h.nn, fun x gx q => TrAt.kept h.row hm.2.1 h.hpo (by decide) (h.ch x gx q), h.mv.trans hm⟩
  · exact (hm.2.1.2 pn (blk_lt h.hpn) h.nn.1 (Kd.R_ne h.row h.hpn (by decide))).trans h.hpn
  · exact (hm.2.1.2 ps (blk_lt h.hps) h.nn.2.1 h.ns).trans h.hps
  · exact (hm.2.1.2 g (blk_lt h.gc) h.nn.2.2 (Kd.R_ne h.row h.gc (by decide))).trans h.gc
  · rcases hm.2.2 with e | ⟨q, e, hq⟩
    · rw [e]; exact h.ns
    · rw [e]
      have := blk_lt h.hps
      intro e2
      injection e2 with e2
      omega
theorem fr_start {b : Nat} {w : World} {g : Nat} {nc : Array Value} {A0 : Option Addr} {n0 c0 : Nat} {out : List S33} (s0 s1 : Int) (hg : w.heap[g]? = some (.cells nc 51 (0, 0))) (hr : Row w b (.slice A0 n0 c0) out) (hb : b ≤ w.heap.size) :
    Fr b (((w.alloc (.cells #[.pointer (some ⟨g, 0, none⟩)] 49)).alloc (.cells #[.slice A0 n0 c0] 22)).alloc (.cells #[.int .i64 s0, .int .i64 s1] 33)) w.heap.size (w.heap.size + 1) (w.heap.size + 1 + 1) g nc #[.int .i64 s0, .int .i64 s1] (.slice A0 n0 c0) (.slice A0 n0 c0) out (((w.alloc (.cells #[.pointer (some ⟨g, 0, none⟩)] 49)).alloc (.cells #[.slice A0 n0 c0] 22)).alloc (.cells #[.int .i64 s0, .int .i64 s1] 33)) := by
  have e1 : (w.alloc (.cells #[.pointer (some ⟨g, 0, none⟩)] 49)).heap.size = w.heap.size + 1 := by simp
  have e2 : ((w.alloc (.cells #[.pointer (some ⟨g, 0, none⟩)] 49)).alloc (.cells #[.slice A0 n0 c0] 22)).heap.size = w.heap.size + 1 + 1 := by simp
  have p0 : ∀ (k : Nat) (cells : Array Value) (t : Nat), ((w.alloc (.cells #[.pointer (some ⟨g, 0, none⟩)] 49)).alloc (.cells #[.slice A0 n0 c0] 22)).heap[k]? = some (Obj.cells cells t (0, 0)) → (((w.alloc (.cells #[.pointer (some ⟨g, 0, none⟩)] 49)).alloc (.cells #[.slice A0 n0 c0] 22)).alloc (.cells #[.int .i64 s0, .int .i64 s1] 33)).heap[k]? = some (Obj.cells cells t (0, 0)) := fun k cells t q => (Below.heap_alloc _ _ _ (blk_lt q)).trans q
  have p1 : ∀ (k : Nat) (cells : Array Value) (t : Nat), (w.alloc (.cells #[.pointer (some ⟨g, 0, none⟩)] 49)).heap[k]? = some (Obj.cells cells t (0, 0)) → (((w.alloc (.cells #[.pointer (some ⟨g, 0, none⟩)] 49)).alloc (.cells #[.slice A0 n0 c0] 22)).alloc (.cells #[.int .i64 s0, .int .i64 s1] 33)).heap[k]? = some (Obj.cells cells t (0, 0)) := fun k cells t q => p0 _ _ _ ((Below.heap_alloc _ _ _ (blk_lt q)).trans q)
  have p2 : ∀ (k : Nat) (cells : Array Value) (t : Nat), w.heap[k]? = some (Obj.cells cells t (0, 0)) → (((w.alloc (.cells #[.pointer (some ⟨g, 0, none⟩)] 49)).alloc (.cells #[.slice A0 n0 c0] 22)).alloc (.cells #[.int .i64 s0, .int .i64 s1] 33)).heap[k]? = some (Obj.cells cells t (0, 0)) := fun k cells t q => p1 _ _ _ ((Below.heap_alloc _ _ _ (blk_lt q)).trans q)
  refine ⟨p1 _ _ _ (heap_alloc_last _ _), ?_, ?_, p2 _ _ _ hg, Kd.R_alloc (Kd.R_alloc (Kd.R_alloc hr _) _) _, ?_, ⟨by omega, by omega, by have := blk_lt hg; omega⟩, fun x gx q => q, Mv.refl⟩
  · have := heap_alloc_last (w.alloc (.cells #[.pointer (some ⟨g, 0, none⟩)] 49)) (.cells #[.slice A0 n0 c0] 22)
    rw [e1] at this
    exact p0 _ _ _ this
  · have := heap_alloc_last ((w.alloc (.cells #[.pointer (some ⟨g, 0, none⟩)] 49)).alloc (.cells #[.slice A0 n0 c0] 22)) (.cells #[.int .i64 s0, .int .i64 s1] 33)
    rw [e2] at this
    exact this
  · obtain ⟨inner, ho⟩ := Kd.R_own hr
    intro e
    have := own_lt ho _ e.symm
    omega
theorem fr_end {b : Nat} {w w' : World} {g : Nat} {nc sc : Array Value} {A0 : Option Addr} {n0 c0 : Nat} {v : Value} {out : List S33} {s0 s1 : Int} (hb : b ≤ w.heap.size)
    (h : Fr b (((w.alloc (.cells #[.pointer (some ⟨g, 0, none⟩)] 49)).alloc (.cells #[.slice A0 n0 c0] 22)).alloc (.cells #[.int .i64 s0, .int .i64 s1] 33)) w.heap.size (w.heap.size + 1) (w.heap.size + 1 + 1) g nc sc (.slice A0 n0 c0) v out w') : Row w' b v out ∧ Below b w w' ∧ Kp w w' (.slice A0 n0 c0) v := by
  have e3 : ((((w.alloc (.cells #[.pointer (some ⟨g, 0, none⟩)] 49)).alloc (.cells #[.slice A0 n0 c0] 22)).alloc (.cells #[.int .i64 s0, .int .i64 s1] 33))).heap.size = w.heap.size + 1 + 1 + 1 := by simp
  have hB : Below w.heap.size w (((w.alloc (.cells #[.pointer (some ⟨g, 0, none⟩)] 49)).alloc (.cells #[.slice A0 n0 c0] 22)).alloc (.cells #[.int .i64 s0, .int .i64 s1] 33)) := alloc3 w _ _ _
  refine ⟨h.row, (hB.mono hb).trans h.mv.1, fun q => ⟨?_, fun k hk _ hrow => ?_⟩, ?_⟩
  · have := h.mv.2.1.1
    rw [e3] at this
    omega
  · exact (h.mv.2.1.2 k (by rw [e3]; omega) (by omega) hrow).trans (hB.block k hk)
  · rcases h.mv.2.2 with e | ⟨q, e, hq⟩
    · exact .inl e
    · rw [e3] at hq
      exact .inr ⟨q, e, by omega⟩
set_option maxRecDepth 100000 in
set_option maxHeartbeats 1600000 in
theorem signs_lf (k n : Int) (hk : (k == 19) = false) : Can14 (.lf k n) := by
  intro b g v w out ht hr hb hl
  obtain ⟨A0, n0, c0, rfl⟩ := row_sl hr
  have hg0 : ((w.alloc (.cells #[.pointer (some ⟨g, 0, none⟩)] 49)).alloc (.cells #[.slice A0 n0 c0] 22)).cell? ⟨g, 0, none⟩ = some (.int .i64 k) := cell_alloc_keep _ (cell_alloc_keep _ (blk_cell ht 0))
  have hg1 : ((w.alloc (.cells #[.pointer (some ⟨g, 0, none⟩)] 49)).alloc (.cells #[.slice A0 n0 c0] 22)).cell? ⟨g, 1, none⟩ = some (.int .i64 n) := cell_alloc_keep _ (cell_alloc_keep _ (blk_cell ht 1))
  have F1 := Aside0.mk (fr_start k n ht hr hb)
  have hgg1 : (((w.alloc (.cells #[.pointer (some ⟨g, 0, none⟩)] 49)).alloc (.cells #[.slice A0 n0 c0] 22)).alloc (.cells #[.int .i64 k, .int .i64 n] 33)).cell? ⟨g, 2, none⟩ = some (.pointer none) := blk_cell F1.out.gc 2
  have hhh1 : (((w.alloc (.cells #[.pointer (some ⟨g, 0, none⟩)] 49)).alloc (.cells #[.slice A0 n0 c0] 22)).alloc (.cells #[.int .i64 k, .int .i64 n] 33)).cell? ⟨g, 3, none⟩ = some (.pointer none) := blk_cell F1.out.gc 3
  have HB := Aside0.mk hb
  have HL := Aside0.mk hl
  have HWA := Aside0.mk (Nat.le_refl 0)
  have HWC := Aside0.mk (Nat.le_refl 0)
  clear hr hb hl ht
  go_enter Tryd.func17, Tryd.ntmps17
  go_wp2_with (first
    | (at_builtin; refine Kd.R_append k33 (w0 := (((w.alloc (.cells #[.pointer (some ⟨g, 0, none⟩)] 49)).alloc (.cells #[.slice A0 n0 c0] 22)).alloc (.cells #[.int .i64 k, .int .i64 n] 33))) b rfl (.tmp 27) (.tmp 29) 22 33 (.agg #[(.int .i64 0), (.int .i64 0)]) 16 rfl Tryd.underlying22 info33 rfl (by decide) (by omega) (.slice A0 n0 c0) (out) (⟨k, n⟩ : S33) [.int .i64 k, .int .i64 n] (fun _ => True) (fun _ => False) ?h1 ?h2 ?aP (fun _ hk => hk.elim) ?aF ?aO ?aB ?aS ?aL ?_; (case h1 => rfl); (case h2 => first | rfl | (simp only [World.size_setCell, World.size_alloc]; rfl)); (case aP => exact k33_mkM _ _ _ (⟨k, n⟩ : S33)); (case aB => exact Below.refl _ _); (case aF => exact (fun _ _ => trivial)); (case aO => exact F1.out.row); (case aS => exact Nat.le_trans HB.out (Nat.le_of_lt (Nat.lt_of_succ_lt (blk_lt F1.out.hpo)))); (case aL => exact (by have := HL.out; have wa := HWA.out; have wc := HWC.out; simp only [Pure.Tr.sh, List.length_append, List.length_cons, List.length_nil] at this; (try simp only [List.length_append, List.length_cons, List.length_nil]); omega)); intro v2 w2 hr2 hb2 hg2 hat2; obtain ⟨A2, n2, c2, e2⟩ := row_sl hr2; subst e2; have hk2 := Kp.of_grown hg2 hat2; have ho2 := blk_grown F1.out.hpo hg2 (Kd.R_ne F1.out.row F1.out.hpo (by decide)); have hcell2 := blk_cell ho2 0; have hfr2 := blk_frozen ho2 0; obtain ⟨q1, q2, q3⟩ := out_stored F1.out.hpo F1.out.row hr2 hb2 (Nat.le_succ_of_le HB.out) hk2; have F2 := Aside0.mk (F1.out.step q1 q2 q3); clear hr2 hb2 hg2 hat2 hk2 ho2 q1 q2 q3; have hp2 := blk_cell F2.out.hpn 0; have ho2 := blk_cell F2.out.hpo 0; have hs2 := blk_cell F2.out.hps 0; have ht2 := blk_cell F2.out.hps 1; have hg2 := blk_cell F2.out.gc 2; have hh2 := blk_cell F2.out.gc 3))
  go_ret
  obtain ⟨r1, r2, r3⟩ := fr_end HB.out F2.out
  exact ⟨_, rfl, by simpa [Pure.Tr.sh] using r1, r2, r3⟩
set_option maxRecDepth 100000 in
set_option maxHeartbeats 1600000 in
theorem signs_un (k : Int) (hk : (k == 19) = false) (a : Pure.Tr) (ha : Can14 a) : Can14 (.un k a) := by
  intro b g v w out ht hr hb hl
  obtain ⟨A0, n0, c0, rfl⟩ := row_sl hr
  obtain ⟨ga, ht, hta⟩ := ht
  have hg0 : ((w.alloc (.cells #[.pointer (some ⟨g, 0, none⟩)] 49)).alloc (.cells #[.slice A0 n0 c0] 22)).cell? ⟨g, 0, none⟩ = some (.int .i64 k) := cell_alloc_keep _ (cell_alloc_keep _ (blk_cell ht 0))
  have hg1 : ((w.alloc (.cells #[.pointer (some ⟨g, 0, none⟩)] 49)).alloc (.cells #[.slice A0 n0 c0] 22)).cell? ⟨g, 1, none⟩ = some (.int .i64 0) := cell_alloc_keep _ (cell_alloc_keep _ (blk_cell ht 1))
  have F1 := Aside0.mk (fr_start k 0 ht hr hb)
  have hgg1 : (((w.alloc (.cells #[.pointer (some ⟨g, 0, none⟩)] 49)).alloc (.cells #[.slice A0 n0 c0] 22)).alloc (.cells #[.int .i64 k, .int .i64 0] 33)).cell? ⟨g, 2, none⟩ = some (.pointer (some ⟨ga, 0, none⟩)) := blk_cell F1.out.gc 2
  have hhh1 : (((w.alloc (.cells #[.pointer (some ⟨g, 0, none⟩)] 49)).alloc (.cells #[.slice A0 n0 c0] 22)).alloc (.cells #[.int .i64 k, .int .i64 0] 33)).cell? ⟨g, 3, none⟩ = some (.pointer none) := blk_cell F1.out.gc 3
  have HB := Aside0.mk hb
  have HL := Aside0.mk hl
  have HWA := Aside0.mk (wr_ge k a.kind false a.sh)
  have HWC := Aside0.mk (Nat.le_refl 0)
  have HA := Aside0.mk ha
  have TA := Aside0.mk (F1.out.ch _ _ (TrAt.below (alloc3 w _ _ _) hta))
  clear ha hta
  clear hr hb hl ht
  go_enter Tryd.func17, Tryd.ntmps17
  go_wp2_with (first
    | (go_at_call 29; refine (part_calls a HA.out false k F2.out.hpn F2.out.hpo (blk_cell F2.out.gc 0) (F2.out.ch _ _ TA.out) F2.out.row (Nat.le_succ_of_le HB.out) (by have := HL.out; have wa := HWA.out; have wc := HWC.out; simp only [Pure.Tr.sh, List.length_append, List.length_cons, List.length_nil] at this; (try simp only [List.length_append, List.length_cons, List.length_nil]); omega)).mono ?_; rintro e w3 ⟨v3, rfl, hr2, ho2, hm2⟩; obtain ⟨A3, n3, c3, e2⟩ := row_sl hr2; subst e2; have F3 := Aside0.mk (F2.out.step hm2 hr2 ho2); clear hr2 ho2 hm2; have hp3 := blk_cell F3.out.hpn 0; have ho3 := blk_cell F3.out.hpo 0; have hs3 := blk_cell F3.out.hps 0; have ht3 := blk_cell F3.out.hps 1; have hg3 := blk_cell F3.out.gc 2; have hh3 := blk_cell F3.out.gc 3)
    | (at_builtin; refine Kd.R_append k33 (w0 := (((w.alloc (.cells #[.pointer (some ⟨g, 0, none⟩)] 49)).alloc (.cells #[.slice A0 n0 c0] 22)).alloc (.cells #[.int .i64 k, .int .i64 0] 33))) b rfl (.tmp 27) (.tmp 29) 22 33 (.agg #[(.int .i64 0), (.int .i64 0)]) 16 rfl Tryd.underlying22 info33 rfl (by decide) (by omega) (.slice A0 n0 c0) (out) (⟨k, 0⟩ : S33) [.int .i64 k, .int .i64 0] (fun _ => True) (fun _ => False) ?h1 ?h2 ?aP (fun _ hk => hk.elim) ?aF ?aO ?aB ?aS ?aL ?_; (case h1 => rfl); (case h2 => first | rfl | (simp only [World.size_setCell, World.size_alloc]; rfl)); (case aP => exact k33_mkM _ _ _ (⟨k, 0⟩ : S33)); (case aB => exact Below.refl _ _); (case aF => exact (fun _ _ => trivial)); (case aO => exact F1.out.row); (case aS => exact Nat.le_trans HB.out (Nat.le_of_lt (Nat.lt_of_succ_lt (blk_lt F1.out.hpo)))); (case aL => exact (by have := HL.out; have wa := HWA.out; have wc := HWC.out; simp only [Pure.Tr.sh, List.length_append, List.length_cons, List.length_nil] at this; (try simp only [List.length_append, List.length_cons, List.length_nil]); omega)); intro v2 w2 hr2 hb2 hg2 hat2; obtain ⟨A2, n2, c2, e2⟩ := row_sl hr2; subst e2; have hk2 := Kp.of_grown hg2 hat2; have ho2 := blk_grown F1.out.hpo hg2 (Kd.R_ne F1.out.row F1.out.hpo (by decide)); have hcell2 := blk_cell ho2 0; have hfr2 := blk_frozen ho2 0; obtain ⟨q1, q2, q3⟩ := out_stored F1.out.hpo F1.out.row hr2 hb2 (Nat.le_succ_of_le HB.out) hk2; have F2 := Aside0.mk (F1.out.step q1 q2 q3); clear hr2 hb2 hg2 hat2 hk2 ho2 q1 q2 q3; have hp2 := blk_cell F2.out.hpn 0; have ho2 := blk_cell F2.out.hpo 0; have hs2 := blk_cell F2.out.hps 0; have ht2 := blk_cell F2.out.hps 1; have hg2 := blk_cell F2.out.gc 2; have hh2 := blk_cell F2.out.gc 3))
  go_ret
  obtain ⟨r1, r2, r3⟩ := fr_end HB.out F3.out
  exact ⟨_, rfl, by have e : (k == 19) = false := hk; simpa [Pure.Tr.sh, show ¬ k = 19 from fun q => by rw [q] at e; cases e] using r1, r2, r3⟩
set_option maxRecDepth 100000 in
set_option maxHeartbeats 1600000 in
theorem signs_neg (a : Pure.Tr) (ha : Can14 a) : Can14 (.un 19 a) := by
  intro b g v w out ht hr hb hl
  obtain ⟨A0, n0, c0, rfl⟩ := row_sl hr
  obtain ⟨ga, ht, hta⟩ := ht
  have hg0 : ((w.alloc (.cells #[.pointer (some ⟨g, 0, none⟩)] 49)).alloc (.cells #[.slice A0 n0 c0] 22)).cell? ⟨g, 0, none⟩ = some (.int .i64 19) := cell_alloc_keep _ (cell_alloc_keep _ (blk_cell ht 0))
  have hg1 : ((w.alloc (.cells #[.pointer (some ⟨g, 0, none⟩)] 49)).alloc (.cells #[.slice A0 n0 c0] 22)).cell? ⟨g, 1, none⟩ = some (.int .i64 0) := cell_alloc_keep _ (cell_alloc_keep _ (blk_cell ht 1))
  have F1 := Aside0.mk (fr_start 4 0 ht hr hb)
  have hgg1 : (((w.alloc (.cells #[.pointer (some ⟨g, 0, none⟩)] 49)).alloc (.cells #[.slice A0 n0 c0] 22)).alloc (.cells #[.int .i64 4, .int .i64 0] 33)).cell? ⟨g, 2, none⟩ = some (.pointer (some ⟨ga, 0, none⟩)) := blk_cell F1.out.gc 2
  have hhh1 : (((w.alloc (.cells #[.pointer (some ⟨g, 0, none⟩)] 49)).alloc (.cells #[.slice A0 n0 c0] 22)).alloc (.cells #[.int .i64 4, .int .i64 0] 33)).cell? ⟨g, 3, none⟩ = some (.pointer none) := blk_cell F1.out.gc 3
  have HB := Aside0.mk hb
  have HL := Aside0.mk hl
  have HWA := Aside0.mk (wr_ge 19 a.kind false a.sh)
  have HWC := Aside0.mk (Nat.le_refl 0)
  have HA := Aside0.mk ha
  have TA := Aside0.mk (F1.out.ch _ _ (TrAt.below (alloc3 w _ _ _) hta))
  clear ha hta
  clear hr hb hl ht
  go_enter Tryd.func17, Tryd.ntmps17
  go_wp2_with (first
    | (go_at_call 29; refine (part_calls a HA.out false 19 F2.out.hpn F2.out.hpo (blk_cell F2.out.gc 0) (F2.out.ch _ _ TA.out) F2.out.row (Nat.le_succ_of_le HB.out) (by have := HL.out; have wa := HWA.out; have wc := HWC.out; simp only [Pure.Tr.sh, List.length_append, List.length_cons, List.length_nil] at this; (try simp only [List.length_append, List.length_cons, List.length_nil]); omega)).mono ?_; rintro e w3 ⟨v3, rfl, hr2, ho2, hm2⟩; obtain ⟨A3, n3, c3, e2⟩ := row_sl hr2; subst e2; have F3 := Aside0.mk (F2.out.step hm2 hr2 ho2); clear hr2 ho2 hm2; have hp3 := blk_cell F3.out.hpn 0; have ho3 := blk_cell F3.out.hpo 0; have hs3 := blk_cell F3.out.hps 0; have ht3 := blk_cell F3.out.hps 1; have hg3 := blk_cell F3.out.gc 2; have hh3 := blk_cell F3.out.gc 3)
    | (at_builtin; refine Kd.R_append k33 (w0 := (((w.alloc (.cells #[.pointer (some ⟨g, 0, none⟩)] 49)).alloc (.cells #[.slice A0 n0 c0] 22)).alloc (.cells #[.int .i64 4, .int .i64 0] 33))) b rfl (.tmp 27) (.tmp 29) 22 33 (.agg #[(.int .i64 0), (.int .i64 0)]) 16 rfl Tryd.underlying22 info33 rfl (by decide) (by omega) (.slice A0 n0 c0) (out) (⟨4, 0⟩ : S33) [.int .i64 4, .int .i64 0] (fun _ => True) (fun _ => False) ?h1 ?h2 ?aP (fun _ hk => hk.elim) ?aF ?aO ?aB ?aS ?aL ?_; (case h1 => rfl); (case h2 => first | rfl | (simp only [World.size_setCell, World.size_alloc]; rfl)); (case aP => exact k33_mkM _ _ _ (⟨4, 0⟩ : S33)); (case aB => exact Below.refl _ _); (case aF => exact (fun _ _ => trivial)); (case aO => exact F1.out.row); (case aS => exact Nat.le_trans HB.out (Nat.le_of_lt (Nat.lt_of_succ_lt (blk_lt F1.out.hpo)))); (case aL => exact (by have := HL.out; have wa := HWA.out; have wc := HWC.out; simp only [Pure.Tr.sh, List.length_append, List.length_cons, List.length_nil] at this; (try simp only [List.length_append, List.length_cons, List.length_nil]); omega)); intro v2 w2 hr2 hb2 hg2 hat2; obtain ⟨A2, n2, c2, e2⟩ := row_sl hr2; subst e2; have hk2 := Kp.of_grown hg2 hat2; have ho2 := blk_grown F1.out.hpo hg2 (Kd.R_ne F1.out.row F1.out.hpo (by decide)); have hcell2 := blk_cell ho2 0; have hfr2 := blk_frozen ho2 0; obtain ⟨q1, q2, q3⟩ := out_stored F1.out.hpo F1.out.row hr2 hb2 (Nat.le_succ_of_le HB.out) hk2; have F2 := Aside0.mk (F1.out.step q1 q2 q3); clear hr2 hb2 hg2 hat2 hk2 ho2 q1 q2 q3; have hp2 := blk_cell F2.out.hpn 0; have ho2 := blk_cell F2.out.hpo 0; have hs2 := blk_cell F2.out.hps 0; have ht2 := blk_cell F2.out.hps 1; have hg2 := blk_cell F2.out.gc 2; have hh2 := blk_cell F2.out.gc 3))
  go_ret
  obtain ⟨r1, r2, r3⟩ := fr_end HB.out F3.out
  exact ⟨_, rfl, by simpa [Pure.Tr.sh] using r1, r2, r3⟩
set_option maxRecDepth 100000 in
set_option maxHeartbeats 1600000 in
theorem signs_bi (k : Int) (hk : (k == 19) = false) (a c : Pure.Tr) (ha : Can14 a) (hc : Can14 c) : Can14 (.bi k a c) := by
  intro b g v w out ht hr hb hl
  obtain ⟨A0, n0, c0, rfl⟩ := row_sl hr
  obtain ⟨ga, gb, ht, hta, htc⟩ := ht
  have hg0 : ((w.alloc (.cells #[.pointer (some ⟨g, 0, none⟩)] 49)).alloc (.cells #[.slice A0 n0 c0] 22)).cell? ⟨g, 0, none⟩ = some (.int .i64 k) := cell_alloc_keep _ (cell_alloc_keep _ (blk_cell ht 0))
  have hg1 : ((w.alloc (.cells #[.pointer (some ⟨g, 0, none⟩)] 49)).alloc (.cells #[.slice A0 n0 c0] 22)).cell? ⟨g, 1, none⟩ = some (.int .i64 0) := cell_alloc_keep _ (cell_alloc_keep _ (blk_cell ht 1))
  have F1 := Aside0.mk (fr_start k 0 ht hr hb)
  have hgg1 : (((w.alloc (.cells #[.pointer (some ⟨g, 0, none⟩)] 49)).alloc (.cells #[.slice A0 n0 c0] 22)).alloc (.cells #[.int .i64 k, .int .i64 0] 33)).cell? ⟨g, 2, none⟩ = some (.pointer (some ⟨ga, 0, none⟩)) := blk_cell F1.out.gc 2
  have hhh1 : (((w.alloc (.cells #[.pointer (some ⟨g, 0, none⟩)] 49)).alloc (.cells #[.slice A0 n0 c0] 22)).alloc (.cells #[.int .i64 k, .int .i64 0] 33)).cell? ⟨g, 3, none⟩ = some (.pointer (some ⟨gb, 0, none⟩)) := blk_cell F1.out.gc 3
  have HB := Aside0.mk hb
  have HL := Aside0.mk hl
  have HWA := Aside0.mk (wr_ge k a.kind false a.sh)
  have HWC := Aside0.mk (wr_ge k c.kind true c.sh)
  have HA := Aside0.mk ha
  have HC := Aside0.mk hc
  have TA := Aside0.mk (F1.out.ch _ _ (TrAt.below (alloc3 w _ _ _) hta))
  have TC := Aside0.mk (F1.out.ch _ _ (TrAt.below (alloc3 w _ _ _) htc))
  clear ha hta hc htc
  clear hr hb hl ht
  go_enter Tryd.func17, Tryd.ntmps17
  go_wp2_with (first
    | (go_at_call 29; refine (part_calls c HC.out true k F3.out.hpn F3.out.hpo (blk_cell F3.out.gc 0) (F3.out.ch _ _ TC.out) F3.out.row (Nat.le_succ_of_le HB.out) (by have := HL.out; have wa := HWA.out; have wc := HWC.out; simp only [Pure.Tr.sh, List.length_append, List.length_cons, List.length_nil] at this; (try simp only [List.length_append, List.length_cons, List.length_nil]); omega)).mono ?_; rintro e w4 ⟨v4, rfl, hr2, ho2, hm2⟩; obtain ⟨A4, n4, c4, e2⟩ := row_sl hr2; subst e2; have F4 := Aside0.mk (F3.out.step hm2 hr2 ho2); clear hr2 ho2 hm2; have hp4 := blk_cell F4.out.hpn 0; have ho4 := blk_cell F4.out.hpo 0; have hs4 := blk_cell F4.out.hps 0; have ht4 := blk_cell F4.out.hps 1; have hg4 := blk_cell F4.out.gc 2; have hh4 := blk_cell F4.out.gc 3)
    | (at_builtin; refine Kd.R_append k33 (w0 := w2) b rfl (.tmp 27) (.tmp 29) 22 33 (.agg #[(.int .i64 0), (.int .i64 0)]) 16 rfl Tryd.underlying22 info33 rfl (by decide) (by omega) (.slice A2 n2 c2) (out ++ Pure.wr k a.kind false a.sh) (⟨k, 0⟩ : S33) [.int .i64 k, .int .i64 0] (fun _ => True) (fun _ => False) ?h1 ?h2 ?aP (fun _ hk => hk.elim) ?aF ?aO ?aB ?aS ?aL ?_; (case h1 => rfl); (case h2 => first | rfl | (simp only [World.size_setCell, World.size_alloc]; rfl)); (case aP => exact k33_mkM _ _ _ (⟨k, 0⟩ : S33)); (case aB => exact Below.refl _ _); (case aF => exact (fun _ _ => trivial)); (case aO => exact F2.out.row); (case aS => exact Nat.le_trans HB.out (Nat.le_of_lt (Nat.lt_of_succ_lt (blk_lt F2.out.hpo)))); (case aL => exact (by have := HL.out; have wa := HWA.out; have wc := HWC.out; simp only [Pure.Tr.sh, List.length_append, List.length_cons, List.length_nil] at this; (try simp only [List.length_append, List.length_cons, List.length_nil]); omega)); intro v3 w3 hr2 hb2 hg2 hat2; obtain ⟨A3, n3, c3, e2⟩ := row_sl hr2; subst e2; have hk2 := Kp.of_grown hg2 hat2; have ho2 := blk_grown F2.out.hpo hg2 (Kd.R_ne F2.out.row F2.out.hpo (by decide)); have hcell3 := blk_cell ho2 0; have hfr3 := blk_frozen ho2 0; obtain ⟨q1, q2, q3⟩ := out_stored F2.out.hpo F2.out.row hr2 hb2 (Nat.le_succ_of_le HB.out) hk2; have F3 := Aside0.mk (F2.out.step q1 q2 q3); clear hr2 hb2 hg2 hat2 hk2 ho2 q1 q2 q3; have hp3 := blk_cell F3.out.hpn 0; have ho3 := blk_cell F3.out.hpo 0; have hs3 := blk_cell F3.out.hps 0; have ht3 := blk_cell F3.out.hps 1; have hg3 := blk_cell F3.out.gc 2; have hh3 := blk_cell F3.out.gc 3)
    | (go_at_call 29; refine (part_calls a HA.out false k F1.out.hpn F1.out.hpo (blk_cell F1.out.gc 0) (F1.out.ch _ _ TA.out) F1.out.row (Nat.le_succ_of_le HB.out) (by have := HL.out; have wa := HWA.out; have wc := HWC.out; simp only [Pure.Tr.sh, List.length_append, List.length_cons, List.length_nil] at this; (try simp only [List.length_append, List.length_cons, List.length_nil]); omega)).mono ?_; rintro e w2 ⟨v2, rfl, hr2, ho2, hm2⟩; obtain ⟨A2, n2, c2, e2⟩ := row_sl hr2; subst e2; have F2 := Aside0.mk (F1.out.step hm2 hr2 ho2); clear hr2 ho2 hm2; have hp2 := blk_cell F2.out.hpn 0; have ho2 := blk_cell F2.out.hpo 0; have hs2 := blk_cell F2.out.hps 0; have ht2 := blk_cell F2.out.hps 1; have hg2 := blk_cell F2.out.gc 2; have hh2 := blk_cell F2.out.gc 3))
  go_ret
  obtain ⟨r1, r2, r3⟩ := fr_end HB.out F4.out
  exact ⟨_, rfl, by simpa [Pure.Tr.sh] using r1, r2, r3⟩
theorem signs_all : ∀ {bb : Bool} {t : Pure.Tr}, Pure.Wf bb t → Can14 t := by
  intro bb t h
  induction h with
  | num n => exact signs_lf 1 n rfl
  | name n => exact signs_lf 2 n rfl
  | neg _ ih => exact signs_neg _ ih
  | op k h3 h5 _ _ i1 i2 => exact signs_bi k (beq_eq_false_iff_ne.2 (by omega)) _ _ i1 i2
  | cmp k h3 h5 _ _ i1 i2 => exact signs_bi k (beq_eq_false_iff_ne.2 (by omega)) _ _ i1 i2
  | con k hk _ _ i1 i2 => exact signs_bi k (beq_eq_false_iff_ne.2 (by omega)) _ _ i1 i2
  | nt _ ih => exact signs_un 14 rfl _ ih
end Go.Proofs.YtikbgoppmailjaaDoor.H
/- The tree of the signs that lie behind, by a stack. -/
namespace Go.Proofs.YtikbgoppmailjaaDoor.Pure
open Go.RowKit Go.Proofs.YtikbgoppmailjaaDoor.H Go.Proofs.YtikbgoppmailjaaDoorW.PrintWords Go.Proofs.YtikbgoppmailjaaDoorW.PrintLast Go.Proofs.YtikbgoppmailjaaDoorW.PrintMore
set_option linter.unusedVariables false
set_option linter.unusedSimpArgs false
def stepT (s : S33) (ts : List Tr) : List Tr :=
  if (tk s.f0 s.f1).1 = 0 then .lf s.f0 s.f1 :: ts
  else if (tk s.f0 s.f1).1 = 1 then (match ts with | a :: r => .un s.f0 a :: r | [] => [])
  else (match ts with | b :: a :: r => .bi s.f0 a b :: r | _ => [])
def treeS : List S33 → List Tr → List Tr
  | [], ts => ts
  | s :: l, ts => treeS l (stepT s ts)
def shOf (l : List S33) : List S33 := match treeS l [] with | t :: _ => t.sh | [] => []
theorem goS_nx {s : S33} {l : List S33} {st : List Bool} {c : Int} {tr is : Bool} (ht : tk s.f0 s.f1 = (c, tr, is)) (h : goS (s :: l) st = true) : 0 ≤ c ∧ c ≤ st.length ∧ (st.take c.toNat).contains (!tr) = false ∧ goS l (is :: st.drop c.toNat) = true := by
  simp only [goS] at h
  rw [ht] at h
  dsimp only at h
  split at h
  · cases h
  · rename_i q
    split at h
    · cases h
    · rename_i q2
      exact ⟨by omega, by omega, Bool.eq_false_iff.2 q2, h⟩
/-- What a sign makes of the stack. -/
inductive Step (s : S33) (l : List S33) (ps : List (Bool × Tr)) : Prop
  | zero (tr is : Bool) : tk s.f0 s.f1 = (0, tr, is) → (∀ x ∈ (is, Tr.lf s.f0 s.f1) :: ps, Wf x.1 x.2) → goS l (((is, Tr.lf s.f0 s.f1) :: ps).map (·.1)) = true → Step s l ps
  | one (tr is b : Bool) (a : Tr) (qs : List (Bool × Tr)) : tk s.f0 s.f1 = (1, tr, is) → s.f1 = 0 → ps = (b, a) :: qs → (∀ x ∈ (is, Tr.un s.f0 a) :: qs, Wf x.1 x.2) → goS l (((is, Tr.un s.f0 a) :: qs).map (·.1)) = true → Step s l ps
  | two (tr is b d : Bool) (a c : Tr) (qs : List (Bool × Tr)) : tk s.f0 s.f1 = (2, tr, is) → s.f1 = 0 → ps = (d, c) :: (b, a) :: qs → (∀ x ∈ (is, Tr.bi s.f0 a c) :: qs, Wf x.1 x.2) → goS l (((is, Tr.bi s.f0 a c) :: qs).map (·.1)) = true → Step s l ps
theorem tree_step {s : S33} {l : List S33} {ps : List (Bool × Tr)} (hp : ∀ x ∈ ps, Wf x.1 x.2) (h : goS (s :: l) (ps.map (·.1)) = true) : Step s l ps := by
  have one : ∀ (tr is : Bool), tk s.f0 s.f1 = (1, tr, is) → s.f1 = 0 → (∀ a, Wf tr a → Wf is (.un s.f0 a)) → Step s l ps := by
    intro tr is ht h0 hmk
    obtain ⟨_, h2, h3, h4⟩ := goS_nx ht h
    match ps, hp, h2, h3, h4 with
    | [], _, h2, _, _ => exact absurd h2 (by simp)
    | (b, p) :: ps, hp, _, h3, h4 =>
      have hb : b = tr := by
        have : ([b] : List Bool).contains (!tr) = false := h3
        cases b <;> cases tr <;> first | rfl | (exact absurd this (by decide))
      subst hb
      exact .one b is b p ps ht h0 rfl (fun x hx => by
        rcases List.mem_cons.1 hx with rfl | hx
        · exact hmk p (hp (b, p) (by simp))
        · exact hp x (by simp [hx])) h4
  have two : ∀ (tr is : Bool), tk s.f0 s.f1 = (2, tr, is) → s.f1 = 0 → (∀ a c, Wf tr a → Wf tr c → Wf is (.bi s.f0 a c)) → Step s l ps := by
    intro tr is ht h0 hmk
    obtain ⟨_, h2, h3, h4⟩ := goS_nx ht h
    match ps, hp, h2, h3, h4 with
    | [], _, h2, _, _ => exact absurd h2 (by simp)
    | [x], _, h2, _, _ => exact absurd h2 (by simp)
    | (b, q) :: (d, p) :: ps, hp, _, h3, h4 =>
      have hb : b = tr ∧ d = tr := by
        have : ([b, d] : List Bool).contains (!tr) = false := h3
        cases b <;> cases d <;> cases tr <;> first | exact ⟨rfl, rfl⟩ | (exact absurd this (by decide))
      obtain ⟨rfl, rfl⟩ := hb
      exact .two d is d d p q ps ht h0 rfl (fun x hx => by
        rcases List.mem_cons.1 hx with rfl | hx
        · exact hmk p q (hp (d, p) (by simp)) (hp (d, q) (by simp))
        · exact hp x (by simp [hx])) h4
  have zero : tk s.f0 s.f1 = (0, false, false) → Wf false (.lf s.f0 s.f1) → Step s l ps := by
    intro ht hmk
    obtain ⟨_, _, _, h4⟩ := goS_nx ht h
    exact .zero false false ht (fun x hx => by
      rcases List.mem_cons.1 hx with rfl | hx
      · exact hmk
      · exact hp x hx) (by simpa using h4)
  have neg : ∀ (tr is : Bool), tk s.f0 s.f1 = (-1, tr, is) → Step s l ps := by
    intro tr is ht
    obtain ⟨h1, _⟩ := goS_nx ht h
    omega
  obtain ⟨a, c⟩ := s
  dsimp only at *
  have ht : tk a c = tk a c := rfl
  unfold tk at ht
  by_cases h1 : a = 1
  · subst h1
    rw [if_pos rfl] at ht
    by_cases hc : 0 ≤ c ∧ c ≤ 2147483647
    · exact zero (by rw [tk, if_pos rfl, if_pos hc]) (Wf.num c hc.1 hc.2)
    · exact neg false false (by rw [tk, if_pos rfl, if_neg hc])
  · by_cases h2 : a = 2
    · subst h2
      by_cases hc : 0 ≤ c ∧ c < 26
      · exact zero (by rw [tk, if_neg h1, if_pos rfl, if_pos hc]) (Wf.name c hc.1 hc.2)
      · exact neg false false (by rw [tk, if_neg h1, if_pos rfl, if_neg hc])
    · by_cases hc : c = 0
      · subst hc
        have ht : tk a 0 = if a = 19 then (1, false, false) else if a = 3 ∨ a = 4 ∨ a = 5 then (2, false, false) else if 6 ≤ a ∧ a ≤ 11 then (2, false, true) else if a = 12 ∨ a = 13 then (2, true, true) else if a = 14 then (1, true, true) else (-1, false, false) := by
          unfold tk
          rw [if_neg h1, if_neg h2, if_neg (show ¬ ((0 : Int) ≠ 0) by simp)]
        by_cases h19 : a = 19
        · rw [if_pos h19] at ht
          subst h19
          exact one false false ht rfl (fun p hp => Wf.neg hp)
        · rw [if_neg h19] at ht
          by_cases h3 : a = 3 ∨ a = 4 ∨ a = 5
          · rw [if_pos h3] at ht
            exact two false false ht rfl (fun p q hp hq => Wf.op a (by omega) (by omega) hp hq)
          · rw [if_neg h3] at ht
            by_cases h6 : 6 ≤ a ∧ a ≤ 11
            · rw [if_pos h6] at ht
              exact two false true ht rfl (fun p q hp hq => Wf.cmp a h6.1 h6.2 hp hq)
            · rw [if_neg h6] at ht
              by_cases h12 : a = 12 ∨ a = 13
              · rw [if_pos h12] at ht
                exact two true true ht rfl (fun p q hp hq => Wf.con a h12 hp hq)
              · rw [if_neg h12] at ht
                by_cases h14 : a = 14
                · rw [if_pos h14] at ht
                  subst h14
                  exact one true true ht rfl (fun p hp => Wf.nt hp)
                · rw [if_neg h14] at ht
                  exact neg false false ht
      · exact neg false false (by unfold tk; rw [if_neg h1, if_neg h2, if_pos hc])
theorem stepT_zero {s : S33} {tr is : Bool} (h : tk s.f0 s.f1 = (0, tr, is)) (ts : List Tr) : stepT s ts = .lf s.f0 s.f1 :: ts := by unfold stepT; rw [h]; rfl
theorem stepT_one {s : S33} {tr is : Bool} (h : tk s.f0 s.f1 = (1, tr, is)) (a : Tr) (ts : List Tr) : stepT s (a :: ts) = .un s.f0 a :: ts := by unfold stepT; rw [h]; rfl
theorem stepT_two {s : S33} {tr is : Bool} (h : tk s.f0 s.f1 = (2, tr, is)) (a b : Tr) (ts : List Tr) : stepT s (b :: a :: ts) = .bi s.f0 a b :: ts := by unfold stepT; rw [h]; rfl
def flatT : List (Bool × Tr) → List S33
  | [] => []
  | x :: ps => flatT ps ++ x.2.post
/-- The signs that Good takes are one tree's, behind. -/
theorem tree_of : ∀ (l : List S33) (ps : List (Bool × Tr)), (∀ x ∈ ps, Wf x.1 x.2) → goS l (ps.map (·.1)) = true → ∃ t, treeS l (ps.map (·.2)) = [t] ∧ Wf true t ∧ t.post = flatT ps ++ l
  | [], ps, hp, h => by
    have h : (ps.map (·.1) == [true]) = true := h
    have e := beq_iff_eq.1 h
    cases ps with
    | nil => cases e
    | cons x ps =>
      have e' : x.1 :: ps.map (·.1) = [true] := e
      have e1 : x.1 = true := (List.cons.inj e').1
      have e2 : ps = [] := List.map_eq_nil_iff.1 (List.cons.inj e').2
      subst e2
      have q := hp x (by simp)
      rw [e1] at q
      exact ⟨x.2, rfl, q, by simp [flatT]⟩
  | s :: l, ps, hp, h => by
    rcases tree_step hp h with ⟨tr, is, ht, hw, hg⟩ | ⟨tr, is, b, a, qs, ht, h0, rfl, hw, hg⟩ | ⟨tr, is, b, d, a, c, qs, ht, h0, rfl, hw, hg⟩
    · obtain ⟨t, e1, e2, e3⟩ := tree_of l _ hw hg
      refine ⟨t, ?_, e2, ?_⟩
      · simp only [treeS]; rw [stepT_zero ht]; exact e1
      · rw [e3]; simp [flatT, Tr.post]
    · obtain ⟨t, e1, e2, e3⟩ := tree_of l _ hw hg
      refine ⟨t, ?_, e2, ?_⟩
      · simp only [treeS, List.map_cons]; rw [stepT_one ht]; exact e1
      · have es : s = ⟨s.f0, 0⟩ := by rw [← h0]
        rw [e3]; simp only [flatT, Tr.post]; rw [es]; simp
    · obtain ⟨t, e1, e2, e3⟩ := tree_of l _ hw hg
      refine ⟨t, ?_, e2, ?_⟩
      · simp only [treeS, List.map_cons]; rw [stepT_two ht]; exact e1
      · have es : s = ⟨s.f0, 0⟩ := by rw [← h0]
        rw [e3]; simp only [flatT, Tr.post]; rw [es]; simp
theorem tree_whole {l : List S33} (h : goS l [] = true) : ∃ t, treeS l [] = [t] ∧ Wf true t ∧ t.post = l := by
  obtain ⟨t, e1, e2, e3⟩ := tree_of l [] (fun x hx => absurd hx (by simp)) h
  exact ⟨t, e1, e2, by simpa [flatT] using e3⟩
theorem shOf_tree {l : List S33} {t : Tr} (h : treeS l [] = [t]) : shOf l = t.sh := by unfold shOf; rw [h]
end Go.Proofs.YtikbgoppmailjaaDoor.Pure
/- guard.Print: what it says of signs. -/
namespace Go.Proofs.YtikbgoppmailjaaDoor.H
open Go.RowKit Go.HK Go.Proofs.YtikbgoppmailjaaDoorW.PrintWords Go.Proofs.YtikbgoppmailjaaDoorW.PrintLast Go.Proofs.YtikbgoppmailjaaDoorW.PrintMore
set_option linter.unusedVariables false
set_option linter.unusedSimpArgs false
def guard_Print.f (k : Nat) (a0 : List S33) : Option (ByteArray × Bool) :=
  if a0.length ≤ 10000 then (if Pure.goS a0 [] = true then lex_Print.f k (Pure.shOf a0) else some (⟨#[]⟩, false)) else none
theorem guard_Print.mono : ∀ a0 k, LeO (guard_Print.f k a0) (guard_Print.f (k + 1) a0) := by
  intro a0 k r h
  unfold guard_Print.f at h ⊢
  split at h
  · rename_i c
    rw [if_pos c]
    split at h
    · rename_i c
      rw [if_pos c]
      exact lex_Print.mono _ k r h
    · rename_i c
      rw [if_neg c]; exact h
  · cases h
/-- Pointers to nodes, as a kind. -/
abbrev kP : Kd Nat := Kd.scalar (fun g : Nat => Value.pointer (some ⟨g, 0, none⟩)) (fun _ => rfl)
theorem infoP : (Tryd.prog.info? 49).map (fun i => (i.zero, i.size, i.bytes)) = some (some (.pointer none), 1, 8) := by kernel_rfl
abbrev Stk (w : World) (b : Nat) (v : Value) (gs : List Nat) : Prop := Kd.R kP 49 w b (fun _ => True) v gs
theorem TrAt.grown {w w1 : World} {b : Nat} {v : Value} {gs : List Nat} (hr : Stk w b v gs) (hg : w.grownBy w1 v.ownBlock) {t : Pure.Tr} {gx : Nat} (h : TrAt w gx t) : TrAt w1 gx t :=
  TrAt.move (fun k cells q => blk_grown q hg (Kd.R_ne hr q (by decide))) h
/-- The trees that lie on the stack, the last one first. -/
def AllR (w : World) : List Nat → List (Bool × Pure.Tr) → Prop
  | [], [] => True
  | g :: gs, p :: ps => TrAt w g p.2 ∧ AllR w gs ps
  | _, _ => False
theorem AllR.move {w w1 : World} (h : ∀ (g : Nat) (t : Pure.Tr), TrAt w g t → TrAt w1 g t) : ∀ {gs : List Nat} {ps : List (Bool × Pure.Tr)}, AllR w gs ps → AllR w1 gs ps
  | [], [], _ => trivial
  | _ :: _, _ :: _, q => ⟨h _ _ q.1, AllR.move h q.2⟩
  | [], _ :: _, q => q.elim
  | _ :: _, [], q => q.elim
theorem stk_get {w : World} {b : Nat} {A : Option Addr} {n c : Nat} {xs : List Nat} (h : Stk w b (.slice A n c) xs) (m g : Nat) (hm : xs[m]? = some g) : ∃ ad, A = some ad ∧ w.cell? (ad.add m) = some (.pointer (some ⟨g, 0, none⟩)) := by
  obtain ⟨e1, e2, hC⟩ := Kd.R_reads' h
  have hlt := (List.getElem?_eq_some_iff.1 hm).1
  obtain ⟨ad, cs, eA, _, hK, hc⟩ := Kd.C_get hC (0 : Nat) (m : Int) (by omega) (by omega)
  have hK : cs = [Value.pointer (some ⟨xs.getD m 0, 0, none⟩)] := hK
  refine ⟨ad, eA, ?_⟩
  have h0 := hc 0 (Value.pointer (some ⟨xs.getD m 0, 0, none⟩)) (by rw [hK]; rfl)
  have e : xs.getD m 0 = g := by rw [List.getD_eq_getElem?_getD, hm]; rfl
  rw [e] at h0
  have e2 : ((m : Int).toNat * kP.sz + 0) = m := by
    show (m : Int).toNat * 1 + 0 = m
    omega
  rw [e2] at h0
  exact h0
/-- A round of Print's loop: what lies on the stack, what is still to come. -/
structure PrI (l : List S33) (t : Pure.Tr) (b : Nat) (w0 : World) (i : Nat) (hs : List Nat) (ps : List (Bool × Pure.Tr)) (v : Value) (w : World) : Prop where
  st : Stk w b v hs.reverse
  at_ : AllR w hs ps
  wf : ∀ x ∈ ps, Pure.Wf x.1 x.2
  go : Pure.goS (l.drop i) (ps.map (·.1)) = true
  tr : Pure.treeS (l.drop i) (ps.map (·.2)) = [t]
  be : Below b w0 w
  le : hs.length ≤ i
theorem w64n (a : Int) (h : -9223372036854775808 ≤ a ∧ a ≤ 9223372036854775807) : wrap64 a = a := by unfold wrap64; omega
theorem rd_at14 (l : List S33) (i : Nat) (h : i < l.length) : rd_T33 l (i : Int) = l[i] := by
  unfold rd_T33
  rw [Int.toNat_natCast, List.getD_eq_getElem?_getD, List.getElem?_eq_getElem h]
  rfl
theorem PrI.next {l : List S33} {t : Pure.Tr} {b : Nat} {w0 w w2 w5 : World} {i : Nat} {v : Value} {hs hs' : List Nat} {ps qs : List (Bool × Pure.Tr)} {A : Option Addr} {m c : Nat} {v5 : Value} {nc : Array Value} {is : Bool} {tr : Pure.Tr}
    (h : PrI l t b w0 i hs ps v w) (hi : i < l.length) (hb : b ≤ w.heap.size) (hb2 : Below w.heap.size w w2)
    (hst : Stk (w2.alloc (.cells nc 51)) b (.slice A m c) hs'.reverse) (hr5 : Stk w5 b v5 (hs'.reverse ++ [w2.heap.size])) (hb5 : Below b (w2.alloc (.cells nc 51)) w5) (hg5 : (w2.alloc (.cells nc 51)).grownBy w5 (Value.slice A m c).ownBlock)
    (hrest : ∀ w', AllR w' hs ps → AllR w' hs' qs) (htr : ∀ w', AllR w' hs ps → w'.heap[w2.heap.size]? = some (.cells nc 51 (0, 0)) → TrAt w' w2.heap.size tr)
    (hw : ∀ x ∈ (is, tr) :: qs, Pure.Wf x.1 x.2) (hg : Pure.goS (l.drop (i + 1)) (((is, tr) :: qs).map (·.1)) = true) (ht : Pure.stepT l[i] (ps.map (·.2)) = tr :: qs.map (·.2)) (hle : hs'.length ≤ hs.length) : PrI l t b w0 (i + 1) (w2.heap.size :: hs') ((is, tr) :: qs) v5 w5 := by
  have mv : ∀ (g : Nat) (t : Pure.Tr), TrAt w g t → TrAt w5 g t := fun g t q => TrAt.grown hst hg5 (TrAt.below ((Below.refl w2.heap.size w2).alloc (Nat.le_refl _) _) (TrAt.below hb2 q))
  have ha5 := h.at_.move mv
  have hn : (w2.alloc (.cells nc 51)).heap[w2.heap.size]? = some (.cells nc 51 (0, 0)) := heap_alloc_last _ _
  have hn5 := blk_grown hn hg5 (Kd.R_ne hst hn (by decide))
  refine ⟨by rw [List.reverse_cons]; exact hr5, ⟨htr w5 ha5 hn5, hrest w5 ha5⟩, hw, hg, ?_, ?_, ?_⟩
  · have := h.tr
    rw [List.drop_eq_getElem_cons hi] at this
    simp only [Pure.treeS] at this
    rw [ht] at this
    exact this
  · have h2 : b ≤ w2.heap.size := Nat.le_trans hb hb2.size
    exact (h.be.trans (hb2.mono hb)).trans ((((Below.refl w2.heap.size w2).alloc (Nat.le_refl _) _).mono h2).trans hb5)
  · have := h.le
    simp only [List.length_cons]
    omega
set_option maxRecDepth 100000 in
set_option maxHeartbeats 1600000 in
theorem guard_Print.calls (k : Nat) (A0 : Option Addr) (c0 : Nat) (l : List S33) (r1 : ByteArray) (r2 : Bool) (w : World) (hr0 : Kd.C k33 w A0 l.length l) (hc0 : l.length ≤ c0) (hT : Tabs w) (h : guard_Print.f k l = some (r1, r2)) :
    Calls Tryd.prog 8 #[.slice A0 l.length c0] w fun e w' => e = .returned (.tuple #[.string r1, .bool r2]) ∧ Below w.heap.size w w' := by
  unfold guard_Print.f at h
  by_cases hll : l.length ≤ 10000
  case neg => rw [if_neg hll] at h; cases h
  rw [if_pos hll] at h
  have hgood := Pure.good_goS l (by omega) _ (Nat.le_refl _)
  have HR0 := Aside0.mk hr0
  have HC0 := Aside0.mk hc0
  have HT := Aside0.mk hT
  have HLL := Aside0.mk hll
  cases hg0 : Pure.goS l [] with
  | false =>
    rw [hg0] at h hgood
    rw [if_neg (by decide)] at h
    obtain ⟨rfl, rfl⟩ := Prod.mk.inj (Option.some.inj h)
    have HG := Aside0.mk hgood
    clear h hgood hr0 hc0 hT hll
    go_enter Tryd.func8, Tryd.ntmps8
    go_wp2_with (first
      | (go_at_call 11; refine (guard_Good.calls _ A0 c0 l false w HR0.out HC0.out HG.out).mono ?_; rintro e w1 ⟨rfl, hb⟩; have HB1 := Aside0.mk hb; clear hb))
    go_ret2
    exact ⟨rfl, HB1.out⟩
  | true =>
    obtain ⟨t, et, wt, pt⟩ := Pure.tree_whole hg0
    have hsh := Pure.sh_len wt
    rw [pt] at hsh
    rw [hg0] at h hgood
    rw [if_pos rfl, Pure.shOf_tree et] at h
    have HLP := Aside0.mk h
    have HG := Aside0.mk hgood
    have HG0 := Aside0.mk hg0
    have HET := Aside0.mk et
    have HWT := Aside0.mk wt
    have HSH := Aside0.mk hsh
    obtain ⟨iP, hiP, _⟩ := info_parts infoP
    clear h hgood hr0 hc0 hT hll hg0 et wt pt hsh
    go_enter Tryd.func8, Tryd.ntmps8
    go_wp2_with (first
      | (go_at_call 11; refine (guard_Good.calls _ A0 c0 l true w HR0.out HC0.out HG.out).mono ?_; rintro e w1 ⟨rfl, hb⟩; have HB1 := Aside0.mk hb; clear hb))
    go_loopg [4, 17] (l.length + 1) (fun kq v4 v17 wr => ∃ (i : Nat) (hs : List Nat) (ps : List (Bool × Pure.Tr)), v17 = .int .i64 (i : Int) ∧ kq + i = l.length + 1 ∧ i ≤ l.length ∧ PrI l t w.heap.size w i hs ps v4 wr)
    case atStart => exact ⟨0, [], [], rfl, by omega, by omega, ⟨Kd.R_nil _ _ _ _ _, trivial, fun x hx => absurd hx (by simp), HG0.out, HET.out, HB1.out, Nat.le_refl _⟩⟩
    case round =>
      clear HB1
      obtain ⟨i, hs, ps, rfl, hki, hil, hP⟩ := hrel
      have HKI := Aside0.mk hki
      by_cases hlt : i < l.length
      case neg =>
        have hgo := hP.go
        have htr := hP.tr
        rw [List.drop_eq_nil_of_le (by omega)] at hgo htr
        have htr : ps.map (·.2) = [t] := htr
        obtain ⟨x, rfl, hx⟩ := List.map_eq_singleton_iff.1 htr
        obtain ⟨g, rfl⟩ : ∃ g, hs = [g] := by
          have := hP.at_
          match hs, this with
          | [g], _ => exact ⟨g, rfl⟩
        have hta := hP.at_.1
        rw [hx] at hta
        obtain ⟨A4, n, c4, rfl⟩ : ∃ A n c, u4 = .slice A n c := by obtain ⟨A, c, e⟩ := Kd.R_slice hP.st; exact ⟨A, _, c, e⟩
        have en := (Kd.R_reads' hP.st).1
        obtain rfl : n = 1 := en
        obtain ⟨ad1, rfl, hst0⟩ := stk_get hP.st 0 g rfl
        have hst0 : wr.cell? ad1 = some (.pointer (some ⟨g, 0, none⟩)) := by simpa [Addr.add] using hst0
        have hkl : decide ((i : Int) < (l.length : Int)) = false := decide_eq_false (by omega)
        have hkl2 : decide (i < l.length) = false := decide_eq_false hlt
        have HTA := Aside0.mk hta
        have HBE := Aside0.mk hP.be
        clear hP hta hgo htr hx hki hil hlt
        go_wp2_with (first
          | (go_at_call 16; refine (lex_Print.calls k A2 c2 t.sh r1 r2 w2 HC2.out HLC2.out (HT.out.below HB2.out) HLP.out).mono ?_; rintro e w3 ⟨rfl, hb⟩; have HB3 := Aside0.mk (HB2.out.trans (hb.mono HB2.out.size)); clear hb)
          | (go_at_call 17; refine (signs_all HWT.out wr.heap.size g (.slice none 0 0) wr [] HTA.out (Kd.R_nil _ _ _ _ _) (Nat.le_refl _) (by have := HSH.out; have := HLL.out; simp only [List.length_nil]; omega)).mono ?_; rintro e w2 ⟨v2, rfl, hr2, hb2, _⟩; rw [List.nil_append] at hr2; obtain ⟨A2, c2, e2, hlc, hC⟩ := Kd.R_reads hr2; subst e2; have HC2 := Aside0.mk hC; have HLC2 := Aside0.mk hlc; have HB2 := Aside0.mk (HBE.out.trans (hb2.mono HBE.out.size)); clear hr2 hb2 hlc hC))
        go_ret2
        exact ⟨rfl, HB3.out⟩
      case pos =>
        have hin : (i : Int) < (l.length : Int) := by omega
        obtain ⟨ad, eA, e0, e1⟩ := at_T33 HR0.out (i : Int) (by omega) hin
        subst eA
        rw [rd_at14 l i hlt, Int.toNat_natCast] at e0 e1
        replace e0 := (hP.be.cell (World.block_lt_of_cell? w _ e0)).trans e0
        replace e1 := (hP.be.cell (World.block_lt_of_cell? w _ e1)).trans e1
        have p0 : (0 ≤ (i : Int)) = True := eq_true (by omega)
        have q0 : ((i : Int) < (l.length : Int)) = True := eq_true hin
        have hkl : decide ((i : Int) < (l.length : Int)) = true := decide_eq_true hin
        have hkl2 : decide (i < l.length) = true := decide_eq_true hlt
        have HADD := Aside0.mk (show wrap64 ((i : Int) + 1) = ((i + 1 : Nat) : Int) from (w64n _ (by have := HLL.out; omega)).trans (by omega))
        obtain ⟨A4, n, c4, rfl⟩ : ∃ A n c, u4 = .slice A n c := by obtain ⟨A, c, e⟩ := Kd.R_slice hP.st; exact ⟨A, _, c, e⟩
        have HP := Aside0.mk hP
        have HBE := Aside0.mk hP.be
        have hstep := hP.go
        rw [List.drop_eq_getElem_cons hlt] at hstep
        rcases Pure.tree_step hP.wf hstep with ⟨tr, is, ht, hw, hg⟩ | ⟨tr, is, b, a, qs, ht, h0, rfl, hw, hg⟩ | ⟨tr, is, b, d, a, d2, qs, ht, h0, rfl, hw, hg⟩
        · have TK := Aside0.mk ((Pure.takes_tk 0 _ _).trans (congrArg some ht))
          clear hstep hki hil
          obtain ⟨m, HM⟩ : ∃ m, Aside0 (m = hs.length) := ⟨_, ⟨rfl⟩⟩
          have hsl := hP.st
          have en := (Kd.R_reads' hsl).1
          rw [List.length_reverse] at en
          have hmn : m = n := by have := HM.out; omega
          subst hmn
          have hw0 : wrap64 (m : Int) = (m : Int) := w64n _ (by have := hP.le; have := HM.out; have := HLL.out; omega)
          have hcut := cut_to (P := Tryd.prog) 46 49 .i64 Tryd.underlying46 hiP A4 m c4 (m : Int) (by omega) (by have := HM.out; omega) (Kd.R_reads' hsl).2.1
          rw [Int.toNat_natCast] at hcut
          have htk := Kd.R_take (m := m) hsl (by have := HM.out; simp only [List.length_reverse, List.length_cons]; omega)
          have etk : hs.reverse.take m = hs.reverse := by
            have := HM.out
            exact List.take_of_length_le (by simp; omega)
          rw [etk] at htk
          have HTK := Aside0.mk htk
          have HW := Aside0.mk hw
          have HGG := Aside0.mk hg
          have HTT := Aside0.mk ht
          clear hP hsl htk etk hw hg ht en
          go_wp2_with (first
            | (at_builtin; refine Kd.R_append kP (w0 := (w2.alloc (.cells #[.int .i64 l[i].f0, .int .i64 l[i].f1, .pointer none, .pointer none] 51))) w.heap.size rfl (.tmp 55) (.tmp 57) 46 49 (.pointer none) 8 rfl Tryd.underlying46 infoP rfl (by decide) (by omega) (.slice A4 m c4) hs.reverse w2.heap.size [.pointer (some ⟨w2.heap.size, 0, none⟩)] (fun _ => True) (fun _ => False) ?h1 ?h2 ?aP (fun _ hk => hk.elim) ?aF ?aO ?aB ?aS ?aL ?_; (case h1 => rfl); (case h2 => first | rfl | (simp only [World.size_setCell, World.size_alloc]; rfl)); (case aP => exact rfl); (case aB => exact Below.refl _ _); (case aF => exact (fun _ _ => trivial)); (case aO => exact HTW.out); (case aS => have := HBE.out.size; have := HB2.out.size; simp only [World.size_alloc]; omega); (case aL => have := HM.out; have := HP.out.le; have := HLL.out; (try simp only [List.length_reverse, List.length_cons] at *); omega); intro v5 w5 hr5 hb5 hg5 hat5; have HR5 := Aside0.mk hr5; have HB5 := Aside0.mk hb5; have HG5 := Aside0.mk hg5; clear hr5 hb5 hg5 hat5)
            | (go_at_call 15; refine (guard_takes.calls 6 l[i].f0 l[i].f1 0 tr is _ TK.out).mono ?_; rintro e w2 ⟨rfl, hb⟩; have hB2 : Below wr.heap.size wr w2 := ((Below.refl wr.heap.size wr).alloc (Nat.le_refl _) _).trans (hb.mono (by simp)); have HB2 := Aside0.mk hB2; have hbk := (hb.block _ (by simp)).trans (heap_alloc_last wr (.cells #[.int .i64 l[i].f0, .int .i64 l[i].f1] 33)); have hs0 := blk_cell hbk 0; have hs1 := blk_cell hbk 1; have HTW := Aside0.mk (Kd.R_alloc (Kd.R_below HTK.out hB2) (.cells #[.int .i64 l[i].f0, .int .i64 l[i].f1, .pointer none, .pointer none] 51)); clear hb hbk hB2))
          go_roundg (l.length - i)
          case measure => have := HKI.out; omega
          case rel => exact ⟨i + 1, w2.heap.size :: hs, (is, Pure.Tr.lf l[i].f0 l[i].f1) :: ps, by first | rfl | exact congrArg (Value.int .i64) HADD.out, by have := HKI.out; omega, by omega, PrI.next HP.out hlt (by have := HBE.out.size; omega) HB2.out HTW.out HR5.out HB5.out HG5.out (hrest := fun w' q => q) (htr := fun w' q hn => hn) (hw := HW.out) (hg := HGG.out) (ht := Pure.stepT_zero HTT.out _) (hle := Nat.le_refl _)⟩
        · have TK := Aside0.mk ((Pure.takes_tk 0 _ _).trans (congrArg some ht))
          clear hstep hki hil
          obtain ⟨ga, hs', rfl⟩ : ∃ ga hs', hs = ga :: hs' := by cases hs with | nil => exact absurd hP.at_ (fun q => q) | cons ga hs' => exact ⟨ga, hs', rfl⟩
          obtain ⟨m, HM⟩ : ∃ m, Aside0 (m = hs'.length) := ⟨_, ⟨rfl⟩⟩
          have hsl := hP.st
          have en := (Kd.R_reads' hsl).1
          rw [List.length_reverse, List.length_cons] at en
          have hle0 := hP.le
          rw [List.length_cons] at hle0
          have hw1 : wrap64 ((n : Int) - 1) = (m : Int) := (w64n _ (by have := HM.out; have := HLL.out; omega)).trans (by have := HM.out; omega)
          obtain ⟨ad1, eA, hst0⟩ := stk_get hsl m ga (by have := HM.out; subst this; simp)
          subst eA
          have p1 : (0 ≤ (m : Int)) = True := eq_true (by omega)
          have q1 : ((m : Int) < (n : Int)) = True := eq_true (by have := HM.out; omega)
          have hcut := cut_to (P := Tryd.prog) 46 49 .i64 Tryd.underlying46 hiP (some ad1) n c4 (m : Int) (by omega) (by have := HM.out; omega) (Kd.R_reads' hsl).2.1
          rw [Int.toNat_natCast] at hcut
          have htk := Kd.R_take (m := m) hsl (by have := HM.out; simp only [List.length_reverse, List.length_cons]; omega)
          have etk : (ga :: hs').reverse.take m = hs'.reverse := by
            have := HM.out
            rw [List.reverse_cons, List.take_append_of_le_length (by simp; omega), List.take_of_length_le (by simp; omega)]
          rw [etk] at htk
          have HTK := Aside0.mk htk
          have HW := Aside0.mk hw
          have HGG := Aside0.mk hg
          have HTT := Aside0.mk ht
          have h0' : l[i].f1 = 0 := h0
          rw [h0'] at e1 TK
          clear h0'
          clear hP hsl htk etk hw hg ht en
          clear hle0 h0
          go_wp2_with (first
            | (at_builtin; refine Kd.R_append kP (w0 := (w2.alloc (.cells #[.int .i64 l[i].f0, .int .i64 0, .pointer (some ⟨ga, 0, none⟩), .pointer none] 51))) w.heap.size rfl (.tmp 55) (.tmp 57) 46 49 (.pointer none) 8 rfl Tryd.underlying46 infoP rfl (by decide) (by omega) (.slice (some ad1) m c4) hs'.reverse w2.heap.size [.pointer (some ⟨w2.heap.size, 0, none⟩)] (fun _ => True) (fun _ => False) ?h1 ?h2 ?aP (fun _ hk => hk.elim) ?aF ?aO ?aB ?aS ?aL ?_; (case h1 => rfl); (case h2 => first | rfl | (simp only [World.size_setCell, World.size_alloc]; rfl)); (case aP => exact rfl); (case aB => exact Below.refl _ _); (case aF => exact (fun _ _ => trivial)); (case aO => exact HTW.out); (case aS => have := HBE.out.size; have := HB2.out.size; simp only [World.size_alloc]; omega); (case aL => have := HM.out; have := HP.out.le; have := HLL.out; (try simp only [List.length_reverse, List.length_cons] at *); omega); intro v5 w5 hr5 hb5 hg5 hat5; have HR5 := Aside0.mk hr5; have HB5 := Aside0.mk hb5; have HG5 := Aside0.mk hg5; clear hr5 hb5 hg5 hat5)
            | (go_at_call 15; refine (guard_takes.calls 6 l[i].f0 0 1 tr is _ TK.out).mono ?_; rintro e w2 ⟨rfl, hb⟩; have hB2 : Below wr.heap.size wr w2 := ((Below.refl wr.heap.size wr).alloc (Nat.le_refl _) _).trans (hb.mono (by simp)); have HB2 := Aside0.mk hB2; have hbk := (hb.block _ (by simp)).trans (heap_alloc_last wr (.cells #[.int .i64 l[i].f0, .int .i64 0] 33)); have hs0 := blk_cell hbk 0; have hs1 := blk_cell hbk 1; have hsa := cell_alloc_keep (.cells #[.int .i64 l[i].f0, .int .i64 0, .pointer none, .pointer none] 51) ((hB2.cell (World.block_lt_of_cell? _ _ hst0)).trans hst0); have HTW := Aside0.mk (Kd.R_alloc (Kd.R_below HTK.out hB2) (.cells #[.int .i64 l[i].f0, .int .i64 0, .pointer (some ⟨ga, 0, none⟩), .pointer none] 51)); clear hb hbk hB2))
          go_roundg (l.length - i)
          case measure => have := HKI.out; omega
          case rel => exact ⟨i + 1, w2.heap.size :: hs', (is, Pure.Tr.un l[i].f0 a) :: qs, by first | rfl | exact congrArg (Value.int .i64) HADD.out, by have := HKI.out; omega, by omega, PrI.next HP.out hlt (by have := HBE.out.size; omega) HB2.out HTW.out HR5.out HB5.out HG5.out (hrest := fun w' q => q.2) (htr := fun w' q hn => ⟨ga, hn, q.1⟩) (hw := HW.out) (hg := HGG.out) (ht := Pure.stepT_one HTT.out _ _) (hle := by simp)⟩
        · have TK := Aside0.mk ((Pure.takes_tk 0 _ _).trans (congrArg some ht))
          clear hstep hki hil
          obtain ⟨gb, ga, hs', rfl⟩ : ∃ gb ga hs', hs = gb :: ga :: hs' := by
            cases hs with
            | nil => exact absurd hP.at_ (fun q => q)
            | cons gb hs' => cases hs' with
              | nil => exact absurd hP.at_.2 (fun q => q)
              | cons ga hs' => exact ⟨gb, ga, hs', rfl⟩
          obtain ⟨m, HM⟩ : ∃ m, Aside0 (m = hs'.length) := ⟨_, ⟨rfl⟩⟩
          obtain ⟨m1, HM1⟩ : ∃ m, Aside0 (m = hs'.length + 1) := ⟨_, ⟨rfl⟩⟩
          have hsl := hP.st
          have en := (Kd.R_reads' hsl).1
          rw [List.length_reverse, List.length_cons, List.length_cons] at en
          have hle0 := hP.le
          rw [List.length_cons, List.length_cons] at hle0
          have hw1 : wrap64 ((n : Int) - 2) = (m : Int) := (w64n _ (by have := HM.out; have := HLL.out; omega)).trans (by have := HM.out; omega)
          have hw2 : wrap64 ((m : Int) + 1) = (m1 : Int) := (w64n _ (by have := HM.out; have := HLL.out; omega)).trans (by have := HM.out; have := HM1.out; omega)
          obtain ⟨ad1, eA, hst0⟩ := stk_get hsl m ga (by have := HM.out; subst this; simp)
          obtain ⟨ad2, eA2, hst1⟩ := stk_get hsl m1 gb (by have := HM1.out; subst this; simp)
          subst eA
          obtain rfl := Option.some.inj eA2
          have p1 : (0 ≤ (m : Int)) = True := eq_true (by omega)
          have q1 : ((m : Int) < (n : Int)) = True := eq_true (by have := HM.out; omega)
          have p2 : (0 ≤ (m1 : Int)) = True := eq_true (by omega)
          have q2 : ((m1 : Int) < (n : Int)) = True := eq_true (by have := HM1.out; omega)
          have hcut := cut_to (P := Tryd.prog) 46 49 .i64 Tryd.underlying46 hiP (some ad1) n c4 (m : Int) (by omega) (by have := HM.out; omega) (Kd.R_reads' hsl).2.1
          rw [Int.toNat_natCast] at hcut
          have htk := Kd.R_take (m := m) hsl (by have := HM.out; simp only [List.length_reverse, List.length_cons]; omega)
          have etk : (gb :: ga :: hs').reverse.take m = hs'.reverse := by
            have := HM.out
            rw [List.reverse_cons, List.reverse_cons, List.append_assoc, List.take_append_of_le_length (by simp; omega), List.take_of_length_le (by simp; omega)]
          rw [etk] at htk
          have HTK := Aside0.mk htk
          have HW := Aside0.mk hw
          have HGG := Aside0.mk hg
          have HTT := Aside0.mk ht
          have h0' : l[i].f1 = 0 := h0
          rw [h0'] at e1 TK
          clear h0'
          clear hP hsl htk etk hw hg ht en
          clear hle0 h0
          go_wp2_with (first
            | (at_builtin; refine Kd.R_append kP (w0 := (w2.alloc (.cells #[.int .i64 l[i].f0, .int .i64 0, .pointer (some ⟨ga, 0, none⟩), .pointer (some ⟨gb, 0, none⟩)] 51))) w.heap.size rfl (.tmp 55) (.tmp 57) 46 49 (.pointer none) 8 rfl Tryd.underlying46 infoP rfl (by decide) (by omega) (.slice (some ad1) m c4) hs'.reverse w2.heap.size [.pointer (some ⟨w2.heap.size, 0, none⟩)] (fun _ => True) (fun _ => False) ?h1 ?h2 ?aP (fun _ hk => hk.elim) ?aF ?aO ?aB ?aS ?aL ?_; (case h1 => rfl); (case h2 => first | rfl | (simp only [World.size_setCell, World.size_alloc]; rfl)); (case aP => exact rfl); (case aB => exact Below.refl _ _); (case aF => exact (fun _ _ => trivial)); (case aO => exact HTW.out); (case aS => have := HBE.out.size; have := HB2.out.size; simp only [World.size_alloc]; omega); (case aL => have := HM.out; have := HP.out.le; have := HLL.out; (try simp only [List.length_reverse, List.length_cons] at *); omega); intro v5 w5 hr5 hb5 hg5 hat5; have HR5 := Aside0.mk hr5; have HB5 := Aside0.mk hb5; have HG5 := Aside0.mk hg5; clear hr5 hb5 hg5 hat5)
            | (go_at_call 15; refine (guard_takes.calls 6 l[i].f0 0 2 tr is _ TK.out).mono ?_; rintro e w2 ⟨rfl, hb⟩; have hB2 : Below wr.heap.size wr w2 := ((Below.refl wr.heap.size wr).alloc (Nat.le_refl _) _).trans (hb.mono (by simp)); have HB2 := Aside0.mk hB2; have hbk := (hb.block _ (by simp)).trans (heap_alloc_last wr (.cells #[.int .i64 l[i].f0, .int .i64 0] 33)); have hs0 := blk_cell hbk 0; have hs1 := blk_cell hbk 1; have hsa := cell_alloc_keep (.cells #[.int .i64 l[i].f0, .int .i64 0, .pointer none, .pointer none] 51) ((hB2.cell (World.block_lt_of_cell? _ _ hst0)).trans hst0); have hsb := cell_alloc_keep (.cells #[.int .i64 l[i].f0, .int .i64 0, .pointer (some ⟨ga, 0, none⟩), .pointer none] 51) ((hB2.cell (World.block_lt_of_cell? _ _ hst1)).trans hst1); have HTW := Aside0.mk (Kd.R_alloc (Kd.R_below HTK.out hB2) (.cells #[.int .i64 l[i].f0, .int .i64 0, .pointer (some ⟨ga, 0, none⟩), .pointer (some ⟨gb, 0, none⟩)] 51)); clear hb hbk hB2))
          go_roundg (l.length - i)
          case measure => have := HKI.out; omega
          case rel => exact ⟨i + 1, w2.heap.size :: hs', (is, Pure.Tr.bi l[i].f0 a d2) :: qs, by first | rfl | exact congrArg (Value.int .i64) HADD.out, by have := HKI.out; omega, by omega, PrI.next HP.out hlt (by have := HBE.out.size; omega) HB2.out HTW.out HR5.out HB5.out HG5.out (hrest := fun w' q => q.2.2) (htr := fun w' q hn => ⟨ga, gb, hn, q.2.1, q.1⟩) (hw := HW.out) (hg := HGG.out) (ht := Pure.stepT_two HTT.out _ _ _) (hle := by simp; omega)⟩
end Go.Proofs.YtikbgoppmailjaaDoor.H
