-- Written by hp.py (a program of this session, over the kit's print.py), with hand-made contracts beside it.
import Derived.Test.YtojfdekiponccaaDoorHx0
import Derived.Test.YtojfdekiponccaaDoorHx3
import Derived.Test.YtojfdekiponccaaDoorHx7
import Derived.Test.YtojfdekiponccaaDoorHx10
import Derived.Test.YtojfdekiponccaaDoorHTabs
namespace Go.Proofs.YtojfdekiponccaaDoor.H
open Go.RowKit Go.Proofs.YtojfdekiponccaaDoorW.PrintWords Go.Proofs.YtojfdekiponccaaDoorW.PrintLast Go.Proofs.YtojfdekiponccaaDoorW.PrintMore
attribute [local go_sem] max2_int min2_int max_two min_two max_three min_three max_four min_four   -- for this text's walks alone
set_option linter.unusedVariables false
set_option linter.unusedSimpArgs false

/-! ### remontoirlaw13_LexWrong: function 7 -/
mutual
def remontoirlaw13_LexWrong.l0 : Nat → ByteArray → ByteArray → Int → ByteArray → Option (Bool)
  | 0, _, _, _, _ => none
  | k + 1, x0, x1, x2, x7 => if (x7.size : Int) ≤ 60 then (if x7.size + 1 ≤ 9223372036854775807 then (remontoirlaw13_LexWrong.l0 k x0 x1 x2 (x7 ++ (⟨#[32]⟩ : ByteArray))) else (none)) else ((lex_Lex.f x7).bind fun bt276 => (if bt276.2 = 15 then (remontoirlaw13_LexWrong.j1 k x0 x1 x2 ((bt276.1.length : Int) != 0)) else (remontoirlaw13_LexWrong.j1 k x0 x1 x2 true)))
def remontoirlaw13_LexWrong.j1 : Nat → ByteArray → ByteArray → Int → Bool → Option (Bool)
  | 0, _, _, _, _ => none
  | k + 1, x0, x1, x2, x41 => if x41 = true then (some false) else (if x2 ≥ 97 then (if x2 ≤ 122 then (remontoirlaw13_LexWrong.j2 k x0 x1 x2 true) else (if x2 ≥ 48 then (remontoirlaw13_LexWrong.j2 k x0 x1 x2 (decide (x2 ≤ 57))) else (remontoirlaw13_LexWrong.j2 k x0 x1 x2 false))) else (if x2 ≥ 48 then (remontoirlaw13_LexWrong.j2 k x0 x1 x2 (decide (x2 ≤ 57))) else (remontoirlaw13_LexWrong.j2 k x0 x1 x2 false)))
def remontoirlaw13_LexWrong.j2 : Nat → ByteArray → ByteArray → Int → Bool → Option (Bool)
  | 0, _, _, _, _ => none
  | k + 1, x0, x1, x2, x55 => if x55 = true then ((remontoirlaw13_wakes.f k).bind fun t280 => (some t280)) else (remontoirlaw13_LexWrong.l1 k x0 x1 x2 3)
def remontoirlaw13_LexWrong.l1 : Nat → ByteArray → ByteArray → Int → Int → Option (Bool)
  | 0, _, _, _, _ => none
  | k + 1, x0, x1, x2, x10 => if x10 ≤ 18 then ((remontoirref13_Text.f k x10 0).bind fun t281 => (if 0 < (t281.size : Int) then (if (bt t281 0) = x2 then ((remontoirlaw13_wakes.f k).bind fun t282 => (some t282)) else (remontoirlaw13_LexWrong.l1 k x0 x1 x2 (wrap64 (x10 + 1)))) else (none))) else ((lex_Lex.f x0).bind fun bt283 => (if bt283.2 = 0 then (remontoirlaw13_LexWrong.j4 k x0 x1 x2 (x2 == 32)) else (remontoirlaw13_LexWrong.j4 k x0 x1 x2 true)))
def remontoirlaw13_LexWrong.j4 : Nat → ByteArray → ByteArray → Int → Bool → Option (Bool)
  | 0, _, _, _, _ => none
  | k + 1, x0, x1, x2, x79 => if x79 = true then ((remontoirlaw13_wakes.f k).bind fun t287 => (some t287)) else ((some (([x2] : List Int) : List Int)).bind fun y288 => (if x0.size + (strOfNums y288).size ≤ 9223372036854775807 then (if (x0 ++ (strOfNums y288)).size + x1.size ≤ 9223372036854775807 then ((lex_Lex.f ((x0 ++ (strOfNums y288)) ++ x1)).bind fun bt291 => (if bt291.2 = 2 then (if (bt291.1.length : Int) = 0 then ((remontoirlaw13_wakes.f k).bind fun t295 => (some t295)) else (some false)) else (some false))) else (none)) else (none)))
end
def remontoirlaw13_LexWrong.f (k : Nat) (a0 : ByteArray) (a1 : ByteArray) (a2 : Int) : Option (Bool) := if (wrap64 ((wrap64 ((a0.size : Int) + (a1.size : Int))) + 1)) > 60 then ((remontoirlaw13_wakes.f k).bind fun t275 => (some t275)) else (remontoirlaw13_LexWrong.l0 k a0 a1 a2 a0)
theorem remontoirlaw13_LexWrong.mono_l : ∀ k, (∀ y0 y1 y2 y3, LeO (remontoirlaw13_LexWrong.l0 k y0 y1 y2 y3) (remontoirlaw13_LexWrong.l0 (k + 1) y0 y1 y2 y3)) ∧ (∀ y0 y1 y2 y3, LeO (remontoirlaw13_LexWrong.j1 k y0 y1 y2 y3) (remontoirlaw13_LexWrong.j1 (k + 1) y0 y1 y2 y3)) ∧ (∀ y0 y1 y2 y3, LeO (remontoirlaw13_LexWrong.j2 k y0 y1 y2 y3) (remontoirlaw13_LexWrong.j2 (k + 1) y0 y1 y2 y3)) ∧ (∀ y0 y1 y2 y3, LeO (remontoirlaw13_LexWrong.l1 k y0 y1 y2 y3) (remontoirlaw13_LexWrong.l1 (k + 1) y0 y1 y2 y3)) ∧ (∀ y0 y1 y2 y3, LeO (remontoirlaw13_LexWrong.j4 k y0 y1 y2 y3) (remontoirlaw13_LexWrong.j4 (k + 1) y0 y1 y2 y3))
  | 0 => ⟨fun _ _ _ _ r h => by simp [remontoirlaw13_LexWrong.l0] at h, fun _ _ _ _ r h => by simp [remontoirlaw13_LexWrong.j1] at h, fun _ _ _ _ r h => by simp [remontoirlaw13_LexWrong.j2] at h, fun _ _ _ _ r h => by simp [remontoirlaw13_LexWrong.l1] at h, fun _ _ _ _ r h => by simp [remontoirlaw13_LexWrong.j4] at h⟩
  | k + 1 => by
    obtain ⟨ih0, ih1, ih2, ih3, ih4⟩ := remontoirlaw13_LexWrong.mono_l k
    refine ⟨?_, ?_, ?_, ?_, ?_⟩
    · intro y0 y1 y2 y3
      unfold remontoirlaw13_LexWrong.l0
      repeat' first
      | (with_reducible exact ih0 _ _ _ _)
      | (with_reducible exact ih1 _ _ _ _)
      | (with_reducible exact ih2 _ _ _ _)
      | (with_reducible exact ih3 _ _ _ _)
      | (with_reducible exact ih4 _ _ _ _)
      | (with_reducible exact remontoirlaw13_wakes.mono _)
      | (with_reducible exact remontoirref13_Text.mono _ _ _)
      | (with_reducible exact LeO.refl _)
      | (with_reducible exact LeO.none _)
      | (with_reducible refine LeO.ite ?_ ?_)
      | (with_reducible refine LeO.bind ?_ (fun _ => ?_))
      | exact ih0 _ _ _ _
      | exact ih1 _ _ _ _
      | exact ih2 _ _ _ _
      | exact ih3 _ _ _ _
      | exact ih4 _ _ _ _
      | exact remontoirlaw13_wakes.mono _
      | exact remontoirref13_Text.mono _ _ _
      | exact LeO.none _
      | refine LeO.ite ?_ ?_
      | refine LeO.bind ?_ (fun _ => ?_)
    · intro y0 y1 y2 y3
      unfold remontoirlaw13_LexWrong.j1
      repeat' first
      | (with_reducible exact ih0 _ _ _ _)
      | (with_reducible exact ih1 _ _ _ _)
      | (with_reducible exact ih2 _ _ _ _)
      | (with_reducible exact ih3 _ _ _ _)
      | (with_reducible exact ih4 _ _ _ _)
      | (with_reducible exact remontoirlaw13_wakes.mono _)
      | (with_reducible exact remontoirref13_Text.mono _ _ _)
      | (with_reducible exact LeO.refl _)
      | (with_reducible exact LeO.none _)
      | (with_reducible refine LeO.ite ?_ ?_)
      | (with_reducible refine LeO.bind ?_ (fun _ => ?_))
      | exact ih0 _ _ _ _
      | exact ih1 _ _ _ _
      | exact ih2 _ _ _ _
      | exact ih3 _ _ _ _
      | exact ih4 _ _ _ _
      | exact remontoirlaw13_wakes.mono _
      | exact remontoirref13_Text.mono _ _ _
      | exact LeO.none _
      | refine LeO.ite ?_ ?_
      | refine LeO.bind ?_ (fun _ => ?_)
    · intro y0 y1 y2 y3
      unfold remontoirlaw13_LexWrong.j2
      repeat' first
      | (with_reducible exact ih0 _ _ _ _)
      | (with_reducible exact ih1 _ _ _ _)
      | (with_reducible exact ih2 _ _ _ _)
      | (with_reducible exact ih3 _ _ _ _)
      | (with_reducible exact ih4 _ _ _ _)
      | (with_reducible exact remontoirlaw13_wakes.mono _)
      | (with_reducible exact remontoirref13_Text.mono _ _ _)
      | (with_reducible exact LeO.refl _)
      | (with_reducible exact LeO.none _)
      | (with_reducible refine LeO.ite ?_ ?_)
      | (with_reducible refine LeO.bind ?_ (fun _ => ?_))
      | exact ih0 _ _ _ _
      | exact ih1 _ _ _ _
      | exact ih2 _ _ _ _
      | exact ih3 _ _ _ _
      | exact ih4 _ _ _ _
      | exact remontoirlaw13_wakes.mono _
      | exact remontoirref13_Text.mono _ _ _
      | exact LeO.none _
      | refine LeO.ite ?_ ?_
      | refine LeO.bind ?_ (fun _ => ?_)
    · intro y0 y1 y2 y3
      unfold remontoirlaw13_LexWrong.l1
      repeat' first
      | (with_reducible exact ih0 _ _ _ _)
      | (with_reducible exact ih1 _ _ _ _)
      | (with_reducible exact ih2 _ _ _ _)
      | (with_reducible exact ih3 _ _ _ _)
      | (with_reducible exact ih4 _ _ _ _)
      | (with_reducible exact remontoirlaw13_wakes.mono _)
      | (with_reducible exact remontoirref13_Text.mono _ _ _)
      | (with_reducible exact LeO.refl _)
      | (with_reducible exact LeO.none _)
      | (with_reducible refine LeO.ite ?_ ?_)
      | (with_reducible refine LeO.bind ?_ (fun _ => ?_))
      | exact ih0 _ _ _ _
      | exact ih1 _ _ _ _
      | exact ih2 _ _ _ _
      | exact ih3 _ _ _ _
      | exact ih4 _ _ _ _
      | exact remontoirlaw13_wakes.mono _
      | exact remontoirref13_Text.mono _ _ _
      | exact LeO.none _
      | refine LeO.ite ?_ ?_
      | refine LeO.bind ?_ (fun _ => ?_)
    · intro y0 y1 y2 y3
      unfold remontoirlaw13_LexWrong.j4
      repeat' first
      | (with_reducible exact ih0 _ _ _ _)
      | (with_reducible exact ih1 _ _ _ _)
      | (with_reducible exact ih2 _ _ _ _)
      | (with_reducible exact ih3 _ _ _ _)
      | (with_reducible exact ih4 _ _ _ _)
      | (with_reducible exact remontoirlaw13_wakes.mono _)
      | (with_reducible exact remontoirref13_Text.mono _ _ _)
      | (with_reducible exact LeO.refl _)
      | (with_reducible exact LeO.none _)
      | (with_reducible refine LeO.ite ?_ ?_)
      | (with_reducible refine LeO.bind ?_ (fun _ => ?_))
      | exact ih0 _ _ _ _
      | exact ih1 _ _ _ _
      | exact ih2 _ _ _ _
      | exact ih3 _ _ _ _
      | exact ih4 _ _ _ _
      | exact remontoirlaw13_wakes.mono _
      | exact remontoirref13_Text.mono _ _ _
      | exact LeO.none _
      | refine LeO.ite ?_ ?_
      | refine LeO.bind ?_ (fun _ => ?_)
theorem remontoirlaw13_LexWrong.mono : ∀ a0 a1 a2 k, LeO (remontoirlaw13_LexWrong.f k a0 a1 a2) (remontoirlaw13_LexWrong.f (k + 1) a0 a1 a2) := by
  intro a0 a1 a2 k
  obtain ⟨ih0, ih1, ih2, ih3, ih4⟩ := remontoirlaw13_LexWrong.mono_l k
  unfold remontoirlaw13_LexWrong.f
  repeat' first
      | (with_reducible exact ih0 _ _ _ _)
      | (with_reducible exact ih1 _ _ _ _)
      | (with_reducible exact ih2 _ _ _ _)
      | (with_reducible exact ih3 _ _ _ _)
      | (with_reducible exact ih4 _ _ _ _)
      | (with_reducible exact remontoirlaw13_wakes.mono _)
      | (with_reducible exact remontoirref13_Text.mono _ _ _)
      | (with_reducible exact LeO.refl _)
      | (with_reducible exact LeO.none _)
      | (with_reducible refine LeO.ite ?_ ?_)
      | (with_reducible refine LeO.bind ?_ (fun _ => ?_))
      | exact ih0 _ _ _ _
      | exact ih1 _ _ _ _
      | exact ih2 _ _ _ _
      | exact ih3 _ _ _ _
      | exact ih4 _ _ _ _
      | exact remontoirlaw13_wakes.mono _
      | exact remontoirref13_Text.mono _ _ _
      | exact LeO.none _
      | refine LeO.ite ?_ ?_
      | refine LeO.bind ?_ (fun _ => ?_)
set_option maxHeartbeats 8000000 in
set_option maxRecDepth 100000 in
theorem remontoirlaw13_LexWrong.calls (k : Nat) (a0 : ByteArray) (a1 : ByteArray) (a2 : Int) (r : Bool) (w : World) (hT : Tabs w) (h : remontoirlaw13_LexWrong.f k a0 a1 a2 = some r) :
    Calls Tryd.prog 7 #[.string a0, .string a1, .int .u8 a2] w fun e w' => e = .returned (.bool r) ∧ Below w.heap.size w w' := by
  have hu35 := Tryd.underlying35
  have HB := Aside0.mk (Below.refl w.heap.size w)
  have H : (if (wrap64 ((wrap64 ((a0.size : Int) + (a1.size : Int))) + 1)) > 60 then ((remontoirlaw13_wakes.f k).bind fun t275 => (some t275)) else (remontoirlaw13_LexWrong.l0 k a0 a1 a2 a0)) = some r := h
  clear h
  by_cases c4 : (wrap64 ((wrap64 ((a0.size : Int) + (a1.size : Int))) + 1)) > 60
  · rw [if_pos c4] at H
    try have c4w : (wrap64 (((a0.size : Int) + (a1.size : Int)) + 1)) > 60 := by have h_ := c4; unfold wrap64 at h_ ⊢; omega
    have c4b0 : decide (60 < (wrap64 ((wrap64 ((a0.size : Int) + (a1.size : Int))) + 1))) = true := decide_eq_true c4
    clear c4
    replace H := Option.bind_eq_some_iff.mp H
    obtain ⟨t275, A50, H⟩ := H
    replace H : (some t275) = some r := H
    have A5 := Aside0.mk A50
    clear A50
    obtain rfl := Option.some.inj H
    go_enter Tryd.func7, Tryd.ntmps7
    go_wp2_with (first | ((with_reducible refine gate_callee (f := 13) rfl ?_); refine goesL_ (some 23) rfl rfl Tryd.func13 (by kernel_rfl) rfl #[] rfl (by (try simp only [List.map_toArray, List.map_cons, List.map_nil]); first | done | rfl | (simp only [List.length_drop, List.length_take]; rfl)) ?_; (with_reducible refine (remontoirlaw13_wakes.calls k  t275 _ (Tabs.below hT (by repeat (first | (with_reducible first | exact HB.out | apply below_alloc | apply pw_below_drewN | apply below_drew1) | exact HB.out))) A5.out).mono ?_); rintro e w6 ⟨rfl, hb⟩; refine ⟨_, rfl, ?_⟩; have n0_ := Aside0.mk (below_step (by repeat (first | (with_reducible first | exact HB.out | apply below_alloc | apply pw_below_drewN | apply below_drew1) | exact HB.out)) hb); clear HB; have HB := n0_; clear n0_; (try clear hb); (try clear hb2); (try clear hk); (try clear hi)))
    go_ret
    exact ⟨by first | rfl | (simp [errW_none, errW_some] <;> rfl) | (simp [*, errW_none, errW_some] <;> rfl), by repeat (first | (with_reducible first | exact HB.out | apply below_alloc | apply pw_below_drewN | apply below_drew1) | exact HB.out)⟩
  · rw [if_neg c4] at H
    try have c4w : ¬ ((wrap64 (((a0.size : Int) + (a1.size : Int)) + 1)) > 60) := by have h_ := c4; unfold wrap64 at h_ ⊢; omega
    have c4b0 : decide (60 < (wrap64 ((wrap64 ((a0.size : Int) + (a1.size : Int))) + 1))) = false := decide_eq_false c4
    clear c4
    have H' := Aside0.mk H
    clear H
    go_enter Tryd.func7, Tryd.ntmps7
    go_wp2
    go_loopg [7] k (fun kq v7 w' => ∃ (x7_1 : ByteArray), v7 = .string x7_1 ∧ Aside0 (remontoirlaw13_LexWrong.l0 kq a0 a1 a2 x7_1 = some r) ∧ Aside0 (kq ≤ k) ∧ Aside0 (Below w.heap.size w w'))
    case atStart => exact ⟨(a0), (by first | rfl | (simp; done) | (simp [*]; done)), H', ⟨Nat.le_refl _⟩, ⟨by repeat (first | (with_reducible first | exact HB.out | apply below_alloc | apply pw_below_drewN | apply below_drew1) | exact HB.out)⟩⟩
    case round =>
      clear H'
      try clear c1
      try clear p2
      try clear c4
      try clear c4b0
      try clear p6
      obtain ⟨x7_1, rfl, HA, HK1, HB⟩ := hrel
      cases gk with
      | zero => exact absurd HA.out (by simp [remontoirlaw13_LexWrong.l0])
      | succ k1 =>
        have H := HA.out
        clear HA
        simp only [remontoirlaw13_LexWrong.l0] at H
        by_cases c7 : (x7_1.size : Int) ≤ 60
        · rw [if_pos c7] at H
          have c7b0 : decide ((x7_1.size : Int) ≤ 60) = true := decide_eq_true c7
          have c7b1 : decide (x7_1.size ≤ 60) = true := decide_eq_true (by omega)
          clear c7
          by_cases c8 : x7_1.size + 1 ≤ 9223372036854775807
          · rw [if_pos c8] at H
            have c8b0 := eq_true c8
            have c8b1 : decide (x7_1.size + 1 ≤ 9223372036854775807) = true := decide_eq_true c8
            try have c8b2 : (9223372036854775807 < x7_1.size + 1) = False := eq_false (Nat.not_lt.2 c8)
            have H' := Aside0.mk H
            clear H
            go_wp2
            go_roundg k1
            case measure => have := HK1.out; omega
            case rel => exact ⟨(x7_1 ++ (⟨#[32]⟩ : ByteArray)), (by first | rfl | (simp; done) | (simp [*]; done)), H', ⟨by have := HK1.out; omega⟩, ⟨by repeat (first | (with_reducible first | exact HB.out | apply below_alloc | apply pw_below_drewN | apply below_drew1) | exact HB.out)⟩⟩
          · rw [if_neg c8] at H
            exact absurd H (by simp)
        · rw [if_neg c7] at H
          have c7b0 : decide ((x7_1.size : Int) ≤ 60) = false := decide_eq_false c7
          have c7b1 : decide (x7_1.size ≤ 60) = false := decide_eq_false (by omega)
          clear c7
          replace H := Option.bind_eq_some_iff.mp H
          obtain ⟨⟨t276, t277⟩, A90, H⟩ := H
          replace H : (if t277 = 15 then (remontoirlaw13_LexWrong.j1 k1 a0 a1 a2 ((t276.length : Int) != 0)) else (remontoirlaw13_LexWrong.j1 k1 a0 a1 a2 true)) = some r := H
          have A9 := Aside0.mk A90
          clear A90
          have HC10 := Aside0.mk H
          clear H
          go_upto_region 7 with (first | ((with_reducible refine gate_callee (f := 14) rfl ?_); refine goesL_ (some 32) rfl rfl Tryd.func14 (by kernel_rfl) rfl #[.string x7_1] rfl (by (try simp only [List.map_toArray, List.map_cons, List.map_nil]); first | done | rfl | (simp only [List.length_drop, List.length_take]; rfl)) ?_; (with_reducible refine (lex_Lex.calls x7_1 t276 t277 _ A9.out).mono ?_); rintro e w11 ⟨v278, rfl, ho0, hb⟩; refine ⟨_, rfl, ?_⟩; have n0_ := Aside0.mk (Kd.R_lower ho0 (below_size (by repeat (first | (with_reducible first | exact HB.out | apply below_alloc | apply pw_below_drewN | apply below_drew1) | exact HB.out)))); have n1_ := Aside0.mk (below_step (by repeat (first | (with_reducible first | exact HB.out | apply below_alloc | apply pw_below_drewN | apply below_drew1) | exact HB.out)) hb); clear HB; have HO279 := n0_; have HB := n1_; clear n0_ n1_; (try clear hb); (try clear hb2); (try clear hk); (try clear hi); (try clear ho0)))
          (try simp only [Act.put, List.setIfInBounds_toArray, List.set_cons_zero, List.set_cons_succ])
          go_cut [41] (fun v41 wc => ∃ (kq : Nat) (x41_9 : Bool), v41 = .bool x41_9 ∧ Aside0 (remontoirlaw13_LexWrong.j1 kq a0 a1 a2 x41_9 = some r) ∧ Aside0 (kq ≤ k1) ∧ Aside0 (Below w.heap.size w wc))
          case first =>
            have H := HC10.out
            clear HC10
            by_cases c12 : t277 = 15
            · rw [if_pos c12] at H
              have c12b0 : (t277 == 15) = true := beq_iff_eq.mpr c12
              have c12b1 : (t277 != 15) = false := bne_eq_false_iff_eq.mpr c12
              clear c12
              (first | rw [c12b0] | (simp only [i64_w, i32_w]; rw [c12b0]) | skip)
              have H' := Aside0.mk H
              clear H
              obtain ⟨Ao13, co13, eo13⟩ := Kd.R_slice HO279.out
              subst eo13
              go_wp2
              go_meet
              case rel => exact ⟨_, (((t276.length : Int) != 0)), (by first | rfl | (simp; done) | (simp [*]; done)), H', ⟨by have := HK1.out; first | omega | exact Nat.le_refl _⟩, ⟨by repeat (first | (with_reducible first | exact HB.out | apply below_alloc | apply pw_below_drewN | apply below_drew1) | exact HB.out)⟩⟩
            · rw [if_neg c12] at H
              have c12b0 : (t277 == 15) = false := beq_eq_false_iff_ne.mpr c12
              have c12b1 : (t277 != 15) = true := bne_iff_ne.mpr c12
              (first | rw [c12b0] | (simp only [i64_w, i32_w]; rw [c12b0]) | skip)
              have H' := Aside0.mk H
              clear H
              go_wp2
              go_meet
              case rel => exact ⟨_, (true), (by first | rfl | (simp; done) | (simp [*]; done)), H', ⟨by have := HK1.out; first | omega | exact Nat.le_refl _⟩, ⟨by repeat (first | (with_reducible first | exact HB.out | apply below_alloc | apply pw_below_drewN | apply below_drew1) | exact HB.out)⟩⟩
          case rest =>
            clear HC10
            try clear c1
            try clear p2
            try clear c4
            try clear c4b0
            try clear p6
            try clear c7
            try clear c7b0
            try clear c7b1
            try clear c8
            try clear c8b0
            try clear c8b1
            try clear c8b2
            try clear c12
            try clear c12b0
            try clear c12b1
            try clear c13
            try clear p2
            try clear p6
            obtain ⟨kq, x41_9, rfl, HA, HJ9, HB⟩ := hcut
            cases kq with
            | zero => exact absurd HA.out (by simp [remontoirlaw13_LexWrong.j1])
            | succ kj9 =>
              have H := HA.out
              clear HA
              simp only [remontoirlaw13_LexWrong.j1] at H
              by_cases c14 : x41_9 = true
              · subst c14
                have H1 : (some false) = some r := by rw [if_pos rfl] at H; exact H
                clear H
                have H := H1
                clear H1
                obtain rfl := Option.some.inj H
                go_wp2
                go_ret
                exact ⟨by first | rfl | (simp [errW_none, errW_some] <;> rfl) | (simp [*, errW_none, errW_some] <;> rfl), by repeat (first | (with_reducible first | exact HB.out | apply below_alloc | apply pw_below_drewN | apply below_drew1) | exact HB.out)⟩
              · replace c14 := Bool.eq_false_iff.mpr c14
                subst c14
                have H1 : (if a2 ≥ 97 then (if a2 ≤ 122 then (remontoirlaw13_LexWrong.j2 kj9 a0 a1 a2 true) else (if a2 ≥ 48 then (remontoirlaw13_LexWrong.j2 kj9 a0 a1 a2 (decide (a2 ≤ 57))) else (remontoirlaw13_LexWrong.j2 kj9 a0 a1 a2 false))) else (if a2 ≥ 48 then (remontoirlaw13_LexWrong.j2 kj9 a0 a1 a2 (decide (a2 ≤ 57))) else (remontoirlaw13_LexWrong.j2 kj9 a0 a1 a2 false))) = some r := by rw [if_neg (show ¬ (false = true) by decide)] at H; exact H
                clear H
                have H := H1
                clear H1
                have HC15 := Aside0.mk H
                clear H
                go_upto_region 9 with (fail)
                go_cut [55] (fun v55 wc => ∃ (kq : Nat) (x55_14 : Bool), v55 = .bool x55_14 ∧ Aside0 (remontoirlaw13_LexWrong.j2 kq a0 a1 a2 x55_14 = some r) ∧ Aside0 (kq ≤ kj9) ∧ Aside0 (Below w.heap.size w wc))
                case first =>
                  have H := HC15.out
                  clear HC15
                  by_cases c16 : a2 ≥ 97
                  · rw [if_pos c16] at H
                    have c16b0 : decide (97 ≤ a2) = true := decide_eq_true c16
                    clear c16
                    (first | rw [c16b0] | (simp only [i64_w, i32_w]; rw [c16b0]) | skip)
                    by_cases c17 : a2 ≤ 122
                    · rw [if_pos c17] at H
                      have c17b0 : decide (a2 ≤ 122) = true := decide_eq_true c17
                      clear c17
                      have H' := Aside0.mk H
                      clear H
                      go_wp2
                      go_meet
                      case rel => exact ⟨_, (true), (by first | rfl | (simp; done) | (simp [*]; done)), H', ⟨by have := HK1.out; have := HJ9.out; first | omega | exact Nat.le_refl _⟩, ⟨by repeat (first | (with_reducible first | exact HB.out | apply below_alloc | apply pw_below_drewN | apply below_drew1) | exact HB.out)⟩⟩
                    · rw [if_neg c17] at H
                      have c17b0 : decide (a2 ≤ 122) = false := decide_eq_false c17
                      clear c17
                      by_cases c18 : a2 ≥ 48
                      · rw [if_pos c18] at H
                        have c18b0 : decide (48 ≤ a2) = true := decide_eq_true c18
                        clear c18
                        have H' := Aside0.mk H
                        clear H
                        go_wp2
                        go_meet
                        case rel => exact ⟨_, (decide (a2 ≤ 57)), (by first | rfl | (simp; done) | (simp [*]; done)), H', ⟨by have := HK1.out; have := HJ9.out; first | omega | exact Nat.le_refl _⟩, ⟨by repeat (first | (with_reducible first | exact HB.out | apply below_alloc | apply pw_below_drewN | apply below_drew1) | exact HB.out)⟩⟩
                      · rw [if_neg c18] at H
                        have c18b0 : decide (48 ≤ a2) = false := decide_eq_false c18
                        clear c18
                        have H' := Aside0.mk H
                        clear H
                        go_wp2
                        go_meet
                        case rel => exact ⟨_, (false), (by first | rfl | (simp; done) | (simp [*]; done)), H', ⟨by have := HK1.out; have := HJ9.out; first | omega | exact Nat.le_refl _⟩, ⟨by repeat (first | (with_reducible first | exact HB.out | apply below_alloc | apply pw_below_drewN | apply below_drew1) | exact HB.out)⟩⟩
                  · rw [if_neg c16] at H
                    have c16b0 : decide (97 ≤ a2) = false := decide_eq_false c16
                    clear c16
                    (first | rw [c16b0] | (simp only [i64_w, i32_w]; rw [c16b0]) | skip)
                    by_cases c19 : a2 ≥ 48
                    · rw [if_pos c19] at H
                      have c19b0 : decide (48 ≤ a2) = true := decide_eq_true c19
                      clear c19
                      have H' := Aside0.mk H
                      clear H
                      go_wp2
                      go_meet
                      case rel => exact ⟨_, (decide (a2 ≤ 57)), (by first | rfl | (simp; done) | (simp [*]; done)), H', ⟨by have := HK1.out; have := HJ9.out; first | omega | exact Nat.le_refl _⟩, ⟨by repeat (first | (with_reducible first | exact HB.out | apply below_alloc | apply pw_below_drewN | apply below_drew1) | exact HB.out)⟩⟩
                    · rw [if_neg c19] at H
                      have c19b0 : decide (48 ≤ a2) = false := decide_eq_false c19
                      clear c19
                      have H' := Aside0.mk H
                      clear H
                      go_wp2
                      go_meet
                      case rel => exact ⟨_, (false), (by first | rfl | (simp; done) | (simp [*]; done)), H', ⟨by have := HK1.out; have := HJ9.out; first | omega | exact Nat.le_refl _⟩, ⟨by repeat (first | (with_reducible first | exact HB.out | apply below_alloc | apply pw_below_drewN | apply below_drew1) | exact HB.out)⟩⟩
                case rest =>
                  clear HC15
                  try clear c1
                  try clear p2
                  try clear c4
                  try clear c4b0
                  try clear p6
                  try clear c7
                  try clear c7b0
                  try clear c7b1
                  try clear c8
                  try clear c8b0
                  try clear c8b1
                  try clear c8b2
                  try clear c12
                  try clear c12b0
                  try clear c12b1
                  try clear c13
                  try clear c14
                  try clear c16
                  try clear c16b0
                  try clear c17
                  try clear c17b0
                  try clear c18
                  try clear c18b0
                  try clear c19
                  try clear c19b0
                  try clear p2
                  try clear p6
                  obtain ⟨kq, x55_14, rfl, HA, HJ14, HB⟩ := hcut
                  cases kq with
                  | zero => exact absurd HA.out (by simp [remontoirlaw13_LexWrong.j2])
                  | succ kj14 =>
                    have H := HA.out
                    clear HA
                    simp only [remontoirlaw13_LexWrong.j2] at H
                    by_cases c20 : x55_14 = true
                    · subst c20
                      have H1 : ((remontoirlaw13_wakes.f kj14).bind fun t280 => (some t280)) = some r := by rw [if_pos rfl] at H; exact H
                      clear H
                      have H := H1
                      clear H1
                      replace H := Option.bind_eq_some_iff.mp H
                      obtain ⟨t280, A210, H⟩ := H
                      replace H : (some t280) = some r := H
                      have A21 := Aside0.mk A210
                      clear A210
                      obtain rfl := Option.some.inj H
                      go_wp2_with (first | ((with_reducible refine gate_callee (f := 13) rfl ?_); refine goesL_ (some 56) rfl rfl Tryd.func13 (by kernel_rfl) rfl #[] rfl (by (try simp only [List.map_toArray, List.map_cons, List.map_nil]); first | done | rfl | (simp only [List.length_drop, List.length_take]; rfl)) ?_; (with_reducible refine (remontoirlaw13_wakes.calls kj14  t280 _ (Tabs.below hT (by repeat (first | (with_reducible first | exact HB.out | apply below_alloc | apply pw_below_drewN | apply below_drew1) | exact HB.out))) A21.out).mono ?_); rintro e w22 ⟨rfl, hb⟩; refine ⟨_, rfl, ?_⟩; have n0_ := Aside0.mk (below_step (by repeat (first | (with_reducible first | exact HB.out | apply below_alloc | apply pw_below_drewN | apply below_drew1) | exact HB.out)) hb); clear HB; have HB := n0_; clear n0_; (try clear hb); (try clear hb2); (try clear hk); (try clear hi)))
                      go_ret
                      exact ⟨by first | rfl | (simp [errW_none, errW_some] <;> rfl) | (simp [*, errW_none, errW_some] <;> rfl), by repeat (first | (with_reducible first | exact HB.out | apply below_alloc | apply pw_below_drewN | apply below_drew1) | exact HB.out)⟩
                    · replace c20 := Bool.eq_false_iff.mpr c20
                      subst c20
                      have H1 : (remontoirlaw13_LexWrong.l1 kj14 a0 a1 a2 3) = some r := by rw [if_neg (show ¬ (false = true) by decide)] at H; exact H
                      clear H
                      have H := H1
                      clear H1
                      have H' := Aside0.mk H
                      clear H
                      go_wp2
                      go_loopg [10] kj14 (fun kq v10 w' => ∃ (x10_4 : Int), v10 = .int .i64 x10_4 ∧ Aside0 (remontoirlaw13_LexWrong.l1 kq a0 a1 a2 x10_4 = some r) ∧ Aside0 (kq ≤ kj14) ∧ Aside0 (Below w.heap.size w w'))
                      case atStart => exact ⟨(3), (by first | rfl | (simp; done) | (simp [*]; done)), H', ⟨Nat.le_refl _⟩, ⟨by repeat (first | (with_reducible first | exact HB.out | apply below_alloc | apply pw_below_drewN | apply below_drew1) | exact HB.out)⟩⟩
                      case round =>
                        clear H'
                        try clear c1
                        try clear c2
                        try clear p2
                        try clear c4
                        try clear c4b0
                        try clear p6
                        try clear c7
                        try clear c7b0
                        try clear c7b1
                        try clear c8
                        try clear c8b0
                        try clear c8b1
                        try clear c8b2
                        try clear c12
                        try clear c12b0
                        try clear c12b1
                        try clear c13
                        try clear c14
                        try clear c16
                        try clear c16b0
                        try clear c17
                        try clear c17b0
                        try clear c18
                        try clear c18b0
                        try clear c19
                        try clear c19b0
                        try clear c20
                        try clear p2
                        try clear p6
                        obtain ⟨x10_4, rfl, HA, HK4, HB⟩ := hrel
                        cases gk with
                        | zero => exact absurd HA.out (by simp [remontoirlaw13_LexWrong.l1])
                        | succ k4 =>
                          have H := HA.out
                          clear HA
                          simp only [remontoirlaw13_LexWrong.l1] at H
                          by_cases c23 : x10_4 ≤ 18
                          · rw [if_pos c23] at H
                            have c23b0 : decide (x10_4 ≤ 18) = true := decide_eq_true c23
                            clear c23
                            replace H := Option.bind_eq_some_iff.mp H
                            obtain ⟨t281, A240, H⟩ := H
                            replace H : (if 0 < (t281.size : Int) then (if (bt t281 0) = a2 then ((remontoirlaw13_wakes.f k4).bind fun t282 => (some t282)) else (remontoirlaw13_LexWrong.l1 k4 a0 a1 a2 (wrap64 (x10_4 + 1)))) else (none)) = some r := H
                            have A24 := Aside0.mk A240
                            clear A240
                            by_cases c25 : 0 < (t281.size : Int)
                            · rw [if_pos c25] at H
                              have c25b0 : decide (0 < (t281.size : Int)) = true := decide_eq_true c25
                              have c25b1 : decide (0 < t281.size) = true := decide_eq_true (by omega)
                              clear c25
                              by_cases c27 : (bt t281 0) = a2
                              · rw [if_pos c27] at H
                                have c27b0 : ((bt t281 0) == a2) = true := beq_iff_eq.mpr c27
                                have c27b1 : ((bt t281 0) != a2) = false := bne_eq_false_iff_eq.mpr c27
                                clear c27
                                replace H := Option.bind_eq_some_iff.mp H
                                obtain ⟨t282, A280, H⟩ := H
                                replace H : (some t282) = some r := H
                                have A28 := Aside0.mk A280
                                clear A280
                                obtain rfl := Option.some.inj H
                                go_wp2_with (first | ((with_reducible refine gate_callee (f := 22) rfl ?_); refine goesL_ (some 63) rfl rfl Tryd.func22 (by kernel_rfl) rfl #[.agg #[.int .i64 x10_4, .int .i64 0]] rfl (by (try simp only [List.map_toArray, List.map_cons, List.map_nil]); first | done | rfl | (simp only [List.length_drop, List.length_take]; rfl)) ?_; (with_reducible refine (remontoirref13_Text.calls k4 x10_4 0 t281 _ A24.out).mono ?_); rintro e w29 ⟨rfl, hb⟩; refine ⟨_, rfl, ?_⟩; have n0_ := Aside0.mk (below_step (by repeat (first | (with_reducible first | exact HB.out | apply below_alloc | apply pw_below_drewN | apply below_drew1) | exact HB.out)) hb); clear HB; have HB := n0_; clear n0_; (try clear hb); (try clear hb2); (try clear hk); (try clear hi); have p26 : 0 ≤ (0 : Int) := (by omega); have q26 : 0 < t281.size := (by have : (0 : Int) < (t281.size : Int) := of_decide_eq_true (by first | (with_reducible assumption) | assumption); omega); have hx26 : ∀ h : 0 < t281.size, ((t281[0]'h).toNat : Int) = bt t281 0 := bt_at t281 0; clear p26; have qi26 : (0 < (t281.size : Int)) = True := eq_true (of_decide_eq_true (by first | (with_reducible assumption) | assumption)); replace q26 := eq_true q26) | ((with_reducible refine gate_callee (f := 13) rfl ?_); refine goesL_ (some 68) rfl rfl Tryd.func13 (by kernel_rfl) rfl #[] rfl (by (try simp only [List.map_toArray, List.map_cons, List.map_nil]); first | done | rfl | (simp only [List.length_drop, List.length_take]; rfl)) ?_; (with_reducible refine (remontoirlaw13_wakes.calls k4  t282 _ (Tabs.below hT (by repeat (first | (with_reducible first | exact HB.out | apply below_alloc | apply pw_below_drewN | apply below_drew1) | exact HB.out))) A28.out).mono ?_); rintro e w30 ⟨rfl, hb⟩; refine ⟨_, rfl, ?_⟩; have n0_ := Aside0.mk (below_step (by repeat (first | (with_reducible first | exact HB.out | apply below_alloc | apply pw_below_drewN | apply below_drew1) | exact HB.out)) hb); clear HB; have HB := n0_; clear n0_; (try clear hb); (try clear hb2); (try clear hk); (try clear hi)))
                                go_ret
                                exact ⟨by first | rfl | (simp [errW_none, errW_some] <;> rfl) | (simp [*, errW_none, errW_some] <;> rfl), by repeat (first | (with_reducible first | exact HB.out | apply below_alloc | apply pw_below_drewN | apply below_drew1) | exact HB.out)⟩
                              · rw [if_neg c27] at H
                                have c27b0 : ((bt t281 0) == a2) = false := beq_eq_false_iff_ne.mpr c27
                                have c27b1 : ((bt t281 0) != a2) = true := bne_iff_ne.mpr c27
                                have H' := Aside0.mk H
                                clear H
                                go_wp2_with (first | ((with_reducible refine gate_callee (f := 22) rfl ?_); refine goesL_ (some 63) rfl rfl Tryd.func22 (by kernel_rfl) rfl #[.agg #[.int .i64 x10_4, .int .i64 0]] rfl (by (try simp only [List.map_toArray, List.map_cons, List.map_nil]); first | done | rfl | (simp only [List.length_drop, List.length_take]; rfl)) ?_; (with_reducible refine (remontoirref13_Text.calls k4 x10_4 0 t281 _ A24.out).mono ?_); rintro e w31 ⟨rfl, hb⟩; refine ⟨_, rfl, ?_⟩; have n0_ := Aside0.mk (below_step (by repeat (first | (with_reducible first | exact HB.out | apply below_alloc | apply pw_below_drewN | apply below_drew1) | exact HB.out)) hb); clear HB; have HB := n0_; clear n0_; (try clear hb); (try clear hb2); (try clear hk); (try clear hi); have p26 : 0 ≤ (0 : Int) := (by omega); have q26 : 0 < t281.size := (by have : (0 : Int) < (t281.size : Int) := of_decide_eq_true (by first | (with_reducible assumption) | assumption); omega); have hx26 : ∀ h : 0 < t281.size, ((t281[0]'h).toNat : Int) = bt t281 0 := bt_at t281 0; clear p26; have qi26 : (0 < (t281.size : Int)) = True := eq_true (of_decide_eq_true (by first | (with_reducible assumption) | assumption)); replace q26 := eq_true q26))
                                go_roundg k4
                                case measure => have := HK1.out; have := HJ9.out; have := HJ14.out; have := HK4.out; omega
                                case rel => exact ⟨(wrap64 (x10_4 + 1)), (by first | rfl | (simp; done) | (simp [*]; done)), H', ⟨by have := HK1.out; have := HJ9.out; have := HJ14.out; have := HK4.out; omega⟩, ⟨by repeat (first | (with_reducible first | exact HB.out | apply below_alloc | apply pw_below_drewN | apply below_drew1) | exact HB.out)⟩⟩
                            · rw [if_neg c25] at H
                              exact absurd H (by simp)
                          · rw [if_neg c23] at H
                            have c23b0 : decide (x10_4 ≤ 18) = false := decide_eq_false c23
                            clear c23
                            replace H := Option.bind_eq_some_iff.mp H
                            obtain ⟨⟨t283, t284⟩, A320, H⟩ := H
                            replace H : (if t284 = 0 then (remontoirlaw13_LexWrong.j4 k4 a0 a1 a2 (a2 == 32)) else (remontoirlaw13_LexWrong.j4 k4 a0 a1 a2 true)) = some r := H
                            have A32 := Aside0.mk A320
                            clear A320
                            have HC33 := Aside0.mk H
                            clear H
                            go_upto_region 18 with (first | ((with_reducible refine gate_callee (f := 14) rfl ?_); refine goesL_ (some 71) rfl rfl Tryd.func14 (by kernel_rfl) rfl #[.string a0] rfl (by (try simp only [List.map_toArray, List.map_cons, List.map_nil]); first | done | rfl | (simp only [List.length_drop, List.length_take]; rfl)) ?_; (with_reducible refine (lex_Lex.calls a0 t283 t284 _ A32.out).mono ?_); rintro e w34 ⟨v285, rfl, ho0, hb⟩; refine ⟨_, rfl, ?_⟩; have n0_ := Aside0.mk (Kd.R_lower ho0 (below_size (by repeat (first | (with_reducible first | exact HB.out | apply below_alloc | apply pw_below_drewN | apply below_drew1) | exact HB.out)))); have n1_ := Aside0.mk (below_step (by repeat (first | (with_reducible first | exact HB.out | apply below_alloc | apply pw_below_drewN | apply below_drew1) | exact HB.out)) hb); clear HB; have HO286 := n0_; have HB := n1_; clear n0_ n1_; (try clear hb); (try clear hb2); (try clear hk); (try clear hi); (try clear ho0)))
                            (try simp only [Act.put, List.setIfInBounds_toArray, List.set_cons_zero, List.set_cons_succ])
                            go_cut [79] (fun v79 wc => ∃ (kq : Nat) (x79_32 : Bool), v79 = .bool x79_32 ∧ Aside0 (remontoirlaw13_LexWrong.j4 kq a0 a1 a2 x79_32 = some r) ∧ Aside0 (kq ≤ k4) ∧ Aside0 (Below w.heap.size w wc))
                            case first =>
                              have H := HC33.out
                              clear HC33
                              by_cases c35 : t284 = 0
                              · rw [if_pos c35] at H
                                have c35b0 : (t284 == 0) = true := beq_iff_eq.mpr c35
                                have c35b1 : (t284 != 0) = false := bne_eq_false_iff_eq.mpr c35
                                clear c35
                                (first | rw [c35b0] | (simp only [i64_w, i32_w]; rw [c35b0]) | skip)
                                have H' := Aside0.mk H
                                clear H
                                go_wp2
                                go_meet
                                case rel => exact ⟨_, ((a2 == 32)), (by first | rfl | (simp; done) | (simp [*]; done)), H', ⟨by have := HK1.out; have := HJ9.out; have := HJ14.out; have := HK4.out; first | omega | exact Nat.le_refl _⟩, ⟨by repeat (first | (with_reducible first | exact HB.out | apply below_alloc | apply pw_below_drewN | apply below_drew1) | exact HB.out)⟩⟩
                              · rw [if_neg c35] at H
                                have c35b0 : (t284 == 0) = false := beq_eq_false_iff_ne.mpr c35
                                have c35b1 : (t284 != 0) = true := bne_iff_ne.mpr c35
                                (first | rw [c35b0] | (simp only [i64_w, i32_w]; rw [c35b0]) | skip)
                                have H' := Aside0.mk H
                                clear H
                                go_wp2
                                go_meet
                                case rel => exact ⟨_, (true), (by first | rfl | (simp; done) | (simp [*]; done)), H', ⟨by have := HK1.out; have := HJ9.out; have := HJ14.out; have := HK4.out; first | omega | exact Nat.le_refl _⟩, ⟨by repeat (first | (with_reducible first | exact HB.out | apply below_alloc | apply pw_below_drewN | apply below_drew1) | exact HB.out)⟩⟩
                            case rest =>
                              clear HC33
                              try clear c1
                              try clear c2
                              try clear p2
                              try clear q2
                              try clear hx2
                              try clear qi2
                              try clear c3
                              try clear c4
                              try clear c4b0
                              try clear p6
                              try clear c7
                              try clear c7b0
                              try clear c7b1
                              try clear c8
                              try clear c8b0
                              try clear c8b1
                              try clear c8b2
                              try clear c12
                              try clear c12b0
                              try clear c12b1
                              try clear c13
                              try clear c14
                              try clear c16
                              try clear c16b0
                              try clear c17
                              try clear c17b0
                              try clear c18
                              try clear c18b0
                              try clear c19
                              try clear c19b0
                              try clear c20
                              try clear c22
                              try clear c23
                              try clear c23b0
                              try clear c25
                              try clear c25b0
                              try clear c25b1
                              try clear p26
                              try clear q26
                              try clear hx26
                              try clear qi26
                              try clear c27
                              try clear c27b0
                              try clear c27b1
                              try clear c35
                              try clear c35b0
                              try clear c35b1
                              try clear p2
                              try clear p26
                              try clear p6
                              try clear q26
                              obtain ⟨kq, x79_32, rfl, HA, HJ32, HB⟩ := hcut
                              cases kq with
                              | zero => exact absurd HA.out (by simp [remontoirlaw13_LexWrong.j4])
                              | succ kj32 =>
                                have H := HA.out
                                clear HA
                                simp only [remontoirlaw13_LexWrong.j4] at H
                                by_cases c36 : x79_32 = true
                                · subst c36
                                  have H1 : ((remontoirlaw13_wakes.f kj32).bind fun t287 => (some t287)) = some r := by rw [if_pos rfl] at H; exact H
                                  clear H
                                  have H := H1
                                  clear H1
                                  replace H := Option.bind_eq_some_iff.mp H
                                  obtain ⟨t287, A370, H⟩ := H
                                  replace H : (some t287) = some r := H
                                  have A37 := Aside0.mk A370
                                  clear A370
                                  obtain rfl := Option.some.inj H
                                  go_wp2_with (first | ((with_reducible refine gate_callee (f := 13) rfl ?_); refine goesL_ (some 80) rfl rfl Tryd.func13 (by kernel_rfl) rfl #[] rfl (by (try simp only [List.map_toArray, List.map_cons, List.map_nil]); first | done | rfl | (simp only [List.length_drop, List.length_take]; rfl)) ?_; (with_reducible refine (remontoirlaw13_wakes.calls kj32  t287 _ (Tabs.below hT (by repeat (first | (with_reducible first | exact HB.out | apply below_alloc | apply pw_below_drewN | apply below_drew1) | exact HB.out))) A37.out).mono ?_); rintro e w38 ⟨rfl, hb⟩; refine ⟨_, rfl, ?_⟩; have n0_ := Aside0.mk (below_step (by repeat (first | (with_reducible first | exact HB.out | apply below_alloc | apply pw_below_drewN | apply below_drew1) | exact HB.out)) hb); clear HB; have HB := n0_; clear n0_; (try clear hb); (try clear hb2); (try clear hk); (try clear hi)))
                                  go_ret
                                  exact ⟨by first | rfl | (simp [errW_none, errW_some] <;> rfl) | (simp [*, errW_none, errW_some] <;> rfl), by repeat (first | (with_reducible first | exact HB.out | apply below_alloc | apply pw_below_drewN | apply below_drew1) | exact HB.out)⟩
                                · replace c36 := Bool.eq_false_iff.mpr c36
                                  subst c36
                                  have H1 : ((some (([a2] : List Int) : List Int)).bind fun y288 => (if a0.size + (strOfNums y288).size ≤ 9223372036854775807 then (if (a0 ++ (strOfNums y288)).size + a1.size ≤ 9223372036854775807 then ((lex_Lex.f ((a0 ++ (strOfNums y288)) ++ a1)).bind fun bt291 => (if bt291.2 = 2 then (if (bt291.1.length : Int) = 0 then ((remontoirlaw13_wakes.f kj32).bind fun t295 => (some t295)) else (some false)) else (some false))) else (none)) else (none))) = some r := by rw [if_neg (show ¬ (false = true) by decide)] at H; exact H
                                  clear H
                                  have H := H1
                                  clear H1
                                  obtain ⟨y288, hy288⟩ : ∃ y_ : List Int, y_ = (([a2] : List Int)) := ⟨_, rfl⟩
                                  replace H : (if a0.size + (strOfNums y288).size ≤ 9223372036854775807 then (if (a0 ++ (strOfNums y288)).size + a1.size ≤ 9223372036854775807 then ((lex_Lex.f ((a0 ++ (strOfNums y288)) ++ a1)).bind fun bt291 => (if bt291.2 = 2 then (if (bt291.1.length : Int) = 0 then ((remontoirlaw13_wakes.f kj32).bind fun t295 => (some t295)) else (some false)) else (some false))) else (none)) else (none)) = some r := by first | (rw [hy288]; with_reducible exact H) | (have H2_ := (Option.bind_some _ _).symm.trans H; rw [hy288]; with_reducible exact H2_) | (have H2_ := (Option.bind_some _ _).symm.trans H; with_reducible exact H2_) | with_reducible exact H | (rw [hy288]; exact H) | exact H
                                  have Ny288 := Aside0.mk hy288
                                  clear hy288
                                  by_cases c39 : a0.size + (strOfNums y288).size ≤ 9223372036854775807
                                  · rw [if_pos c39] at H
                                    have c39b0 := eq_true c39
                                    have c39b1 : decide (a0.size + (strOfNums y288).size ≤ 9223372036854775807) = true := decide_eq_true c39
                                    try have c39b2 : (9223372036854775807 < a0.size + (strOfNums y288).size) = False := eq_false (Nat.not_lt.2 c39)
                                    by_cases c40 : (a0 ++ (strOfNums y288)).size + a1.size ≤ 9223372036854775807
                                    · rw [if_pos c40] at H
                                      have c40b0 := eq_true c40
                                      have c40b1 : decide ((a0 ++ (strOfNums y288)).size + a1.size ≤ 9223372036854775807) = true := decide_eq_true c40
                                      try (have c40b4 := c40; simp only [ByteArray.size_append] at c40b4; have c40b5 := eq_false (Nat.not_lt.2 c40b4))
                                      try have c40b2 : (9223372036854775807 < (a0 ++ (strOfNums y288)).size + a1.size) = False := eq_false (Nat.not_lt.2 c40)
                                      replace H := Option.bind_eq_some_iff.mp H
                                      obtain ⟨⟨t291, t292⟩, A410, H⟩ := H
                                      replace H : (if t292 = 2 then (if (t291.length : Int) = 0 then ((remontoirlaw13_wakes.f kj32).bind fun t295 => (some t295)) else (some false)) else (some false)) = some r := H
                                      have A41 := Aside0.mk A410
                                      clear A410
                                      by_cases c42 : t292 = 2
                                      · rw [if_pos c42] at H
                                        have c42b0 : (t292 == 2) = true := beq_iff_eq.mpr c42
                                        have c42b1 : (t292 != 2) = false := bne_eq_false_iff_eq.mpr c42
                                        clear c42
                                        by_cases c43 : (t291.length : Int) = 0
                                        · rw [if_pos c43] at H
                                          have c43b0 : ((t291.length : Int) == 0) = true := beq_iff_eq.mpr c43
                                          have c43b1 : ((t291.length : Int) != 0) = false := bne_eq_false_iff_eq.mpr c43
                                          clear c43
                                          replace H := Option.bind_eq_some_iff.mp H
                                          obtain ⟨t295, A440, H⟩ := H
                                          replace H : (some t295) = some r := H
                                          have A44 := Aside0.mk A440
                                          clear A440
                                          obtain rfl := Option.some.inj H
                                          go_wp2_with (first | ((with_reducible refine gate_dst (N := 84) rfl ?_); (try (refine gate_guard (by rfl) ?_; dsimp only)); refine Kd.R_lit (Kd.int .u8) _ 5 ?hg (N := 84) ?hd (xs := ([a2] : List Int)) (inner := [.int .u8 a2]) (ok := fun _ => True) (okp := fun _ => True) ?hr ?hp (fun _ hk => hk) trivial (Below.refl _ _) (Nat.le_refl _) (by simp) ?_; (case hd => rfl); (case hg => rfl); (case hr => first | (go_simp; done) | (go_simp; rfl)); (case hp => exact (Reps.one (show Kd.M (Kd.int .u8) _ _ _ a2 [.int .u8 a2] from rfl) (Reps.none _ _))); intro v289 w45 ho46 hb hg_ hnew_; clear hg_ hnew_; (first | rw [← Ny288.out] at ho46 | (simp only [Int.reduceToNat] at ho46; rw [← Ny288.out] at ho46)); have n0_ := Aside0.mk (Kd.R_lower ho46 (below_size (by repeat (first | (with_reducible first | exact HB.out | apply below_alloc | apply pw_below_drewN | apply below_drew1) | exact HB.out)))); have n1_ := Aside0.mk (below_step (by repeat (first | (with_reducible first | exact HB.out | apply below_alloc | apply pw_below_drewN | apply below_drew1) | exact HB.out)) hb); clear HB; have HO290 := n0_; have HB := n1_; clear n0_ n1_; clear hb ho46; have hcv47 := own_string (P := Tryd.prog) Tryd.underlying45 Tryd.underlying5 Tryd.underlying9 (Kd.own_of_R HO290.out)) | ((with_reducible refine gate_callee (f := 14) rfl ?_); refine goesL_ (some 89) rfl rfl Tryd.func14 (by kernel_rfl) rfl #[.string ((a0 ++ (strOfNums y288)) ++ a1)] rfl (by (try simp only [List.map_toArray, List.map_cons, List.map_nil]); first | done | rfl | (simp only [List.length_drop, List.length_take]; rfl)) ?_; (with_reducible refine (lex_Lex.calls ((a0 ++ (strOfNums y288)) ++ a1) t291 t292 _ A41.out).mono ?_); rintro e w48 ⟨v293, rfl, ho0, hb⟩; refine ⟨_, rfl, ?_⟩; have n0_ := Aside0.mk (Kd.R_below (by (with_reducible repeat (first | apply Kd.R_alloc | apply Kd.R_drewN | apply Kd.R_drew)); exact HO290.out) hb); have n1_ := Aside0.mk (Kd.R_lower ho0 (below_size (by repeat (first | (with_reducible first | exact HB.out | apply below_alloc | apply pw_below_drewN | apply below_drew1) | exact HB.out)))); have n2_ := Aside0.mk (below_step (by repeat (first | (with_reducible first | exact HB.out | apply below_alloc | apply pw_below_drewN | apply below_drew1) | exact HB.out)) hb); clear HO290; clear HB; have HO290 := n0_; have HO294 := n1_; have HB := n2_; clear n0_ n1_ n2_; (try clear hb); (try clear hb2); (try clear hk); (try clear hi); (try clear ho0); obtain ⟨Ao49, co49, eo49⟩ := Kd.R_slice HO294.out; subst eo49) | (go_at_call 13; (with_reducible refine (remontoirlaw13_wakes.calls kj32  t295 _ (Tabs.below hT (by repeat (first | (with_reducible first | exact HB.out | apply below_alloc | apply pw_below_drewN | apply below_drew1) | exact HB.out))) A44.out).mono ?_); rintro e w50 ⟨rfl, hb⟩; have n0_ := Aside0.mk (Kd.R_below (by (with_reducible repeat (first | apply Kd.R_alloc | apply Kd.R_drewN | apply Kd.R_drew)); exact HO290.out) hb); have n1_ := Aside0.mk (Kd.R_below (by (with_reducible repeat (first | apply Kd.R_alloc | apply Kd.R_drewN | apply Kd.R_drew)); exact HO294.out) hb); have n2_ := Aside0.mk (below_step (by repeat (first | (with_reducible first | exact HB.out | apply below_alloc | apply pw_below_drewN | apply below_drew1) | exact HB.out)) hb); clear HO290; clear HO294; clear HB; have HO290 := n0_; have HO294 := n1_; have HB := n2_; clear n0_ n1_ n2_; (try clear hb); (try clear hb2); (try clear hk); (try clear hi)))
                                          go_ret
                                          exact ⟨by first | rfl | (simp [errW_none, errW_some] <;> rfl) | (simp [*, errW_none, errW_some] <;> rfl), by repeat (first | (with_reducible first | exact HB.out | apply below_alloc | apply pw_below_drewN | apply below_drew1) | exact HB.out)⟩
                                        · rw [if_neg c43] at H
                                          have c43b0 : ((t291.length : Int) == 0) = false := beq_eq_false_iff_ne.mpr c43
                                          have c43b1 : ((t291.length : Int) != 0) = true := bne_iff_ne.mpr c43
                                          have c43b2 : ¬ (t291 = []) := fun h_ => c43 (by rw [h_]; rfl)
                                          obtain rfl := Option.some.inj H
                                          go_wp2_with (first | ((with_reducible refine gate_dst (N := 84) rfl ?_); (try (refine gate_guard (by rfl) ?_; dsimp only)); refine Kd.R_lit (Kd.int .u8) _ 5 ?hg (N := 84) ?hd (xs := ([a2] : List Int)) (inner := [.int .u8 a2]) (ok := fun _ => True) (okp := fun _ => True) ?hr ?hp (fun _ hk => hk) trivial (Below.refl _ _) (Nat.le_refl _) (by simp) ?_; (case hd => rfl); (case hg => rfl); (case hr => first | (go_simp; done) | (go_simp; rfl)); (case hp => exact (Reps.one (show Kd.M (Kd.int .u8) _ _ _ a2 [.int .u8 a2] from rfl) (Reps.none _ _))); intro v289 w51 ho52 hb hg_ hnew_; clear hg_ hnew_; (first | rw [← Ny288.out] at ho52 | (simp only [Int.reduceToNat] at ho52; rw [← Ny288.out] at ho52)); have n0_ := Aside0.mk (Kd.R_lower ho52 (below_size (by repeat (first | (with_reducible first | exact HB.out | apply below_alloc | apply pw_below_drewN | apply below_drew1) | exact HB.out)))); have n1_ := Aside0.mk (below_step (by repeat (first | (with_reducible first | exact HB.out | apply below_alloc | apply pw_below_drewN | apply below_drew1) | exact HB.out)) hb); clear HB; have HO290 := n0_; have HB := n1_; clear n0_ n1_; clear hb ho52; have hcv53 := own_string (P := Tryd.prog) Tryd.underlying45 Tryd.underlying5 Tryd.underlying9 (Kd.own_of_R HO290.out)) | ((with_reducible refine gate_callee (f := 14) rfl ?_); refine goesL_ (some 89) rfl rfl Tryd.func14 (by kernel_rfl) rfl #[.string ((a0 ++ (strOfNums y288)) ++ a1)] rfl (by (try simp only [List.map_toArray, List.map_cons, List.map_nil]); first | done | rfl | (simp only [List.length_drop, List.length_take]; rfl)) ?_; (with_reducible refine (lex_Lex.calls ((a0 ++ (strOfNums y288)) ++ a1) t291 t292 _ A41.out).mono ?_); rintro e w54 ⟨v293, rfl, ho0, hb⟩; refine ⟨_, rfl, ?_⟩; have n0_ := Aside0.mk (Kd.R_below (by (with_reducible repeat (first | apply Kd.R_alloc | apply Kd.R_drewN | apply Kd.R_drew)); exact HO290.out) hb); have n1_ := Aside0.mk (Kd.R_lower ho0 (below_size (by repeat (first | (with_reducible first | exact HB.out | apply below_alloc | apply pw_below_drewN | apply below_drew1) | exact HB.out)))); have n2_ := Aside0.mk (below_step (by repeat (first | (with_reducible first | exact HB.out | apply below_alloc | apply pw_below_drewN | apply below_drew1) | exact HB.out)) hb); clear HO290; clear HB; have HO290 := n0_; have HO294 := n1_; have HB := n2_; clear n0_ n1_ n2_; (try clear hb); (try clear hb2); (try clear hk); (try clear hi); (try clear ho0); obtain ⟨Ao55, co55, eo55⟩ := Kd.R_slice HO294.out; subst eo55))
                                          go_ret
                                          exact ⟨by first | rfl | (simp [errW_none, errW_some] <;> rfl) | (simp [*, errW_none, errW_some] <;> rfl), by repeat (first | (with_reducible first | exact HB.out | apply below_alloc | apply pw_below_drewN | apply below_drew1) | exact HB.out)⟩
                                      · rw [if_neg c42] at H
                                        have c42b0 : (t292 == 2) = false := beq_eq_false_iff_ne.mpr c42
                                        have c42b1 : (t292 != 2) = true := bne_iff_ne.mpr c42
                                        obtain rfl := Option.some.inj H
                                        go_wp2_with (first | ((with_reducible refine gate_dst (N := 84) rfl ?_); (try (refine gate_guard (by rfl) ?_; dsimp only)); refine Kd.R_lit (Kd.int .u8) _ 5 ?hg (N := 84) ?hd (xs := ([a2] : List Int)) (inner := [.int .u8 a2]) (ok := fun _ => True) (okp := fun _ => True) ?hr ?hp (fun _ hk => hk) trivial (Below.refl _ _) (Nat.le_refl _) (by simp) ?_; (case hd => rfl); (case hg => rfl); (case hr => first | (go_simp; done) | (go_simp; rfl)); (case hp => exact (Reps.one (show Kd.M (Kd.int .u8) _ _ _ a2 [.int .u8 a2] from rfl) (Reps.none _ _))); intro v289 w56 ho57 hb hg_ hnew_; clear hg_ hnew_; (first | rw [← Ny288.out] at ho57 | (simp only [Int.reduceToNat] at ho57; rw [← Ny288.out] at ho57)); have n0_ := Aside0.mk (Kd.R_lower ho57 (below_size (by repeat (first | (with_reducible first | exact HB.out | apply below_alloc | apply pw_below_drewN | apply below_drew1) | exact HB.out)))); have n1_ := Aside0.mk (below_step (by repeat (first | (with_reducible first | exact HB.out | apply below_alloc | apply pw_below_drewN | apply below_drew1) | exact HB.out)) hb); clear HB; have HO290 := n0_; have HB := n1_; clear n0_ n1_; clear hb ho57; have hcv58 := own_string (P := Tryd.prog) Tryd.underlying45 Tryd.underlying5 Tryd.underlying9 (Kd.own_of_R HO290.out)) | ((with_reducible refine gate_callee (f := 14) rfl ?_); refine goesL_ (some 89) rfl rfl Tryd.func14 (by kernel_rfl) rfl #[.string ((a0 ++ (strOfNums y288)) ++ a1)] rfl (by (try simp only [List.map_toArray, List.map_cons, List.map_nil]); first | done | rfl | (simp only [List.length_drop, List.length_take]; rfl)) ?_; (with_reducible refine (lex_Lex.calls ((a0 ++ (strOfNums y288)) ++ a1) t291 t292 _ A41.out).mono ?_); rintro e w59 ⟨v293, rfl, ho0, hb⟩; refine ⟨_, rfl, ?_⟩; have n0_ := Aside0.mk (Kd.R_below (by (with_reducible repeat (first | apply Kd.R_alloc | apply Kd.R_drewN | apply Kd.R_drew)); exact HO290.out) hb); have n1_ := Aside0.mk (Kd.R_lower ho0 (below_size (by repeat (first | (with_reducible first | exact HB.out | apply below_alloc | apply pw_below_drewN | apply below_drew1) | exact HB.out)))); have n2_ := Aside0.mk (below_step (by repeat (first | (with_reducible first | exact HB.out | apply below_alloc | apply pw_below_drewN | apply below_drew1) | exact HB.out)) hb); clear HO290; clear HB; have HO290 := n0_; have HO294 := n1_; have HB := n2_; clear n0_ n1_ n2_; (try clear hb); (try clear hb2); (try clear hk); (try clear hi); (try clear ho0)))
                                        go_ret
                                        exact ⟨by first | rfl | (simp [errW_none, errW_some] <;> rfl) | (simp [*, errW_none, errW_some] <;> rfl), by repeat (first | (with_reducible first | exact HB.out | apply below_alloc | apply pw_below_drewN | apply below_drew1) | exact HB.out)⟩
                                    · rw [if_neg c40] at H
                                      exact absurd H (by simp)
                                  · rw [if_neg c39] at H
                                    exact absurd H (by simp)

/-- THE ONE PURE STATEMENT of remontoirlaw13_LexWrong: yours. -/
def remontoirlaw13_LexWrong.Pure : Prop := ∀ (a0 : ByteArray) (a1 : ByteArray) (a2 : Int), a0.size ≤ 140737488351232 → a1.size ≤ 140737488351232 → (Lit.int .u8 a2).wf = true → ∃ k, remontoirlaw13_LexWrong.f k a0 a1 a2 = some true
theorem remontoirlaw13_LexWrong.walk (P : remontoirlaw13_LexWrong.Pure) (a0 : ByteArray) (a1 : ByteArray) (a2 : Int) (w : World) (hT : Tabs w) (w0 : a0.size ≤ 140737488351232) (w1 : a1.size ≤ 140737488351232) (w2 : (Lit.int .u8 a2).wf = true) :
    Calls Tryd.prog 7 #[.string a0, .string a1, .int .u8 a2] w fun e w' => e = .returned (.bool true) ∧ Below w.heap.size w w' := by
  obtain ⟨k, h⟩ := P a0 a1 a2 w0 w1 w2
  refine (remontoirlaw13_LexWrong.calls k a0 a1 a2 true w hT h).mono ?_
  rintro e w' ⟨rfl, hd⟩
  exact ⟨rfl, hd⟩

end Go.Proofs.YtojfdekiponccaaDoor.H
