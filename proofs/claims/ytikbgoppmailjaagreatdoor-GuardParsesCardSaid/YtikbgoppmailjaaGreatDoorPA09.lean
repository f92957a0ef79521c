/- Parts of the proof of LawGuardParses: words, contracts of the functions, plain laws. -/
import Derived.Test.YtikbgoppmailjaaGreatDoorPA02
import Derived.Test.YtikbgoppmailjaaGreatDoorPA05
import Derived.Test.YtikbgoppmailjaaGreatDoorPA08
import Derived.Test.YtikbgoppmailjaaGreatDoorPA03
import Derived.Test.YtikbgoppmailjaaGreatDoorPA04
import Derived.KernelRfl
import Derived.Test.YtikbgoppmailjaaGreatDoorRows
import Derived.LaidMore
import Derived.Lay
import Derived.Stop.LaidErr
import Derived.Stop.Joined
import Derived.MakeChecks
import Derived.Lib.LaidTab
-- Written by hp.py (a program of this session, over the kit's print.py), with hand-made contracts beside it.
namespace Go.Proofs.YtikbgoppmailjaaGreatDoor.H
open Go.RowKit Go.Proofs.YtikbgoppmailjaaGreatDoorW.PrintWords Go.Proofs.YtikbgoppmailjaaGreatDoorW.PrintLast Go.Proofs.YtikbgoppmailjaaGreatDoorW.PrintMore
attribute [local go_sem] max2_int min2_int max_two min_two max_three min_three max_four min_four   -- for this text's walks alone
set_option linter.unusedVariables false
set_option linter.unusedSimpArgs false

attribute [local go_sem high] eqA39
/-! ### remontoirkeep_Signs: function 8 -/
def remontoirkeep_Signs.l0 : Nat → List (S39) → List (S39) → Int → Option (Bool)
  | 0, _, _, _ => none
  | k + 1, x0, x1, x5 => if x5 < (x0.length : Int) then (if 0 ≤ x5 then (if x5 < (x1.length : Int) then (if (!(((rd_T39 x0 x5).f0) == ((rd_T39 x1 x5).f0)) || (!(((rd_T39 x0 x5).f1) == ((rd_T39 x1 x5).f1)))) = true then (some false) else (remontoirkeep_Signs.l0 k x0 x1 (wrap64 (x5 + 1)))) else (none)) else (none)) else (some true)
def remontoirkeep_Signs.f (k : Nat) (l0 : List (S39)) (l1 : List (S39)) : Option (Bool) := if (l0.length : Int) = (l1.length : Int) then (remontoirkeep_Signs.l0 k l0 l1 0) else (some false)
theorem remontoirkeep_Signs.mono_l : ∀ k, (∀ y0 y1 y2, LeO (remontoirkeep_Signs.l0 k y0 y1 y2) (remontoirkeep_Signs.l0 (k + 1) y0 y1 y2))
  | 0 => fun _ _ _ r h => by simp [remontoirkeep_Signs.l0] at h
  | k + 1 => by
    have ih0 := remontoirkeep_Signs.mono_l k
    · intro y0 y1 y2
      unfold remontoirkeep_Signs.l0
      repeat' first
      | (with_reducible exact ih0 _ _ _)
      | (with_reducible exact LeO.refl _)
      | (with_reducible exact LeO.none _)
      | (with_reducible refine LeO.ite ?_ ?_)
      | (with_reducible refine LeO.bind ?_ (fun _ => ?_))
      | exact ih0 _ _ _
      | exact LeO.none _
      | refine LeO.ite ?_ ?_
      | refine LeO.bind ?_ (fun _ => ?_)
theorem remontoirkeep_Signs.mono : ∀ a0 a1 k, LeO (remontoirkeep_Signs.f k a0 a1) (remontoirkeep_Signs.f (k + 1) a0 a1) := by
  intro a0 a1 k
  have ih0 := remontoirkeep_Signs.mono_l k
  unfold remontoirkeep_Signs.f
  repeat' first
      | (with_reducible exact ih0 _ _ _)
      | (with_reducible exact LeO.refl _)
      | (with_reducible exact LeO.none _)
      | (with_reducible refine LeO.ite ?_ ?_)
      | (with_reducible refine LeO.bind ?_ (fun _ => ?_))
      | exact ih0 _ _ _
      | exact LeO.none _
      | refine LeO.ite ?_ ?_
      | refine LeO.bind ?_ (fun _ => ?_)
set_option maxHeartbeats 8000000 in
set_option maxRecDepth 100000 in
theorem remontoirkeep_Signs.calls (k : Nat) (A0 : Option Addr) (c0 : Nat) (l0 : List (S39)) (A1 : Option Addr) (c1 : Nat) (l1 : List (S39)) (r : Bool) (w : World) (hr0 : Kd.C k39 w A0 l0.length l0) (hc0 : l0.length ≤ c0) (hr1 : Kd.C k39 w A1 l1.length l1) (hc1 : l1.length ≤ c1) (h : remontoirkeep_Signs.f k l0 l1 = some r) :
    Calls Tryz.prog 8 #[.slice A0 l0.length c0, .slice A1 l1.length c1] w fun e w' => e = .returned (.bool r) ∧ Drawn0 w w' := by
  have hu39 := Tryz.underlying39
  have HR0 := Aside0.mk hr0
  have HC0 := Aside0.mk hc0
  clear hr0 hc0
  have HR1 := Aside0.mk hr1
  have HC1 := Aside0.mk hc1
  clear hr1 hc1
  have H : (if (l0.length : Int) = (l1.length : Int) then (remontoirkeep_Signs.l0 k l0 l1 0) else (some false)) = some r := h
  clear h
  by_cases c3 : (l0.length : Int) = (l1.length : Int)
  · rw [if_pos c3] at H
    have c3b0 : ((l0.length : Int) == (l1.length : Int)) = true := beq_iff_eq.mpr c3
    have c3b1 : ((l0.length : Int) != (l1.length : Int)) = false := bne_eq_false_iff_eq.mpr c3
    have c3b2 : (l0.length == l1.length) = true := by first | simpa using c3 | (simp at c3 ⊢; omega)
    clear c3
    have H' := Aside0.mk H
    clear H
    go_enter Tryz.func8, Tryz.ntmps8
    go_wp2
    repeat (go_quiet (fail); try go_wp2)
    go_loopg [5] k (fun kq v5 w' => ∃ (x5_1 : Int), v5 = .int .i64 x5_1 ∧ Aside0 (remontoirkeep_Signs.l0 kq l0 l1 x5_1 = some r) ∧ Aside0 (kq ≤ k) ∧ Drawn0 w w')
    case atStart => exact ⟨(0), (by first | rfl | (simp; done) | (simp [*]; done)), H', ⟨Nat.le_refl _⟩, by repeat (first | exact Drawn0.refl _ | apply Drawn0.step)⟩
    case round =>
      clear H'
      try clear c1
      try clear p2
      try clear c3
      try clear c3b0
      try clear c3b1
      try clear c3b2
      obtain ⟨x5_1, rfl, HA, HK1, ⟨m1, rfl⟩⟩ := hrel
      cases gk with
      | zero => exact absurd HA.out (by simp [remontoirkeep_Signs.l0])
      | succ k1 =>
        have H := HA.out
        clear HA
        simp only [remontoirkeep_Signs.l0] at H
        by_cases c4 : x5_1 < (l0.length : Int)
        · rw [if_pos c4] at H
          have c4b0 : decide (x5_1 < (l0.length : Int)) = true := decide_eq_true c4
          clear c4
          by_cases c5 : 0 ≤ x5_1
          · rw [if_pos c5] at H
            have c5b0 : decide (0 ≤ x5_1) = true := decide_eq_true c5
            clear c5
            by_cases c6 : x5_1 < (l1.length : Int)
            · rw [if_pos c6] at H
              have c6b0 : decide (x5_1 < (l1.length : Int)) = true := decide_eq_true c6
              clear c6
              by_cases c7 : (!(((rd_T39 l0 x5_1).f0) == ((rd_T39 l1 x5_1).f0)) || (!(((rd_T39 l0 x5_1).f1) == ((rd_T39 l1 x5_1).f1)))) = true
              · rw [if_pos c7] at H
                have c7b0 : (!(((rd_T39 l0 x5_1).f0) == ((rd_T39 l1 x5_1).f0)) || (!(((rd_T39 l0 x5_1).f1) == ((rd_T39 l1 x5_1).f1)))) = true := c7
                clear c7
                obtain rfl := Option.some.inj H
                have p185 : 0 ≤ (x5_1 : Int) := of_decide_eq_true (by first | (with_reducible assumption) | assumption)
                have q185 : x5_1 < (l0.length : Int) := of_decide_eq_true (by first | (with_reducible assumption) | assumption)
                obtain ⟨ad185, e185, hx185_0, hx185_1⟩ := at_T39 HR0.out x5_1 p185 q185
                cases e185
                replace p185 := eq_true p185
                replace q185 := eq_true q185
                have p186 : 0 ≤ (x5_1 : Int) := of_decide_eq_true (by first | (with_reducible assumption) | assumption)
                have q186 : x5_1 < (l1.length : Int) := of_decide_eq_true (by first | (with_reducible assumption) | assumption)
                obtain ⟨ad186, e186, hx186_0, hx186_1⟩ := at_T39 HR1.out x5_1 p186 q186
                cases e186
                replace p186 := eq_true p186
                replace q186 := eq_true q186
                go_wp2
                repeat (go_quiet (fail); try go_wp2)
                go_ret
                exact ⟨by first | rfl | (simp; done) | (simp [*]; done), by repeat (first | exact Drawn0.refl _ | apply Drawn0.step)⟩
              · rw [if_neg c7] at H
                have c7b0 : (!(((rd_T39 l0 x5_1).f0) == ((rd_T39 l1 x5_1).f0)) || (!(((rd_T39 l0 x5_1).f1) == ((rd_T39 l1 x5_1).f1)))) = false := by simpa using c7
                clear c7
                have H' := Aside0.mk H
                clear H
                have p185 : 0 ≤ (x5_1 : Int) := of_decide_eq_true (by first | (with_reducible assumption) | assumption)
                have q185 : x5_1 < (l0.length : Int) := of_decide_eq_true (by first | (with_reducible assumption) | assumption)
                obtain ⟨ad185, e185, hx185_0, hx185_1⟩ := at_T39 HR0.out x5_1 p185 q185
                cases e185
                replace p185 := eq_true p185
                replace q185 := eq_true q185
                have p186 : 0 ≤ (x5_1 : Int) := of_decide_eq_true (by first | (with_reducible assumption) | assumption)
                have q186 : x5_1 < (l1.length : Int) := of_decide_eq_true (by first | (with_reducible assumption) | assumption)
                obtain ⟨ad186, e186, hx186_0, hx186_1⟩ := at_T39 HR1.out x5_1 p186 q186
                cases e186
                replace p186 := eq_true p186
                replace q186 := eq_true q186
                go_wp2
                repeat (go_quiet (fail); try go_wp2)
                go_roundg k1
                case measure => have := HK1.out; omega
                case rel => exact ⟨(wrap64 (x5_1 + 1)), (by first | rfl | (simp; done) | (simp [*]; done)), H', ⟨by have := HK1.out; omega⟩, by repeat (first | exact Drawn0.refl _ | apply Drawn0.step)⟩
            · rw [if_neg c6] at H
              exact absurd H (by simp)
          · rw [if_neg c5] at H
            exact absurd H (by simp)
        · rw [if_neg c4] at H
          have c4b0 : decide (x5_1 < (l0.length : Int)) = false := decide_eq_false c4
          clear c4
          obtain rfl := Option.some.inj H
          go_wp2
          repeat (go_quiet (fail); try go_wp2)
          go_ret
          exact ⟨by first | rfl | (simp; done) | (simp [*]; done), by repeat (first | exact Drawn0.refl _ | apply Drawn0.step)⟩
  · rw [if_neg c3] at H
    have c3b0 : ((l0.length : Int) == (l1.length : Int)) = false := beq_eq_false_iff_ne.mpr c3
    have c3b1 : ((l0.length : Int) != (l1.length : Int)) = true := bne_iff_ne.mpr c3
    have c3b2 : (l0.length == l1.length) = false := by first | simpa using c3 | (simp at c3 ⊢; omega)
    obtain rfl := Option.some.inj H
    go_enter Tryz.func8, Tryz.ntmps8
    go_wp2
    repeat (go_quiet (fail); try go_wp2)
    go_ret
    exact ⟨by first | rfl | (simp; done) | (simp [*]; done), by repeat (first | exact Drawn0.refl _ | apply Drawn0.step)⟩

/-! ### remontoirlaw14_GuardParses: function 3 -/
def remontoirlaw14_GuardParses.f (k : Nat) (a0 : ByteArray) : Option (Bool) := if (a0.size : Int) > 300 then ((remontoirlaw14_wakes.f k).bind fun t187 => (some t187)) else ((guard_Parse.f k a0).bind fun bt188 => ((remontoirref14_Parse.f k a0).bind fun bt192 => (if bt188.2 = bt192.2 then ((remontoirkeep_Signs.f k bt188.1 bt192.1).bind fun t196 => (if t196 = true then ((remontoirlaw14_wakes.f k).bind fun t197 => (some t197)) else (some false))) else (some false))))
theorem remontoirlaw14_GuardParses.mono : ∀ a0 k, LeO (remontoirlaw14_GuardParses.f k a0) (remontoirlaw14_GuardParses.f (k + 1) a0) := by
  intro a0 k
  unfold remontoirlaw14_GuardParses.f
  repeat' first
      | (with_reducible exact guard_Parse.mono _ _)
      | (with_reducible exact remontoirkeep_Signs.mono _ _ _)
      | (with_reducible exact remontoirlaw14_wakes.mono _)
      | (with_reducible exact remontoirref14_Parse.mono _ _)
      | (with_reducible exact LeO.refl _)
      | (with_reducible exact LeO.none _)
      | (with_reducible refine LeO.ite ?_ ?_)
      | (with_reducible refine LeO.bind ?_ (fun _ => ?_))
      | exact guard_Parse.mono _ _
      | exact remontoirkeep_Signs.mono _ _ _
      | exact remontoirlaw14_wakes.mono _
      | exact remontoirref14_Parse.mono _ _
      | exact LeO.none _
      | refine LeO.ite ?_ ?_
      | refine LeO.bind ?_ (fun _ => ?_)
set_option maxHeartbeats 8000000 in
set_option maxRecDepth 100000 in
theorem remontoirlaw14_GuardParses.calls (k : Nat) (a0 : ByteArray) (r : Bool) (w : World) (hT : Tabs2 w) (h : remontoirlaw14_GuardParses.f k a0 = some r) :
    Calls Tryz.prog 3 #[.string a0] w fun e w' => e = .returned (.bool r) ∧ Below w.heap.size w w' := by
  have HB := Aside0.mk (Below.refl w.heap.size w)
  have H : (if (a0.size : Int) > 300 then ((remontoirlaw14_wakes.f k).bind fun t187 => (some t187)) else ((guard_Parse.f k a0).bind fun bt188 => ((remontoirref14_Parse.f k a0).bind fun bt192 => (if bt188.2 = bt192.2 then ((remontoirkeep_Signs.f k bt188.1 bt192.1).bind fun t196 => (if t196 = true then ((remontoirlaw14_wakes.f k).bind fun t197 => (some t197)) else (some false))) else (some false))))) = some r := h
  clear h
  by_cases c2 : (a0.size : Int) > 300
  · rw [if_pos c2] at H
    have c2b0 : decide (300 < (a0.size : Int)) = true := decide_eq_true c2
    have c2b1 : decide (300 < a0.size) = true := decide_eq_true (by omega)
    clear c2
    replace H := Option.bind_eq_some_iff.mp H
    obtain ⟨t187, A30, H⟩ := H
    replace H : (some t187) = some r := H
    have A3 := Aside0.mk A30
    clear A30
    obtain rfl := Option.some.inj H
    go_enter Tryz.func3, Tryz.ntmps3
    go_wp2_with (first | ((with_reducible refine gate_callee (f := 5) rfl ?_); refine goesL_ (some 10) rfl rfl Tryz.func5 (by kernel_rfl) rfl #[] rfl (by (try simp only [List.map_toArray, List.map_cons, List.map_nil]); first | done | rfl | (simp only [List.length_drop, List.length_take]; rfl)) ?_; (with_reducible refine (remontoirlaw14_wakes.calls k  t187 _ (Tabs2.below hT (by repeat (first | (with_reducible first | exact HB.out | apply below_alloc | apply pw_below_drewN | apply below_drew1) | exact HB.out))) A3.out).mono ?_); rintro e w4 ⟨rfl, hb⟩; refine ⟨_, rfl, ?_⟩; have n0_ := Aside0.mk (below_step (by repeat (first | (with_reducible first | exact HB.out | apply below_alloc | apply pw_below_drewN | apply below_drew1) | exact HB.out)) hb); clear HB; have HB := n0_; clear n0_; (try clear hb); (try clear hb2); (try clear hk); (try clear hi)))
    go_ret
    exact ⟨by first | rfl | (simp [errW_none, errW_some] <;> rfl) | (simp [*, errW_none, errW_some] <;> rfl), by repeat (first | (with_reducible first | exact HB.out | apply below_alloc | apply pw_below_drewN | apply below_drew1) | exact HB.out)⟩
  · rw [if_neg c2] at H
    have c2b0 : decide (300 < (a0.size : Int)) = false := decide_eq_false c2
    have c2b1 : decide (300 < a0.size) = false := decide_eq_false (by omega)
    clear c2
    replace H := Option.bind_eq_some_iff.mp H
    obtain ⟨⟨t188, t189⟩, A50, H⟩ := H
    replace H : ((remontoirref14_Parse.f k a0).bind fun bt192 => (if t189 = bt192.2 then ((remontoirkeep_Signs.f k t188 bt192.1).bind fun t196 => (if t196 = true then ((remontoirlaw14_wakes.f k).bind fun t197 => (some t197)) else (some false))) else (some false))) = some r := H
    have A5 := Aside0.mk A50
    clear A50
    replace H := Option.bind_eq_some_iff.mp H
    obtain ⟨⟨t192, t193⟩, A60, H⟩ := H
    replace H : (if t189 = t193 then ((remontoirkeep_Signs.f k t188 t192).bind fun t196 => (if t196 = true then ((remontoirlaw14_wakes.f k).bind fun t197 => (some t197)) else (some false))) else (some false)) = some r := H
    have A6 := Aside0.mk A60
    clear A60
    by_cases c7 : t189 = t193
    · rw [if_pos c7] at H
      have c7b0 : (t189 == t193) = true := beq_iff_eq.mpr c7
      have c7b1 : (t189 != t193) = false := bne_eq_false_iff_eq.mpr c7
      clear c7
      replace H := Option.bind_eq_some_iff.mp H
      obtain ⟨t196, A80, H⟩ := H
      replace H : (if t196 = true then ((remontoirlaw14_wakes.f k).bind fun t197 => (some t197)) else (some false)) = some r := H
      have A8 := Aside0.mk A80
      clear A80
      by_cases c9 : t196 = true
      · subst c9
        have H1 : ((remontoirlaw14_wakes.f k).bind fun t197 => (some t197)) = some r := by rw [if_pos rfl] at H; exact H
        clear H
        have H := H1
        clear H1
        replace H := Option.bind_eq_some_iff.mp H
        obtain ⟨t197, A100, H⟩ := H
        replace H : (some t197) = some r := H
        have A10 := Aside0.mk A100
        clear A100
        obtain rfl := Option.some.inj H
        go_enter Tryz.func3, Tryz.ntmps3
        go_wp2_with (first | ((with_reducible refine gate_callee (f := 6) rfl ?_); refine goesL_ (some 13) rfl rfl Tryz.func6 (by kernel_rfl) rfl #[.string a0] rfl (by (try simp only [List.map_toArray, List.map_cons, List.map_nil]); first | done | rfl | (simp only [List.length_drop, List.length_take]; rfl)) ?_; (with_reducible refine (guard_Parse.calls k a0 t188 t189 _ (Tabs2.below hT (by repeat (first | (with_reducible first | exact HB.out | apply below_alloc | apply pw_below_drewN | apply below_drew1) | exact HB.out))) A5.out).mono ?_); rintro e w11 ⟨v190, rfl, ho0, hb⟩; refine ⟨_, rfl, ?_⟩; have n0_ := Aside0.mk (Kd.R_lower ho0 (below_size (by repeat (first | (with_reducible first | exact HB.out | apply below_alloc | apply pw_below_drewN | apply below_drew1) | exact HB.out)))); have n1_ := Aside0.mk (below_step (by repeat (first | (with_reducible first | exact HB.out | apply below_alloc | apply pw_below_drewN | apply below_drew1) | exact HB.out)) hb); clear HB; have HO191 := n0_; have HB := n1_; clear n0_ n1_; (try clear hb); (try clear hb2); (try clear hk); (try clear hi); (try clear ho0)) | ((with_reducible refine gate_callee (f := 7) rfl ?_); refine goesL_ (some 18) rfl rfl Tryz.func7 (by kernel_rfl) rfl #[.string a0] rfl (by (try simp only [List.map_toArray, List.map_cons, List.map_nil]); first | done | rfl | (simp only [List.length_drop, List.length_take]; rfl)) ?_; (with_reducible refine (remontoirref14_Parse.calls k a0 t192 t193 _ A6.out).mono ?_); rintro e w12 ⟨v194, rfl, ho0, hb⟩; refine ⟨_, rfl, ?_⟩; have n0_ := Aside0.mk (Kd.R_elder' (by (with_reducible repeat (first | apply Kd.R_alloc | apply Kd.R_drewN | apply Kd.R_drew)); exact HO191.out) (Kd.R_base ho0) hb); have n1_ := Aside0.mk (Kd.R_lower (Kd.R_new' ho0 (Kd.R_lt (by (with_reducible repeat (first | apply Kd.R_alloc | apply Kd.R_drewN | apply Kd.R_drew)); exact HO191.out))) (below_size (by repeat (first | (with_reducible first | exact HB.out | apply below_alloc | apply pw_below_drewN | apply below_drew1) | exact HB.out)))); have n2_ := Aside0.mk (below_step (by repeat (first | (with_reducible first | exact HB.out | apply below_alloc | apply pw_below_drewN | apply below_drew1) | exact HB.out)) hb); clear HO191; clear HB; have HO191 := n0_; have HO195 := n1_; have HB := n2_; clear n0_ n1_ n2_; (try clear hb); (try clear hb2); (try clear hk); (try clear hi); (try clear ho0); obtain ⟨Ao13, co13, eo13⟩ := Kd.R_slice HO191.out; subst eo13; obtain ⟨Ao14, co14, eo14⟩ := Kd.R_slice HO195.out; subst eo14) | (go_at_call 8; (with_reducible refine (remontoirkeep_Signs.calls k _ _ t188 _ _ t192 true _ ?side1 ?side2 ?side3 ?side4 A8.out).mono ?_); (case side1 => repeat (first | exact (Kd.R_reads' HO191.out).2.2 | (with_reducible refine Kd.C_alloc ?_ _) | (with_reducible refine Kd.C_drewN ?_ _) | (with_reducible refine Kd.C_drew ?_))); (case side2 => exact (Kd.R_reads' HO191.out).2.1); (case side3 => repeat (first | exact (Kd.R_reads' HO195.out).2.2 | (with_reducible refine Kd.C_alloc ?_ _) | (with_reducible refine Kd.C_drewN ?_ _) | (with_reducible refine Kd.C_drew ?_))); (case side4 => exact (Kd.R_reads' HO195.out).2.1); rintro e w' ⟨rfl, ⟨nd, rfl⟩⟩) | (go_at_call 5; (with_reducible refine (remontoirlaw14_wakes.calls k  t197 _ (Tabs2.below hT (by repeat (first | (with_reducible first | exact HB.out | apply below_alloc | apply pw_below_drewN | apply below_drew1) | exact HB.out))) A10.out).mono ?_); rintro e w15 ⟨rfl, hb⟩; have n0_ := Aside0.mk (Kd.R_below (by (with_reducible repeat (first | apply Kd.R_alloc | apply Kd.R_drewN | apply Kd.R_drew)); exact HO191.out) hb); have n1_ := Aside0.mk (Kd.R_below (by (with_reducible repeat (first | apply Kd.R_alloc | apply Kd.R_drewN | apply Kd.R_drew)); exact HO195.out) hb); have n2_ := Aside0.mk (below_step (by repeat (first | (with_reducible first | exact HB.out | apply below_alloc | apply pw_below_drewN | apply below_drew1) | exact HB.out)) hb); clear HO191; clear HO195; clear HB; have HO191 := n0_; have HO195 := n1_; have HB := n2_; clear n0_ n1_ n2_; (try clear hb); (try clear hb2); (try clear hk); (try clear hi)))
        go_ret
        exact ⟨by first | rfl | (simp [errW_none, errW_some] <;> rfl) | (simp [*, errW_none, errW_some] <;> rfl), by repeat (first | (with_reducible first | exact HB.out | apply below_alloc | apply pw_below_drewN | apply below_drew1) | exact HB.out)⟩
      · replace c9 := Bool.eq_false_iff.mpr c9
        subst c9
        have H1 : (some false) = some r := by rw [if_neg (show ¬ (false = true) by decide)] at H; exact H
        clear H
        have H := H1
        clear H1
        obtain rfl := Option.some.inj H
        go_enter Tryz.func3, Tryz.ntmps3
        go_wp2_with (first | ((with_reducible refine gate_callee (f := 6) rfl ?_); refine goesL_ (some 13) rfl rfl Tryz.func6 (by kernel_rfl) rfl #[.string a0] rfl (by (try simp only [List.map_toArray, List.map_cons, List.map_nil]); first | done | rfl | (simp only [List.length_drop, List.length_take]; rfl)) ?_; (with_reducible refine (guard_Parse.calls k a0 t188 t189 _ (Tabs2.below hT (by repeat (first | (with_reducible first | exact HB.out | apply below_alloc | apply pw_below_drewN | apply below_drew1) | exact HB.out))) A5.out).mono ?_); rintro e w16 ⟨v190, rfl, ho0, hb⟩; refine ⟨_, rfl, ?_⟩; have n0_ := Aside0.mk (Kd.R_lower ho0 (below_size (by repeat (first | (with_reducible first | exact HB.out | apply below_alloc | apply pw_below_drewN | apply below_drew1) | exact HB.out)))); have n1_ := Aside0.mk (below_step (by repeat (first | (with_reducible first | exact HB.out | apply below_alloc | apply pw_below_drewN | apply below_drew1) | exact HB.out)) hb); clear HB; have HO191 := n0_; have HB := n1_; clear n0_ n1_; (try clear hb); (try clear hb2); (try clear hk); (try clear hi); (try clear ho0)) | ((with_reducible refine gate_callee (f := 7) rfl ?_); refine goesL_ (some 18) rfl rfl Tryz.func7 (by kernel_rfl) rfl #[.string a0] rfl (by (try simp only [List.map_toArray, List.map_cons, List.map_nil]); first | done | rfl | (simp only [List.length_drop, List.length_take]; rfl)) ?_; (with_reducible refine (remontoirref14_Parse.calls k a0 t192 t193 _ A6.out).mono ?_); rintro e w17 ⟨v194, rfl, ho0, hb⟩; refine ⟨_, rfl, ?_⟩; have n0_ := Aside0.mk (Kd.R_elder' (by (with_reducible repeat (first | apply Kd.R_alloc | apply Kd.R_drewN | apply Kd.R_drew)); exact HO191.out) (Kd.R_base ho0) hb); have n1_ := Aside0.mk (Kd.R_lower (Kd.R_new' ho0 (Kd.R_lt (by (with_reducible repeat (first | apply Kd.R_alloc | apply Kd.R_drewN | apply Kd.R_drew)); exact HO191.out))) (below_size (by repeat (first | (with_reducible first | exact HB.out | apply below_alloc | apply pw_below_drewN | apply below_drew1) | exact HB.out)))); have n2_ := Aside0.mk (below_step (by repeat (first | (with_reducible first | exact HB.out | apply below_alloc | apply pw_below_drewN | apply below_drew1) | exact HB.out)) hb); clear HO191; clear HB; have HO191 := n0_; have HO195 := n1_; have HB := n2_; clear n0_ n1_ n2_; (try clear hb); (try clear hb2); (try clear hk); (try clear hi); (try clear ho0); obtain ⟨Ao18, co18, eo18⟩ := Kd.R_slice HO191.out; subst eo18; obtain ⟨Ao19, co19, eo19⟩ := Kd.R_slice HO195.out; subst eo19) | (go_at_call 8; (with_reducible refine (remontoirkeep_Signs.calls k _ _ t188 _ _ t192 false _ ?side1 ?side2 ?side3 ?side4 A8.out).mono ?_); (case side1 => repeat (first | exact (Kd.R_reads' HO191.out).2.2 | (with_reducible refine Kd.C_alloc ?_ _) | (with_reducible refine Kd.C_drewN ?_ _) | (with_reducible refine Kd.C_drew ?_))); (case side2 => exact (Kd.R_reads' HO191.out).2.1); (case side3 => repeat (first | exact (Kd.R_reads' HO195.out).2.2 | (with_reducible refine Kd.C_alloc ?_ _) | (with_reducible refine Kd.C_drewN ?_ _) | (with_reducible refine Kd.C_drew ?_))); (case side4 => exact (Kd.R_reads' HO195.out).2.1); rintro e w' ⟨rfl, ⟨nd, rfl⟩⟩))
        go_ret
        exact ⟨by first | rfl | (simp [errW_none, errW_some] <;> rfl) | (simp [*, errW_none, errW_some] <;> rfl), by repeat (first | (with_reducible first | exact HB.out | apply below_alloc | apply pw_below_drewN | apply below_drew1) | exact HB.out)⟩
    · rw [if_neg c7] at H
      have c7b0 : (t189 == t193) = false := beq_eq_false_iff_ne.mpr c7
      have c7b1 : (t189 != t193) = true := bne_iff_ne.mpr c7
      obtain rfl := Option.some.inj H
      go_enter Tryz.func3, Tryz.ntmps3
      go_wp2_with (first | ((with_reducible refine gate_callee (f := 6) rfl ?_); refine goesL_ (some 13) rfl rfl Tryz.func6 (by kernel_rfl) rfl #[.string a0] rfl (by (try simp only [List.map_toArray, List.map_cons, List.map_nil]); first | done | rfl | (simp only [List.length_drop, List.length_take]; rfl)) ?_; (with_reducible refine (guard_Parse.calls k a0 t188 t189 _ (Tabs2.below hT (by repeat (first | (with_reducible first | exact HB.out | apply below_alloc | apply pw_below_drewN | apply below_drew1) | exact HB.out))) A5.out).mono ?_); rintro e w20 ⟨v190, rfl, ho0, hb⟩; refine ⟨_, rfl, ?_⟩; have n0_ := Aside0.mk (Kd.R_lower ho0 (below_size (by repeat (first | (with_reducible first | exact HB.out | apply below_alloc | apply pw_below_drewN | apply below_drew1) | exact HB.out)))); have n1_ := Aside0.mk (below_step (by repeat (first | (with_reducible first | exact HB.out | apply below_alloc | apply pw_below_drewN | apply below_drew1) | exact HB.out)) hb); clear HB; have HO191 := n0_; have HB := n1_; clear n0_ n1_; (try clear hb); (try clear hb2); (try clear hk); (try clear hi); (try clear ho0)) | ((with_reducible refine gate_callee (f := 7) rfl ?_); refine goesL_ (some 18) rfl rfl Tryz.func7 (by kernel_rfl) rfl #[.string a0] rfl (by (try simp only [List.map_toArray, List.map_cons, List.map_nil]); first | done | rfl | (simp only [List.length_drop, List.length_take]; rfl)) ?_; (with_reducible refine (remontoirref14_Parse.calls k a0 t192 t193 _ A6.out).mono ?_); rintro e w21 ⟨v194, rfl, ho0, hb⟩; refine ⟨_, rfl, ?_⟩; have n0_ := Aside0.mk (Kd.R_elder' (by (with_reducible repeat (first | apply Kd.R_alloc | apply Kd.R_drewN | apply Kd.R_drew)); exact HO191.out) (Kd.R_base ho0) hb); have n1_ := Aside0.mk (Kd.R_lower (Kd.R_new' ho0 (Kd.R_lt (by (with_reducible repeat (first | apply Kd.R_alloc | apply Kd.R_drewN | apply Kd.R_drew)); exact HO191.out))) (below_size (by repeat (first | (with_reducible first | exact HB.out | apply below_alloc | apply pw_below_drewN | apply below_drew1) | exact HB.out)))); have n2_ := Aside0.mk (below_step (by repeat (first | (with_reducible first | exact HB.out | apply below_alloc | apply pw_below_drewN | apply below_drew1) | exact HB.out)) hb); clear HO191; clear HB; have HO191 := n0_; have HO195 := n1_; have HB := n2_; clear n0_ n1_ n2_; (try clear hb); (try clear hb2); (try clear hk); (try clear hi); (try clear ho0)))
      go_ret
      exact ⟨by first | rfl | (simp [errW_none, errW_some] <;> rfl) | (simp [*, errW_none, errW_some] <;> rfl), by repeat (first | (with_reducible first | exact HB.out | apply below_alloc | apply pw_below_drewN | apply below_drew1) | exact HB.out)⟩

/-- THE ONE PURE STATEMENT of remontoirlaw14_GuardParses: yours. -/
def remontoirlaw14_GuardParses.Pure : Prop := ∀ (a0 : ByteArray), a0.size ≤ 140737488351232 → ∃ k, remontoirlaw14_GuardParses.f k a0 = some true
end Go.Proofs.YtikbgoppmailjaaGreatDoor.H
/- What guard.Parse says of a text. -/
namespace Go.Proofs.YtikbgoppmailjaaGreatDoor.Pure
open Go.RowKit Go.Proofs.YtikbgoppmailjaaGreatDoor.H Go.Proofs.YtikbgoppmailjaaGreatDoorW.PrintWords Go.Proofs.YtikbgoppmailjaaGreatDoorW.PrintLast Go.Proofs.YtikbgoppmailjaaGreatDoorW.PrintMore
set_option linter.unusedVariables false
set_option linter.unusedSimpArgs false
theorem gx_size {l : List UInt8} {o : List S39} (h : Gx l o) : o.length ≤ l.length := by
  obtain ⟨x, hx, k, hk⟩ := h
  obtain ⟨k2, r, h1, h2⟩ := PF_total _ x.length 0 (x, []) rfl (by omega) rfl trivial
  have e1 := PF_mono (Nat.le_max_left k k2) hk
  have e2 := PF_mono (Nat.le_max_right k k2) h1
  rw [e1] at e2
  obtain rfl := Option.some.inj e2
  have := (h2 _ rfl).2
  have hl := hx.len
  simp only [List.length_nil] at this
  omega
theorem parse_gx {s : ByteArray} {o : List S39} (hs : s.size ≤ 60) (h : Gx s.data.toList o) : ∃ K, ∀ k, K ≤ k → guard_Parse.f k s = some (o, 0) := by
  obtain ⟨x, hx, k, hk⟩ := h
  refine ⟨k, fun k' hk' => ?_⟩
  unfold guard_Parse.f
  rw [lex_list, if_neg (by omega)]
  have e : lexF s.data.toList [] = some (x, 0) := hx
  rw [e]
  simp only [Option.bind_some, if_true]
  rw [PF_mono hk' hk]
  rfl
/-- Signs that the reader gives up at, or of which some are left. -/
def Ungood (x : List S39) : Prop := ∃ k r, PF k 0 (x, []) = some r ∧ ∀ o, r ≠ some ([], o)
theorem parse_bad {s : ByteArray} {x : List S39} (hs : s.size ≤ 60) (hx : Lx s.data.toList x) (h : Ungood x) : ∃ K, ∀ k, K ≤ k → guard_Parse.f k s = some ([], 2) := by
  obtain ⟨k, r, hk, hr⟩ := h
  refine ⟨k, fun k' hk' => ?_⟩
  unfold guard_Parse.f
  rw [lex_list, if_neg (by omega)]
  have e : lexF s.data.toList [] = some (x, 0) := hx
  rw [e]
  simp only [Option.bind_some, if_true]
  rw [PF_mono hk' hk]
  cases r with
  | none => rfl
  | some st =>
    obtain ⟨l, o⟩ := st
    cases l with
    | nil => exact absurd rfl (hr o)
    | cons a l => rfl
/-- Of any text: a guard, and how it lies behind; or an error. -/
theorem parse_any (s : ByteArray) : (s.size ≤ 60 ∧ ∃ o, Gx s.data.toList o ∧ o.length ≤ 60 ∧ ∃ K, ∀ k, K ≤ k → guard_Parse.f k s = some (o, 0)) ∨ (∃ e : Int, e ≠ 0 ∧ ∃ K, ∀ k, K ≤ k → guard_Parse.f k s = some ([], e)) := by
  by_cases hs : s.size ≤ 60
  · obtain ⟨y, e, hl⟩ := lexF_some _ s.data.toList [] (Nat.le_refl _)
    by_cases he : e = 0
    · subst he
      obtain ⟨k, r, h1, h2⟩ := PF_total _ y.length 0 (y, []) rfl (by omega) rfl trivial
      by_cases hg : ∃ o, r = some ([], o)
      · obtain ⟨o, rfl⟩ := hg
        have hgx : Gx s.data.toList o := ⟨y, hl, k, h1⟩
        have hlen := gx_size hgx
        have hdl : s.data.toList.length = s.size := by rw [Array.length_toList]; rfl
        exact .inl ⟨hs, o, hgx, by omega, parse_gx hs hgx⟩
      · exact .inr ⟨2, by decide, parse_bad hs hl ⟨k, r, h1, fun o q => hg ⟨o, q⟩⟩⟩
    · refine .inr ⟨e, he, 0, fun k _ => ?_⟩
      unfold guard_Parse.f
      rw [lex_list, if_neg (by omega), hl]
      simp only [Option.bind_some]
      rw [if_neg he]
  · refine .inr ⟨15, by decide, 0, fun k _ => ?_⟩
    unfold guard_Parse.f
    rw [lex_list, if_pos (by omega)]
    rfl
end Go.Proofs.YtikbgoppmailjaaGreatDoor.Pure
/- Two rows of signs that are one; the loop's fuel. -/
namespace Go.Proofs.YtikbgoppmailjaaGreatDoor.Pure
open Go.RowKit Go.Proofs.YtikbgoppmailjaaGreatDoor.H Go.Proofs.YtikbgoppmailjaaGreatDoorW.PrintWords Go.Proofs.YtikbgoppmailjaaGreatDoorW.PrintLast
set_option linter.unusedVariables false
set_option linter.unusedSimpArgs false
theorem signs_loop (l : List S39) (hl : l.length ≤ 4611686018427387904) : ∀ (d k : Nat) (i : Nat), i + d = l.length → d < k → remontoirkeep_Signs.l0 k l l (i : Int) = some true := by
  intro d
  induction d with
  | zero =>
    intro k i h hk
    obtain ⟨k, rfl⟩ : ∃ m, k = m + 1 := ⟨k - 1, by omega⟩
    simp only [remontoirkeep_Signs.l0]
    rw [if_neg (by omega)]
  | succ d ih =>
    intro k i h hk
    obtain ⟨k, rfl⟩ : ∃ m, k = m + 1 := ⟨k - 1, by omega⟩
    simp only [remontoirkeep_Signs.l0]
    rw [if_pos (by omega), if_pos (by omega), if_pos (by omega), if_neg (by simp)]
    have e : wrap64 ((i : Int) + 1) = ((i + 1 : Nat) : Int) := by unfold wrap64; omega
    rw [e]
    exact ih k (i + 1) (by omega) (by omega)
theorem signs_same (l : List S39) (hl : l.length ≤ 4611686018427387904) (k : Nat) (hk : l.length < k) : remontoirkeep_Signs.f k l l = some true := by
  unfold remontoirkeep_Signs.f
  rw [if_pos rfl]
  exact signs_loop l hl l.length k 0 (by omega) hk
end Go.Proofs.YtikbgoppmailjaaGreatDoor.Pure
/- The examples of chapter 14. -/
namespace Go.Proofs.YtikbgoppmailjaaGreatDoor.Pure
open Go.RowKit Go.Proofs.YtikbgoppmailjaaGreatDoor.H Go.Proofs.YtikbgoppmailjaaGreatDoorW.PrintWords Go.Proofs.YtikbgoppmailjaaGreatDoorW.PrintLast
theorem wakes14_50 : remontoirlaw14_wakes.f 50 = some true := by kernel_rfl
theorem wakes14 (k : Nat) (hk : 50 ≤ k) : remontoirlaw14_wakes.f k = some true := at_rounds (remontoirlaw14_wakes.mono) hk wakes14_50
end Go.Proofs.YtikbgoppmailjaaGreatDoor.Pure
/- GuardParses: of every text of at most 300 bytes, guard.Parse and the document's reader answer alike. -/
namespace Go.Proofs.YtikbgoppmailjaaGreatDoor.Pure
open Go.RowKit Go.Proofs.YtikbgoppmailjaaGreatDoor.H Go.Proofs.YtikbgoppmailjaaGreatDoorW.PrintWords Go.Proofs.YtikbgoppmailjaaGreatDoorW.PrintLast Go.Proofs.YtikbgoppmailjaaGreatDoorW.PrintMore
set_option linter.unusedVariables false
set_option linter.unusedSimpArgs false
theorem GuardParses : remontoirlaw14_GuardParses.Pure := by
  intro s hs
  by_cases hbig : (s.size : Int) > 300
  · refine ⟨50, ?_⟩
    unfold remontoirlaw14_GuardParses.f
    rw [if_pos hbig, wakes14 50 (Nat.le_refl _)]
    rfl
  obtain ⟨l, e, hl, K, hK⟩ : ∃ (l : List S39) (e : Int), l.length ≤ 60 ∧ ∃ K, ∀ k, K ≤ k → guard_Parse.f k s = some (l, e) := by
    rcases parse_any s with ⟨_, o, _, hl, K, hK⟩ | ⟨e, _, K, hK⟩
    · exact ⟨o, 0, hl, K, hK⟩
    · exact ⟨[], e, by simp, K, hK⟩
  obtain ⟨Q, hQ1, hQ2⟩ : ∃ Q, K ≤ Q ∧ 100 ≤ Q := ⟨K + 100, by omega, by omega⟩
  refine ⟨Q, ?_⟩
  unfold remontoirlaw14_GuardParses.f remontoirref14_Parse.f
  rw [if_neg hbig, hK Q hQ1]
  simp only [Option.bind_some, if_true]
  rw [signs_same l (by omega) Q (by omega)]
  simp only [Option.bind_some, if_true]
  rw [wakes14 Q (by omega)]
  rfl
end Go.Proofs.YtikbgoppmailjaaGreatDoor.Pure
/- What the laid variables of a Guard row give: the power table and guard's own error. -/
namespace Go.Proofs.YtikbgoppmailjaaGreatDoor.H
open Go.RowKit
theorem star_eq : "*" ++ "errors.errorString" = "*errors.errorString" := by decide
theorem tabs2_of {W : World} (h : laidMetH Tryz.prog Rows.guardParsesRow.laid W) : Tabs2 W := by
  rw [MakeChecks.laidMetH_plain _ _ _ (by kernel_rfl)] at h
  have h1 : laidMet Tryz.prog ((_, Lib.tabData .u64 Lib.pow10Tab) :: _) W := laidMet.tail (laidMet.tail h)
  have h2 : laidMet Tryz.prog (("remontoir/guard.wrong", .iface "*errors.errorString" (.ptr (.agg [.lit (.string _)]))) :: _) W := laidMet.tail (laidMet.tail (laidMet.tail (laidMet.tail (laidMet.tail (laidMet.tail h)))))
  have ht : Tabs W := ⟨Lib.tabIs_of_head tabs_glob (by kernel_rfl) (n := 20) (t := 163) (e := 102) (by kernel_rfl) (by kernel_rfl) (by kernel_rfl) (by kernel_rfl) h1⟩
  obtain ⟨a, s, hv, _⟩ := laid_sentinel (g := 0) (ti := 44) (tp := 155) (te := 157) (ts := 9) h2 (by kernel_rfl) (by kernel_rfl) Tryz.underlying44 (by
    intro u hu
    exact typeName_ptr_named (nm := "errors.errorString") (by rw [star_eq]; kernel_rfl) (by kernel_rfl) (by decide) u (by rw [star_eq]; exact hu)) Tryz.underlying155 Tryz.underlying157 rfl rfl (by kernel_rfl) (by kernel_rfl) (by kernel_rfl)
  exact ⟨ht, _, _, World.var?_cell (by kernel_rfl) hv 0⟩
end Go.Proofs.YtikbgoppmailjaaGreatDoor.H
