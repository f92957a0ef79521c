/- Parts of the proof of LawGuardBack: words, contracts of the functions, plain laws. -/
import Derived.Test.YtikbgoppmailjaaDoorBA02
import Derived.Test.YtikbgoppmailjaaDoorBA06
import Derived.Test.YtikbgoppmailjaaDoorBA03
import Derived.Test.YtikbgoppmailjaaDoorBA05
import Derived.Test.YtikbgoppmailjaaDoorBA04
import Derived.KernelRfl
import Derived.Test.YtikbgoppmailjaaDoorRows
import Derived.LaidMore
import Derived.Lay
import Derived.Stop.LaidErr
import Derived.Stop.Joined
import Derived.MakeChecks
import Derived.Lib.LaidTab
-- Written by hp.py (a program of this session, over the kit's print.py), with hand-made contracts beside it.
namespace Go.Proofs.YtikbgoppmailjaaDoor.H
open Go.RowKit Go.Proofs.YtikbgoppmailjaaDoorW.PrintWords Go.Proofs.YtikbgoppmailjaaDoorW.PrintLast Go.Proofs.YtikbgoppmailjaaDoorW.PrintMore
attribute [local go_sem] max2_int min2_int max_two min_two max_three min_three max_four min_four   -- for this text's walks alone
set_option linter.unusedVariables false
set_option linter.unusedSimpArgs false

/-! ### remontoirlaw14_GuardBack: function 3 -/
mutual
def remontoirlaw14_GuardBack.j0 : Nat → List (S33) → ByteArray → Bool → Option (Bool)
  | 0, _, _, _ => none
  | k + 1, x0, x1, x22 => if x22 = true then ((remontoirlaw14_wakes.f k).bind fun t171 => (some t171)) else ((guard_Print.f k x0).bind fun bt172 => (if bt172.2 = true then (remontoirlaw14_GuardBack.j1 k x0 x1 bt172.1 (decide ((bt172.1.size : Int) ≤ 60))) else (remontoirlaw14_GuardBack.j1 k x0 x1 bt172.1 false)))
def remontoirlaw14_GuardBack.j1 : Nat → List (S33) → ByteArray → ByteArray → Bool → Option (Bool)
  | 0, _, _, _, _ => none
  | k + 1, x0, x1, x5, x34 => if x34 = true then ((guard_Parse.f k x5).bind fun bt174 => (if bt174.2 = 0 then ((remontoirkeep_Signs.f k bt174.1 x0).bind fun t178 => (if t178 = true then ((guard_Good.f k x0).bind fun t179 => (if t179 = true then (remontoirlaw14_GuardBack.j2 k x1) else (some false))) else (some false))) else (some false))) else (remontoirlaw14_GuardBack.j2 k x1)
def remontoirlaw14_GuardBack.j2 : Nat → ByteArray → Option (Bool)
  | 0, _ => none
  | k + 1, x1 => (guard_Parse.f k x1).bind fun bt180 => (if bt180.2 = 0 then ((guard_Print.f k bt180.1).bind fun bt184 => (if bt184.2 = true then ((guard_Good.f k bt180.1).bind fun t186 => (remontoirlaw14_GuardBack.j3 k bt180.1 bt184.1 (!t186))) else (remontoirlaw14_GuardBack.j3 k bt180.1 bt184.1 true))) else ((remontoirlaw14_wakes.f k).bind fun t195 => (some t195)))
def remontoirlaw14_GuardBack.j3 : Nat → List (S33) → ByteArray → Bool → Option (Bool)
  | 0, _, _, _ => none
  | k + 1, x9, x11, x71 => if x71 = true then (some false) else ((guard_Parse.f k x11).bind fun bt187 => (if bt187.2 = 0 then ((remontoirkeep_Signs.f k x9 bt187.1).bind fun t191 => (if t191 = true then ((remontoirlaw14_wakes.f k).bind fun t192 => (some t192)) else (if bt187.2 = 15 then (if (x11.size : Int) > 60 then ((remontoirlaw14_wakes.f k).bind fun t193 => (some t193)) else (some false)) else (some false)))) else (if bt187.2 = 15 then (if (x11.size : Int) > 60 then ((remontoirlaw14_wakes.f k).bind fun t194 => (some t194)) else (some false)) else (some false))))
end
def remontoirlaw14_GuardBack.f (k : Nat) (l0 : List (S33)) (a1 : ByteArray) : Option (Bool) := if (a1.size : Int) > 300 then (remontoirlaw14_GuardBack.j0 k l0 a1 true) else (remontoirlaw14_GuardBack.j0 k l0 a1 (decide ((l0.length : Int) > 60)))
theorem remontoirlaw14_GuardBack.mono_l : ∀ k, (∀ y0 y1 y2, LeO (remontoirlaw14_GuardBack.j0 k y0 y1 y2) (remontoirlaw14_GuardBack.j0 (k + 1) y0 y1 y2)) ∧ (∀ y0 y1 y2 y3, LeO (remontoirlaw14_GuardBack.j1 k y0 y1 y2 y3) (remontoirlaw14_GuardBack.j1 (k + 1) y0 y1 y2 y3)) ∧ (∀ y0, LeO (remontoirlaw14_GuardBack.j2 k y0) (remontoirlaw14_GuardBack.j2 (k + 1) y0)) ∧ (∀ y0 y1 y2, LeO (remontoirlaw14_GuardBack.j3 k y0 y1 y2) (remontoirlaw14_GuardBack.j3 (k + 1) y0 y1 y2))
  | 0 => ⟨fun _ _ _ r h => by simp [remontoirlaw14_GuardBack.j0] at h, fun _ _ _ _ r h => by simp [remontoirlaw14_GuardBack.j1] at h, fun _ r h => by simp [remontoirlaw14_GuardBack.j2] at h, fun _ _ _ r h => by simp [remontoirlaw14_GuardBack.j3] at h⟩
  | k + 1 => by
    obtain ⟨ih0, ih1, ih2, ih3⟩ := remontoirlaw14_GuardBack.mono_l k
    refine ⟨?_, ?_, ?_, ?_⟩
    · intro y0 y1 y2
      unfold remontoirlaw14_GuardBack.j0
      repeat' first
      | (with_reducible exact ih0 _ _ _)
      | (with_reducible exact ih1 _ _ _ _)
      | (with_reducible exact ih2 _)
      | (with_reducible exact ih3 _ _ _)
      | (with_reducible exact guard_Good.mono _ _)
      | (with_reducible exact guard_Parse.mono _ _)
      | (with_reducible exact guard_Print.mono _ _)
      | (with_reducible exact remontoirkeep_Signs.mono _ _ _)
      | (with_reducible exact remontoirlaw14_wakes.mono _)
      | (with_reducible exact LeO.refl _)
      | (with_reducible exact LeO.none _)
      | (with_reducible refine LeO.ite ?_ ?_)
      | (with_reducible refine LeO.bind ?_ (fun _ => ?_))
      | exact ih0 _ _ _
      | exact ih1 _ _ _ _
      | exact ih2 _
      | exact ih3 _ _ _
      | exact guard_Good.mono _ _
      | exact guard_Parse.mono _ _
      | exact guard_Print.mono _ _
      | exact remontoirkeep_Signs.mono _ _ _
      | exact remontoirlaw14_wakes.mono _
      | exact LeO.none _
      | refine LeO.ite ?_ ?_
      | refine LeO.bind ?_ (fun _ => ?_)
    · intro y0 y1 y2 y3
      unfold remontoirlaw14_GuardBack.j1
      repeat' first
      | (with_reducible exact ih0 _ _ _)
      | (with_reducible exact ih1 _ _ _ _)
      | (with_reducible exact ih2 _)
      | (with_reducible exact ih3 _ _ _)
      | (with_reducible exact guard_Good.mono _ _)
      | (with_reducible exact guard_Parse.mono _ _)
      | (with_reducible exact guard_Print.mono _ _)
      | (with_reducible exact remontoirkeep_Signs.mono _ _ _)
      | (with_reducible exact remontoirlaw14_wakes.mono _)
      | (with_reducible exact LeO.refl _)
      | (with_reducible exact LeO.none _)
      | (with_reducible refine LeO.ite ?_ ?_)
      | (with_reducible refine LeO.bind ?_ (fun _ => ?_))
      | exact ih0 _ _ _
      | exact ih1 _ _ _ _
      | exact ih2 _
      | exact ih3 _ _ _
      | exact guard_Good.mono _ _
      | exact guard_Parse.mono _ _
      | exact guard_Print.mono _ _
      | exact remontoirkeep_Signs.mono _ _ _
      | exact remontoirlaw14_wakes.mono _
      | exact LeO.none _
      | refine LeO.ite ?_ ?_
      | refine LeO.bind ?_ (fun _ => ?_)
    · intro y0
      unfold remontoirlaw14_GuardBack.j2
      repeat' first
      | (with_reducible exact ih0 _ _ _)
      | (with_reducible exact ih1 _ _ _ _)
      | (with_reducible exact ih2 _)
      | (with_reducible exact ih3 _ _ _)
      | (with_reducible exact guard_Good.mono _ _)
      | (with_reducible exact guard_Parse.mono _ _)
      | (with_reducible exact guard_Print.mono _ _)
      | (with_reducible exact remontoirkeep_Signs.mono _ _ _)
      | (with_reducible exact remontoirlaw14_wakes.mono _)
      | (with_reducible exact LeO.refl _)
      | (with_reducible exact LeO.none _)
      | (with_reducible refine LeO.ite ?_ ?_)
      | (with_reducible refine LeO.bind ?_ (fun _ => ?_))
      | exact ih0 _ _ _
      | exact ih1 _ _ _ _
      | exact ih2 _
      | exact ih3 _ _ _
      | exact guard_Good.mono _ _
      | exact guard_Parse.mono _ _
      | exact guard_Print.mono _ _
      | exact remontoirkeep_Signs.mono _ _ _
      | exact remontoirlaw14_wakes.mono _
      | exact LeO.none _
      | refine LeO.ite ?_ ?_
      | refine LeO.bind ?_ (fun _ => ?_)
    · intro y0 y1 y2
      unfold remontoirlaw14_GuardBack.j3
      repeat' first
      | (with_reducible exact ih0 _ _ _)
      | (with_reducible exact ih1 _ _ _ _)
      | (with_reducible exact ih2 _)
      | (with_reducible exact ih3 _ _ _)
      | (with_reducible exact guard_Good.mono _ _)
      | (with_reducible exact guard_Parse.mono _ _)
      | (with_reducible exact guard_Print.mono _ _)
      | (with_reducible exact remontoirkeep_Signs.mono _ _ _)
      | (with_reducible exact remontoirlaw14_wakes.mono _)
      | (with_reducible exact LeO.refl _)
      | (with_reducible exact LeO.none _)
      | (with_reducible refine LeO.ite ?_ ?_)
      | (with_reducible refine LeO.bind ?_ (fun _ => ?_))
      | exact ih0 _ _ _
      | exact ih1 _ _ _ _
      | exact ih2 _
      | exact ih3 _ _ _
      | exact guard_Good.mono _ _
      | exact guard_Parse.mono _ _
      | exact guard_Print.mono _ _
      | exact remontoirkeep_Signs.mono _ _ _
      | exact remontoirlaw14_wakes.mono _
      | exact LeO.none _
      | refine LeO.ite ?_ ?_
      | refine LeO.bind ?_ (fun _ => ?_)
theorem remontoirlaw14_GuardBack.mono : ∀ a0 a1 k, LeO (remontoirlaw14_GuardBack.f k a0 a1) (remontoirlaw14_GuardBack.f (k + 1) a0 a1) := by
  intro a0 a1 k
  obtain ⟨ih0, ih1, ih2, ih3⟩ := remontoirlaw14_GuardBack.mono_l k
  unfold remontoirlaw14_GuardBack.f
  repeat' first
      | (with_reducible exact ih0 _ _ _)
      | (with_reducible exact ih1 _ _ _ _)
      | (with_reducible exact ih2 _)
      | (with_reducible exact ih3 _ _ _)
      | (with_reducible exact guard_Good.mono _ _)
      | (with_reducible exact guard_Parse.mono _ _)
      | (with_reducible exact guard_Print.mono _ _)
      | (with_reducible exact remontoirkeep_Signs.mono _ _ _)
      | (with_reducible exact remontoirlaw14_wakes.mono _)
      | (with_reducible exact LeO.refl _)
      | (with_reducible exact LeO.none _)
      | (with_reducible refine LeO.ite ?_ ?_)
      | (with_reducible refine LeO.bind ?_ (fun _ => ?_))
      | exact ih0 _ _ _
      | exact ih1 _ _ _ _
      | exact ih2 _
      | exact ih3 _ _ _
      | exact guard_Good.mono _ _
      | exact guard_Parse.mono _ _
      | exact guard_Print.mono _ _
      | exact remontoirkeep_Signs.mono _ _ _
      | exact remontoirlaw14_wakes.mono _
      | exact LeO.none _
      | refine LeO.ite ?_ ?_
      | refine LeO.bind ?_ (fun _ => ?_)
set_option maxHeartbeats 8000000 in
set_option maxRecDepth 100000 in
theorem remontoirlaw14_GuardBack.calls (k : Nat) (A0 : Option Addr) (c0 : Nat) (l0 : List (S33)) (a1 : ByteArray) (r : Bool) (w : World) (hr0 : Kd.C k33 w A0 l0.length l0) (hc0 : l0.length ≤ c0) (hT : Tabs2 w) (h : remontoirlaw14_GuardBack.f k l0 a1 = some r) :
    Calls Tryd.prog 3 #[.slice A0 l0.length c0, .string a1] w fun e w' => e = .returned (.bool r) ∧ Below w.heap.size w w' := by
  have HR0 := Aside0.mk hr0
  have HC0 := Aside0.mk hc0
  clear hr0 hc0
  have HB := Aside0.mk (Below.refl w.heap.size w)
  have H : (if (a1.size : Int) > 300 then (remontoirlaw14_GuardBack.j0 k l0 a1 true) else (remontoirlaw14_GuardBack.j0 k l0 a1 (decide ((l0.length : Int) > 60)))) = some r := h
  clear h
  have HC3 := Aside0.mk H
  clear H
  go_enter Tryd.func3, Tryd.ntmps3
  go_upto_region 1 with (fail)
  go_cut [22] (fun v22 wc => ∃ (kq : Nat) (x22_2 : Bool), v22 = .bool x22_2 ∧ Aside0 (remontoirlaw14_GuardBack.j0 kq l0 a1 x22_2 = some r) ∧ Aside0 (kq ≤ k) ∧ Aside0 (Below w.heap.size w wc))
  case first =>
    have H := HC3.out
    clear HC3
    by_cases c4 : (a1.size : Int) > 300
    · rw [if_pos c4] at H
      have c4b0 : decide (300 < (a1.size : Int)) = true := decide_eq_true c4
      have c4b1 : decide (300 < a1.size) = true := decide_eq_true (by omega)
      clear c4
      (first | rw [c4b0] | (simp only [i64_w, i32_w]; rw [c4b0]) | skip)
      have H' := Aside0.mk H
      clear H
      go_wp2
      go_meet
      case rel => exact ⟨_, (true), (by first | rfl | (simp; done) | (simp [*]; done)), H', ⟨by first | omega | exact Nat.le_refl _⟩, ⟨by repeat (first | (with_reducible first | exact HB.out | apply below_alloc | apply pw_below_drewN | apply below_drew1) | exact HB.out)⟩⟩
    · rw [if_neg c4] at H
      have c4b0 : decide (300 < (a1.size : Int)) = false := decide_eq_false c4
      have c4b1 : decide (300 < a1.size) = false := decide_eq_false (by omega)
      clear c4
      (first | rw [c4b0] | (simp only [i64_w, i32_w]; rw [c4b0]) | skip)
      have H' := Aside0.mk H
      clear H
      go_wp2
      go_meet
      case rel => exact ⟨_, (decide ((l0.length : Int) > 60)), (by first | rfl | (simp; done) | (simp [*]; done)), H', ⟨by first | omega | exact Nat.le_refl _⟩, ⟨by repeat (first | (with_reducible first | exact HB.out | apply below_alloc | apply pw_below_drewN | apply below_drew1) | exact HB.out)⟩⟩
  case rest =>
    clear HC3
    try clear p2
    try clear c3
    try clear c4
    try clear c4b0
    try clear c4b1
    obtain ⟨kq, x22_2, rfl, HA, HJ2, HB⟩ := hcut
    cases kq with
    | zero => exact absurd HA.out (by simp [remontoirlaw14_GuardBack.j0])
    | succ kj2 =>
      have H := HA.out
      clear HA
      simp only [remontoirlaw14_GuardBack.j0] at H
      by_cases c5 : x22_2 = true
      · subst c5
        have H1 : ((remontoirlaw14_wakes.f kj2).bind fun t171 => (some t171)) = some r := by rw [if_pos rfl] at H; exact H
        clear H
        have H := H1
        clear H1
        replace H := Option.bind_eq_some_iff.mp H
        obtain ⟨t171, A60, H⟩ := H
        replace H : (some t171) = some r := H
        have A6 := Aside0.mk A60
        clear A60
        obtain rfl := Option.some.inj H
        go_wp2_with (first | ((with_reducible refine gate_callee (f := 7) rfl ?_); refine goesL_ (some 23) rfl rfl Tryd.func7 (by kernel_rfl) rfl #[] rfl (by (try simp only [List.map_toArray, List.map_cons, List.map_nil]); first | done | rfl | (simp only [List.length_drop, List.length_take]; rfl)) ?_; (with_reducible refine (remontoirlaw14_wakes.calls kj2  t171 _ (Tabs2.below hT (by repeat (first | (with_reducible first | exact HB.out | apply below_alloc | apply pw_below_drewN | apply below_drew1) | exact HB.out))) A6.out).mono ?_); rintro e w7 ⟨rfl, hb⟩; refine ⟨_, rfl, ?_⟩; have n0_ := Aside0.mk (below_step (by repeat (first | (with_reducible first | exact HB.out | apply below_alloc | apply pw_below_drewN | apply below_drew1) | exact HB.out)) hb); clear HB; have HB := n0_; clear n0_; (try clear hb); (try clear hb2); (try clear hk); (try clear hi)))
        go_ret
        exact ⟨by first | rfl | (simp [errW_none, errW_some] <;> rfl) | (simp [*, errW_none, errW_some] <;> rfl), by repeat (first | (with_reducible first | exact HB.out | apply below_alloc | apply pw_below_drewN | apply below_drew1) | exact HB.out)⟩
      · replace c5 := Bool.eq_false_iff.mpr c5
        subst c5
        have H1 : ((guard_Print.f kj2 l0).bind fun bt172 => (if bt172.2 = true then (remontoirlaw14_GuardBack.j1 kj2 l0 a1 bt172.1 (decide ((bt172.1.size : Int) ≤ 60))) else (remontoirlaw14_GuardBack.j1 kj2 l0 a1 bt172.1 false))) = some r := by rw [if_neg (show ¬ (false = true) by decide)] at H; exact H
        clear H
        have H := H1
        clear H1
        replace H := Option.bind_eq_some_iff.mp H
        obtain ⟨⟨t172, t173⟩, A80, H⟩ := H
        replace H : (if t173 = true then (remontoirlaw14_GuardBack.j1 kj2 l0 a1 t172 (decide ((t172.size : Int) ≤ 60))) else (remontoirlaw14_GuardBack.j1 kj2 l0 a1 t172 false)) = some r := H
        have A8 := Aside0.mk A80
        clear A80
        have HC9 := Aside0.mk H
        clear H
        go_upto_region 4 with (first | ((with_reducible refine gate_callee (f := 8) rfl ?_); refine goesL_ (some 26) rfl rfl Tryd.func8 (by kernel_rfl) rfl #[.slice A0 l0.length c0] rfl (by (try simp only [List.map_toArray, List.map_cons, List.map_nil]); first | done | rfl | (simp only [List.length_drop, List.length_take]; rfl)) ?_; (with_reducible refine (guard_Print.calls kj2 _ _ l0 t172 t173 _ ?side1 ?side2 (Tabs.below hT.toTabs (by repeat (first | (with_reducible first | exact HB.out | apply below_alloc | apply pw_below_drewN | apply below_drew1) | exact HB.out))) A8.out).mono ?_); (case side1 => repeat (first | exact (Kd.C_below HR0.out HB.out) | (with_reducible refine Kd.C_alloc ?_ _) | (with_reducible refine Kd.C_drewN ?_ _) | (with_reducible refine Kd.C_drew ?_))); (case side2 => exact HC0.out); rintro e w10 ⟨rfl, hb⟩; refine ⟨_, rfl, ?_⟩; have n0_ := Aside0.mk (below_step (by repeat (first | (with_reducible first | exact HB.out | apply below_alloc | apply pw_below_drewN | apply below_drew1) | exact HB.out)) hb); clear HB; have HB := n0_; clear n0_; (try clear hb); (try clear hb2); (try clear hk); (try clear hi)))
        (try simp only [Act.put, List.setIfInBounds_toArray, List.set_cons_zero, List.set_cons_succ])
        go_cut [34] (fun v34 wc => ∃ (kq : Nat) (x34_8 : Bool), v34 = .bool x34_8 ∧ Aside0 (remontoirlaw14_GuardBack.j1 kq l0 a1 t172 x34_8 = some r) ∧ Aside0 (kq ≤ kj2) ∧ Aside0 (Below w.heap.size w wc))
        case first =>
          have H := HC9.out
          clear HC9
          by_cases c11 : t173 = true
          · subst c11
            have H1 : (remontoirlaw14_GuardBack.j1 kj2 l0 a1 t172 (decide ((t172.size : Int) ≤ 60))) = some r := by rw [if_pos rfl] at H; exact H
            clear H
            have H := H1
            clear H1
            have H' := Aside0.mk H
            clear H
            go_wp2
            go_meet
            case rel => exact ⟨_, (decide ((t172.size : Int) ≤ 60)), (by first | rfl | (simp; done) | (simp [*]; done)), H', ⟨by have := HJ2.out; first | omega | exact Nat.le_refl _⟩, ⟨by repeat (first | (with_reducible first | exact HB.out | apply below_alloc | apply pw_below_drewN | apply below_drew1) | exact HB.out)⟩⟩
          · replace c11 := Bool.eq_false_iff.mpr c11
            subst c11
            have H1 : (remontoirlaw14_GuardBack.j1 kj2 l0 a1 t172 false) = some r := by rw [if_neg (show ¬ (false = true) by decide)] at H; exact H
            clear H
            have H := H1
            clear H1
            have H' := Aside0.mk H
            clear H
            go_wp2
            go_meet
            case rel => exact ⟨_, (false), (by first | rfl | (simp; done) | (simp [*]; done)), H', ⟨by have := HJ2.out; first | omega | exact Nat.le_refl _⟩, ⟨by repeat (first | (with_reducible first | exact HB.out | apply below_alloc | apply pw_below_drewN | apply below_drew1) | exact HB.out)⟩⟩
        case rest =>
          clear HC9
          try clear c1
          try clear p2
          try clear c3
          try clear c4
          try clear c4b0
          try clear c4b1
          try clear c5
          try clear c7
          try clear c8
          try clear c11
          try clear p2
          obtain ⟨kq, x34_8, rfl, HA, HJ8, HB⟩ := hcut
          cases kq with
          | zero => exact absurd HA.out (by simp [remontoirlaw14_GuardBack.j1])
          | succ kj8 =>
            have H := HA.out
            clear HA
            simp only [remontoirlaw14_GuardBack.j1] at H
            have HC12 := Aside0.mk H
            clear H
            go_upto_if 34 with (fail)
            go_cut [] (fun wc => ∃ (kq : Nat), Aside0 (remontoirlaw14_GuardBack.j2 kq a1 = some r) ∧ Aside0 (kq ≤ kj8) ∧ Aside0 (Below w.heap.size w wc))
            case first =>
              have H := HC12.out
              clear HC12
              by_cases c13 : x34_8 = true
              · subst c13
                have H1 : ((guard_Parse.f kj8 t172).bind fun bt174 => (if bt174.2 = 0 then ((remontoirkeep_Signs.f kj8 bt174.1 l0).bind fun t178 => (if t178 = true then ((guard_Good.f kj8 l0).bind fun t179 => (if t179 = true then (remontoirlaw14_GuardBack.j2 kj8 a1) else (some false))) else (some false))) else (some false))) = some r := by rw [if_pos rfl] at H; exact H
                clear H
                have H := H1
                clear H1
                replace H := Option.bind_eq_some_iff.mp H
                obtain ⟨⟨t174, t175⟩, A140, H⟩ := H
                replace H : (if t175 = 0 then ((remontoirkeep_Signs.f kj8 t174 l0).bind fun t178 => (if t178 = true then ((guard_Good.f kj8 l0).bind fun t179 => (if t179 = true then (remontoirlaw14_GuardBack.j2 kj8 a1) else (some false))) else (some false))) else (some false)) = some r := H
                have A14 := Aside0.mk A140
                clear A140
                by_cases c15 : t175 = 0
                · rw [if_pos c15] at H
                  have c15b0 : (t175 == 0) = true := beq_iff_eq.mpr c15
                  have c15b1 : (t175 != 0) = false := bne_eq_false_iff_eq.mpr c15
                  clear c15
                  (first | rw [c15b0] | (simp only [i64_w, i32_w]; rw [c15b0]) | skip)
                  replace H := Option.bind_eq_some_iff.mp H
                  obtain ⟨t178, A160, H⟩ := H
                  replace H : (if t178 = true then ((guard_Good.f kj8 l0).bind fun t179 => (if t179 = true then (remontoirlaw14_GuardBack.j2 kj8 a1) else (some false))) else (some false)) = some r := H
                  have A16 := Aside0.mk A160
                  clear A160
                  by_cases c17 : t178 = true
                  · subst c17
                    have H1 : ((guard_Good.f kj8 l0).bind fun t179 => (if t179 = true then (remontoirlaw14_GuardBack.j2 kj8 a1) else (some false))) = some r := by rw [if_pos rfl] at H; exact H
                    clear H
                    have H := H1
                    clear H1
                    replace H := Option.bind_eq_some_iff.mp H
                    obtain ⟨t179, A180, H⟩ := H
                    replace H : (if t179 = true then (remontoirlaw14_GuardBack.j2 kj8 a1) else (some false)) = some r := H
                    have A18 := Aside0.mk A180
                    clear A180
                    by_cases c19 : t179 = true
                    · subst c19
                      have H1 : (remontoirlaw14_GuardBack.j2 kj8 a1) = some r := by rw [if_pos rfl] at H; exact H
                      clear H
                      have H := H1
                      clear H1
                      have H' := Aside0.mk H
                      clear H
                      go_wp2_with (first | ((with_reducible refine gate_callee (f := 9) rfl ?_); refine goesL_ (some 37) rfl rfl Tryd.func9 (by kernel_rfl) rfl #[.string t172] rfl (by (try simp only [List.map_toArray, List.map_cons, List.map_nil]); first | done | rfl | (simp only [List.length_drop, List.length_take]; rfl)) ?_; (with_reducible refine (guard_Parse.calls kj8 t172 t174 t175 _ (Tabs2.below hT (by repeat (first | (with_reducible first | exact HB.out | apply below_alloc | apply pw_below_drewN | apply below_drew1) | exact HB.out))) A14.out).mono ?_); rintro e w20 ⟨v176, rfl, ho0, hb⟩; refine ⟨_, rfl, ?_⟩; have n0_ := Aside0.mk (Kd.R_lower ho0 (below_size (by repeat (first | (with_reducible first | exact HB.out | apply below_alloc | apply pw_below_drewN | apply below_drew1) | exact HB.out)))); have n1_ := Aside0.mk (below_step (by repeat (first | (with_reducible first | exact HB.out | apply below_alloc | apply pw_below_drewN | apply below_drew1) | exact HB.out)) hb); clear HB; have HO177 := n0_; have HB := n1_; clear n0_ n1_; (try clear hb); (try clear hb2); (try clear hk); (try clear hi); (try clear ho0); obtain ⟨Ao21, co21, eo21⟩ := Kd.R_slice HO177.out; subst eo21) | (go_at_call 10; (with_reducible refine (remontoirkeep_Signs.calls kj8 _ _ t174 _ _ l0 true _ ?side1 ?side2 ?side3 ?side4 A16.out).mono ?_); (case side1 => repeat (first | exact (Kd.R_reads' HO177.out).2.2 | (with_reducible refine Kd.C_alloc ?_ _) | (with_reducible refine Kd.C_drewN ?_ _) | (with_reducible refine Kd.C_drew ?_))); (case side2 => exact (Kd.R_reads' HO177.out).2.1); (case side3 => repeat (first | exact (Kd.C_below HR0.out HB.out) | (with_reducible refine Kd.C_alloc ?_ _) | (with_reducible refine Kd.C_drewN ?_ _) | (with_reducible refine Kd.C_drew ?_))); (case side4 => exact HC0.out); rintro e w' ⟨rfl, ⟨nd, rfl⟩⟩) | (go_at_call 11; (with_reducible refine (guard_Good.calls kj8 _ _ l0 true _ ?side1 ?side2 A18.out).mono ?_); (case side1 => repeat (first | exact (Kd.C_below HR0.out (by repeat (first | (with_reducible first | exact HB.out | apply below_alloc | apply pw_below_drewN | apply below_drew1) | exact HB.out))) | (with_reducible refine Kd.C_alloc ?_ _) | (with_reducible refine Kd.C_drewN ?_ _) | (with_reducible refine Kd.C_drew ?_))); (case side2 => exact HC0.out); rintro e w22 ⟨rfl, hb⟩; have n0_ := Aside0.mk (Kd.R_below (by (with_reducible repeat (first | apply Kd.R_alloc | apply Kd.R_drewN | apply Kd.R_drew)); exact HO177.out) hb); have n1_ := Aside0.mk (below_step (by repeat (first | (with_reducible first | exact HB.out | apply below_alloc | apply pw_below_drewN | apply below_drew1) | exact HB.out)) hb); clear HO177; clear HB; have HO177 := n0_; have HB := n1_; clear n0_ n1_; (try clear hb); (try clear hb2); (try clear hk); (try clear hi)))
                      go_meet
                      case rel => exact ⟨_, H', ⟨by have := HJ2.out; have := HJ8.out; first | omega | exact Nat.le_refl _⟩, ⟨by repeat (first | (with_reducible first | exact HB.out | apply below_alloc | apply pw_below_drewN | apply below_drew1) | exact HB.out)⟩⟩
                    · replace c19 := Bool.eq_false_iff.mpr c19
                      subst c19
                      have H1 : (some false) = some r := by rw [if_neg (show ¬ (false = true) by decide)] at H; exact H
                      clear H
                      have H := H1
                      clear H1
                      obtain rfl := Option.some.inj H
                      go_wp2_with (first | ((with_reducible refine gate_callee (f := 9) rfl ?_); refine goesL_ (some 37) rfl rfl Tryd.func9 (by kernel_rfl) rfl #[.string t172] rfl (by (try simp only [List.map_toArray, List.map_cons, List.map_nil]); first | done | rfl | (simp only [List.length_drop, List.length_take]; rfl)) ?_; (with_reducible refine (guard_Parse.calls kj8 t172 t174 t175 _ (Tabs2.below hT (by repeat (first | (with_reducible first | exact HB.out | apply below_alloc | apply pw_below_drewN | apply below_drew1) | exact HB.out))) A14.out).mono ?_); rintro e w23 ⟨v176, rfl, ho0, hb⟩; refine ⟨_, rfl, ?_⟩; have n0_ := Aside0.mk (Kd.R_lower ho0 (below_size (by repeat (first | (with_reducible first | exact HB.out | apply below_alloc | apply pw_below_drewN | apply below_drew1) | exact HB.out)))); have n1_ := Aside0.mk (below_step (by repeat (first | (with_reducible first | exact HB.out | apply below_alloc | apply pw_below_drewN | apply below_drew1) | exact HB.out)) hb); clear HB; have HO177 := n0_; have HB := n1_; clear n0_ n1_; (try clear hb); (try clear hb2); (try clear hk); (try clear hi); (try clear ho0); obtain ⟨Ao24, co24, eo24⟩ := Kd.R_slice HO177.out; subst eo24) | (go_at_call 10; (with_reducible refine (remontoirkeep_Signs.calls kj8 _ _ t174 _ _ l0 true _ ?side1 ?side2 ?side3 ?side4 A16.out).mono ?_); (case side1 => repeat (first | exact (Kd.R_reads' HO177.out).2.2 | (with_reducible refine Kd.C_alloc ?_ _) | (with_reducible refine Kd.C_drewN ?_ _) | (with_reducible refine Kd.C_drew ?_))); (case side2 => exact (Kd.R_reads' HO177.out).2.1); (case side3 => repeat (first | exact (Kd.C_below HR0.out HB.out) | (with_reducible refine Kd.C_alloc ?_ _) | (with_reducible refine Kd.C_drewN ?_ _) | (with_reducible refine Kd.C_drew ?_))); (case side4 => exact HC0.out); rintro e w' ⟨rfl, ⟨nd, rfl⟩⟩) | (go_at_call 11; (with_reducible refine (guard_Good.calls kj8 _ _ l0 false _ ?side1 ?side2 A18.out).mono ?_); (case side1 => repeat (first | exact (Kd.C_below HR0.out (by repeat (first | (with_reducible first | exact HB.out | apply below_alloc | apply pw_below_drewN | apply below_drew1) | exact HB.out))) | (with_reducible refine Kd.C_alloc ?_ _) | (with_reducible refine Kd.C_drewN ?_ _) | (with_reducible refine Kd.C_drew ?_))); (case side2 => exact HC0.out); rintro e w25 ⟨rfl, hb⟩; have n0_ := Aside0.mk (Kd.R_below (by (with_reducible repeat (first | apply Kd.R_alloc | apply Kd.R_drewN | apply Kd.R_drew)); exact HO177.out) hb); have n1_ := Aside0.mk (below_step (by repeat (first | (with_reducible first | exact HB.out | apply below_alloc | apply pw_below_drewN | apply below_drew1) | exact HB.out)) hb); clear HO177; clear HB; have HO177 := n0_; have HB := n1_; clear n0_ n1_; (try clear hb); (try clear hb2); (try clear hk); (try clear hi)))
                      go_ret
                      exact ⟨by first | rfl | (simp [errW_none, errW_some] <;> rfl) | (simp [*, errW_none, errW_some] <;> rfl), by repeat (first | (with_reducible first | exact HB.out | apply below_alloc | apply pw_below_drewN | apply below_drew1) | exact HB.out)⟩
                  · replace c17 := Bool.eq_false_iff.mpr c17
                    subst c17
                    have H1 : (some false) = some r := by rw [if_neg (show ¬ (false = true) by decide)] at H; exact H
                    clear H
                    have H := H1
                    clear H1
                    obtain rfl := Option.some.inj H
                    go_wp2_with (first | ((with_reducible refine gate_callee (f := 9) rfl ?_); refine goesL_ (some 37) rfl rfl Tryd.func9 (by kernel_rfl) rfl #[.string t172] rfl (by (try simp only [List.map_toArray, List.map_cons, List.map_nil]); first | done | rfl | (simp only [List.length_drop, List.length_take]; rfl)) ?_; (with_reducible refine (guard_Parse.calls kj8 t172 t174 t175 _ (Tabs2.below hT (by repeat (first | (with_reducible first | exact HB.out | apply below_alloc | apply pw_below_drewN | apply below_drew1) | exact HB.out))) A14.out).mono ?_); rintro e w26 ⟨v176, rfl, ho0, hb⟩; refine ⟨_, rfl, ?_⟩; have n0_ := Aside0.mk (Kd.R_lower ho0 (below_size (by repeat (first | (with_reducible first | exact HB.out | apply below_alloc | apply pw_below_drewN | apply below_drew1) | exact HB.out)))); have n1_ := Aside0.mk (below_step (by repeat (first | (with_reducible first | exact HB.out | apply below_alloc | apply pw_below_drewN | apply below_drew1) | exact HB.out)) hb); clear HB; have HO177 := n0_; have HB := n1_; clear n0_ n1_; (try clear hb); (try clear hb2); (try clear hk); (try clear hi); (try clear ho0); obtain ⟨Ao27, co27, eo27⟩ := Kd.R_slice HO177.out; subst eo27) | (go_at_call 10; (with_reducible refine (remontoirkeep_Signs.calls kj8 _ _ t174 _ _ l0 false _ ?side1 ?side2 ?side3 ?side4 A16.out).mono ?_); (case side1 => repeat (first | exact (Kd.R_reads' HO177.out).2.2 | (with_reducible refine Kd.C_alloc ?_ _) | (with_reducible refine Kd.C_drewN ?_ _) | (with_reducible refine Kd.C_drew ?_))); (case side2 => exact (Kd.R_reads' HO177.out).2.1); (case side3 => repeat (first | exact (Kd.C_below HR0.out HB.out) | (with_reducible refine Kd.C_alloc ?_ _) | (with_reducible refine Kd.C_drewN ?_ _) | (with_reducible refine Kd.C_drew ?_))); (case side4 => exact HC0.out); rintro e w' ⟨rfl, ⟨nd, rfl⟩⟩))
                    go_ret
                    exact ⟨by first | rfl | (simp [errW_none, errW_some] <;> rfl) | (simp [*, errW_none, errW_some] <;> rfl), by repeat (first | (with_reducible first | exact HB.out | apply below_alloc | apply pw_below_drewN | apply below_drew1) | exact HB.out)⟩
                · rw [if_neg c15] at H
                  have c15b0 : (t175 == 0) = false := beq_eq_false_iff_ne.mpr c15
                  have c15b1 : (t175 != 0) = true := bne_iff_ne.mpr c15
                  (first | rw [c15b0] | (simp only [i64_w, i32_w]; rw [c15b0]) | skip)
                  obtain rfl := Option.some.inj H
                  go_wp2_with (first | ((with_reducible refine gate_callee (f := 9) rfl ?_); refine goesL_ (some 37) rfl rfl Tryd.func9 (by kernel_rfl) rfl #[.string t172] rfl (by (try simp only [List.map_toArray, List.map_cons, List.map_nil]); first | done | rfl | (simp only [List.length_drop, List.length_take]; rfl)) ?_; (with_reducible refine (guard_Parse.calls kj8 t172 t174 t175 _ (Tabs2.below hT (by repeat (first | (with_reducible first | exact HB.out | apply below_alloc | apply pw_below_drewN | apply below_drew1) | exact HB.out))) A14.out).mono ?_); rintro e w28 ⟨v176, rfl, ho0, hb⟩; refine ⟨_, rfl, ?_⟩; have n0_ := Aside0.mk (Kd.R_lower ho0 (below_size (by repeat (first | (with_reducible first | exact HB.out | apply below_alloc | apply pw_below_drewN | apply below_drew1) | exact HB.out)))); have n1_ := Aside0.mk (below_step (by repeat (first | (with_reducible first | exact HB.out | apply below_alloc | apply pw_below_drewN | apply below_drew1) | exact HB.out)) hb); clear HB; have HO177 := n0_; have HB := n1_; clear n0_ n1_; (try clear hb); (try clear hb2); (try clear hk); (try clear hi); (try clear ho0)))
                  go_ret
                  exact ⟨by first | rfl | (simp [errW_none, errW_some] <;> rfl) | (simp [*, errW_none, errW_some] <;> rfl), by repeat (first | (with_reducible first | exact HB.out | apply below_alloc | apply pw_below_drewN | apply below_drew1) | exact HB.out)⟩
              · replace c13 := Bool.eq_false_iff.mpr c13
                subst c13
                have H1 : (remontoirlaw14_GuardBack.j2 kj8 a1) = some r := by rw [if_neg (show ¬ (false = true) by decide)] at H; exact H
                clear H
                have H := H1
                clear H1
                have H' := Aside0.mk H
                clear H
                go_wp2
                go_meet
                case rel => exact ⟨_, H', ⟨by have := HJ2.out; have := HJ8.out; first | omega | exact Nat.le_refl _⟩, ⟨by repeat (first | (with_reducible first | exact HB.out | apply below_alloc | apply pw_below_drewN | apply below_drew1) | exact HB.out)⟩⟩
            case rest =>
              clear HC12
              try clear c1
              try clear p2
              try clear c3
              try clear c4
              try clear c4b0
              try clear c4b1
              try clear c5
              try clear c7
              try clear c8
              try clear c9
              try clear c11
              try clear c13
              try clear c15
              try clear c15b0
              try clear c15b1
              try clear c17
              try clear c19
              try clear p2
              obtain ⟨kq, HA, HJ11, HB⟩ := hcut
              cases kq with
              | zero => exact absurd HA.out (by simp [remontoirlaw14_GuardBack.j2])
              | succ kj11 =>
                have H := HA.out
                clear HA
                simp only [remontoirlaw14_GuardBack.j2] at H
                replace H := Option.bind_eq_some_iff.mp H
                obtain ⟨⟨t180, t181⟩, A290, H⟩ := H
                replace H : (if t181 = 0 then ((guard_Print.f kj11 t180).bind fun bt184 => (if bt184.2 = true then ((guard_Good.f kj11 t180).bind fun t186 => (remontoirlaw14_GuardBack.j3 kj11 t180 bt184.1 (!t186))) else (remontoirlaw14_GuardBack.j3 kj11 t180 bt184.1 true))) else ((remontoirlaw14_wakes.f kj11).bind fun t195 => (some t195))) = some r := H
                have A29 := Aside0.mk A290
                clear A290
                by_cases c30 : t181 = 0
                · rw [if_pos c30] at H
                  have c30b0 : (t181 == 0) = true := beq_iff_eq.mpr c30
                  have c30b1 : (t181 != 0) = false := bne_eq_false_iff_eq.mpr c30
                  clear c30
                  replace H := Option.bind_eq_some_iff.mp H
                  obtain ⟨⟨t184, t185⟩, A310, H⟩ := H
                  replace H : (if t185 = true then ((guard_Good.f kj11 t180).bind fun t186 => (remontoirlaw14_GuardBack.j3 kj11 t180 t184 (!t186))) else (remontoirlaw14_GuardBack.j3 kj11 t180 t184 true)) = some r := H
                  have A31 := Aside0.mk A310
                  clear A310
                  have HC32 := Aside0.mk H
                  clear H
                  go_upto_region 11 with (first | ((with_reducible refine gate_callee (f := 9) rfl ?_); refine goesL_ (some 55) rfl rfl Tryd.func9 (by kernel_rfl) rfl #[.string a1] rfl (by (try simp only [List.map_toArray, List.map_cons, List.map_nil]); first | done | rfl | (simp only [List.length_drop, List.length_take]; rfl)) ?_; (with_reducible refine (guard_Parse.calls kj11 a1 t180 t181 _ (Tabs2.below hT (by repeat (first | (with_reducible first | exact HB.out | apply below_alloc | apply pw_below_drewN | apply below_drew1) | exact HB.out))) A29.out).mono ?_); rintro e w33 ⟨v182, rfl, ho0, hb⟩; refine ⟨_, rfl, ?_⟩; have n0_ := Aside0.mk (Kd.R_lower ho0 (below_size (by repeat (first | (with_reducible first | exact HB.out | apply below_alloc | apply pw_below_drewN | apply below_drew1) | exact HB.out)))); have n1_ := Aside0.mk (below_step (by repeat (first | (with_reducible first | exact HB.out | apply below_alloc | apply pw_below_drewN | apply below_drew1) | exact HB.out)) hb); clear HB; have HO183 := n0_; have HB := n1_; clear n0_ n1_; (try clear hb); (try clear hb2); (try clear hk); (try clear hi); (try clear ho0); obtain ⟨Ao34, co34, eo34⟩ := Kd.R_slice HO183.out; subst eo34) | ((with_reducible refine gate_callee (f := 8) rfl ?_); refine goesL_ (some 62) rfl rfl Tryd.func8 (by kernel_rfl) rfl #[.slice Ao34 t180.length co34] rfl (by (try simp only [List.map_toArray, List.map_cons, List.map_nil]); first | done | rfl | (simp only [List.length_drop, List.length_take]; rfl)) ?_; (with_reducible refine (guard_Print.calls kj11 _ _ t180 t184 t185 _ ?side1 ?side2 (Tabs.below hT.toTabs (by repeat (first | (with_reducible first | exact HB.out | apply below_alloc | apply pw_below_drewN | apply below_drew1) | exact HB.out))) A31.out).mono ?_); (case side1 => repeat (first | exact (Kd.R_reads' HO183.out).2.2 | (with_reducible refine Kd.C_alloc ?_ _) | (with_reducible refine Kd.C_drewN ?_ _) | (with_reducible refine Kd.C_drew ?_))); (case side2 => exact (Kd.R_reads' HO183.out).2.1); rintro e w35 ⟨rfl, hb⟩; refine ⟨_, rfl, ?_⟩; have n0_ := Aside0.mk (Kd.R_below (by (with_reducible repeat (first | apply Kd.R_alloc | apply Kd.R_drewN | apply Kd.R_drew)); exact HO183.out) hb); have n1_ := Aside0.mk (below_step (by repeat (first | (with_reducible first | exact HB.out | apply below_alloc | apply pw_below_drewN | apply below_drew1) | exact HB.out)) hb); clear HO183; clear HB; have HO183 := n0_; have HB := n1_; clear n0_ n1_; (try clear hb); (try clear hb2); (try clear hk); (try clear hi)))
                  (try simp only [Act.put, List.setIfInBounds_toArray, List.set_cons_zero, List.set_cons_succ])
                  go_cut [71] (fun v71 wc => ∃ (kq : Nat) (x71_31 : Bool), v71 = .bool x71_31 ∧ Aside0 (remontoirlaw14_GuardBack.j3 kq t180 t184 x71_31 = some r) ∧ Aside0 (kq ≤ kj11) ∧ Aside0 (Kd.R k33 33 wc w.heap.size (fun _ => True) (.slice Ao34 t180.length co34) t180) ∧ Aside0 (Below w.heap.size w wc))
                  case first =>
                    have H := HC32.out
                    clear HC32
                    by_cases c36 : t185 = true
                    · subst c36
                      have H1 : ((guard_Good.f kj11 t180).bind fun t186 => (remontoirlaw14_GuardBack.j3 kj11 t180 t184 (!t186))) = some r := by rw [if_pos rfl] at H; exact H
                      clear H
                      have H := H1
                      clear H1
                      replace H := Option.bind_eq_some_iff.mp H
                      obtain ⟨t186, A370, H⟩ := H
                      replace H : (remontoirlaw14_GuardBack.j3 kj11 t180 t184 (!t186)) = some r := H
                      have A37 := Aside0.mk A370
                      clear A370
                      have H' := Aside0.mk H
                      clear H
                      go_wp2_with (first | (go_at_call 11; (with_reducible refine (guard_Good.calls kj11 _ _ t180 t186 _ ?side1 ?side2 A37.out).mono ?_); (case side1 => repeat (first | exact (Kd.R_reads' HO183.out).2.2 | (with_reducible refine Kd.C_alloc ?_ _) | (with_reducible refine Kd.C_drewN ?_ _) | (with_reducible refine Kd.C_drew ?_))); (case side2 => exact (Kd.R_reads' HO183.out).2.1); rintro e w38 ⟨rfl, hb⟩; have n0_ := Aside0.mk (Kd.R_below (by (with_reducible repeat (first | apply Kd.R_alloc | apply Kd.R_drewN | apply Kd.R_drew)); exact HO183.out) hb); have n1_ := Aside0.mk (below_step (by repeat (first | (with_reducible first | exact HB.out | apply below_alloc | apply pw_below_drewN | apply below_drew1) | exact HB.out)) hb); clear HO183; clear HB; have HO183 := n0_; have HB := n1_; clear n0_ n1_; (try clear hb); (try clear hb2); (try clear hk); (try clear hi)))
                      go_meet
                      case rel => exact ⟨_, (!t186), (by first | rfl | (simp; done) | (simp [*]; done)), H', ⟨by have := HJ2.out; have := HJ8.out; have := HJ11.out; first | omega | exact Nat.le_refl _⟩, ⟨by (with_reducible repeat (first | apply Kd.R_alloc | apply Kd.R_drewN | apply Kd.R_drew)); exact HO183.out⟩, ⟨by repeat (first | (with_reducible first | exact HB.out | apply below_alloc | apply pw_below_drewN | apply below_drew1) | exact HB.out)⟩⟩
                    · replace c36 := Bool.eq_false_iff.mpr c36
                      subst c36
                      have H1 : (remontoirlaw14_GuardBack.j3 kj11 t180 t184 true) = some r := by rw [if_neg (show ¬ (false = true) by decide)] at H; exact H
                      clear H
                      have H := H1
                      clear H1
                      have H' := Aside0.mk H
                      clear H
                      go_wp2
                      go_meet
                      case rel => exact ⟨_, (true), (by first | rfl | (simp; done) | (simp [*]; done)), H', ⟨by have := HJ2.out; have := HJ8.out; have := HJ11.out; first | omega | exact Nat.le_refl _⟩, ⟨by (with_reducible repeat (first | apply Kd.R_alloc | apply Kd.R_drewN | apply Kd.R_drew)); exact HO183.out⟩, ⟨by repeat (first | (with_reducible first | exact HB.out | apply below_alloc | apply pw_below_drewN | apply below_drew1) | exact HB.out)⟩⟩
                  case rest =>
                    clear HC32
                    try clear c1
                    try clear p2
                    try clear c3
                    try clear c4
                    try clear c4b0
                    try clear c4b1
                    try clear c5
                    try clear c7
                    try clear c8
                    try clear c9
                    try clear c11
                    try clear c13
                    try clear c15
                    try clear c15b0
                    try clear c15b1
                    try clear c17
                    try clear c19
                    try clear c30
                    try clear c30b0
                    try clear c30b1
                    try clear c36
                    try clear p2
                    obtain ⟨kq, x71_31, rfl, HA, HJ31, HO_9, HB⟩ := hcut
                    cases kq with
                    | zero => exact absurd HA.out (by simp [remontoirlaw14_GuardBack.j3])
                    | succ kj31 =>
                      have H := HA.out
                      clear HA
                      simp only [remontoirlaw14_GuardBack.j3] at H
                      by_cases c39 : x71_31 = true
                      · subst c39
                        have H1 : (some false) = some r := by rw [if_pos rfl] at H; exact H
                        clear H
                        have H := H1
                        clear H1
                        obtain rfl := Option.some.inj H
                        go_wp2
                        go_ret
                        exact ⟨by first | rfl | (simp [errW_none, errW_some] <;> rfl) | (simp [*, errW_none, errW_some] <;> rfl), by repeat (first | (with_reducible first | exact HB.out | apply below_alloc | apply pw_below_drewN | apply below_drew1) | exact HB.out)⟩
                      · replace c39 := Bool.eq_false_iff.mpr c39
                        subst c39
                        have H1 : ((guard_Parse.f kj31 t184).bind fun bt187 => (if bt187.2 = 0 then ((remontoirkeep_Signs.f kj31 t180 bt187.1).bind fun t191 => (if t191 = true then ((remontoirlaw14_wakes.f kj31).bind fun t192 => (some t192)) else (if bt187.2 = 15 then (if (t184.size : Int) > 60 then ((remontoirlaw14_wakes.f kj31).bind fun t193 => (some t193)) else (some false)) else (some false)))) else (if bt187.2 = 15 then (if (t184.size : Int) > 60 then ((remontoirlaw14_wakes.f kj31).bind fun t194 => (some t194)) else (some false)) else (some false)))) = some r := by rw [if_neg (show ¬ (false = true) by decide)] at H; exact H
                        clear H
                        have H := H1
                        clear H1
                        replace H := Option.bind_eq_some_iff.mp H
                        obtain ⟨⟨t187, t188⟩, A400, H⟩ := H
                        replace H : (if t188 = 0 then ((remontoirkeep_Signs.f kj31 t180 t187).bind fun t191 => (if t191 = true then ((remontoirlaw14_wakes.f kj31).bind fun t192 => (some t192)) else (if t188 = 15 then (if (t184.size : Int) > 60 then ((remontoirlaw14_wakes.f kj31).bind fun t193 => (some t193)) else (some false)) else (some false)))) else (if t188 = 15 then (if (t184.size : Int) > 60 then ((remontoirlaw14_wakes.f kj31).bind fun t194 => (some t194)) else (some false)) else (some false))) = some r := H
                        have A40 := Aside0.mk A400
                        clear A400
                        by_cases c41 : t188 = 0
                        · rw [if_pos c41] at H
                          have c41b0 : (t188 == 0) = true := beq_iff_eq.mpr c41
                          have c41b1 : (t188 != 0) = false := bne_eq_false_iff_eq.mpr c41
                          clear c41
                          replace H := Option.bind_eq_some_iff.mp H
                          obtain ⟨t191, A420, H⟩ := H
                          replace H : (if t191 = true then ((remontoirlaw14_wakes.f kj31).bind fun t192 => (some t192)) else (if t188 = 15 then (if (t184.size : Int) > 60 then ((remontoirlaw14_wakes.f kj31).bind fun t193 => (some t193)) else (some false)) else (some false))) = some r := H
                          have A42 := Aside0.mk A420
                          clear A420
                          by_cases c43 : t191 = true
                          · subst c43
                            have H1 : ((remontoirlaw14_wakes.f kj31).bind fun t192 => (some t192)) = some r := by rw [if_pos rfl] at H; exact H
                            clear H
                            have H := H1
                            clear H1
                            replace H := Option.bind_eq_some_iff.mp H
                            obtain ⟨t192, A440, H⟩ := H
                            replace H : (some t192) = some r := H
                            have A44 := Aside0.mk A440
                            clear A440
                            obtain rfl := Option.some.inj H
                            go_wp2_with (first | ((with_reducible refine gate_callee (f := 9) rfl ?_); refine goesL_ (some 74) rfl rfl Tryd.func9 (by kernel_rfl) rfl #[.string t184] rfl (by (try simp only [List.map_toArray, List.map_cons, List.map_nil]); first | done | rfl | (simp only [List.length_drop, List.length_take]; rfl)) ?_; (with_reducible refine (guard_Parse.calls kj31 t184 t187 t188 _ (Tabs2.below hT (by repeat (first | (with_reducible first | exact HB.out | apply below_alloc | apply pw_below_drewN | apply below_drew1) | exact HB.out))) A40.out).mono ?_); rintro e w45 ⟨v189, rfl, ho0, hb⟩; refine ⟨_, rfl, ?_⟩; have n0_ := Aside0.mk (Kd.R_elder' (by (with_reducible repeat (first | apply Kd.R_alloc | apply Kd.R_drewN | apply Kd.R_drew)); exact HO_9.out) (Kd.R_base ho0) hb); have n1_ := Aside0.mk (Kd.R_lower (Kd.R_new' ho0 (Kd.R_lt (by (with_reducible repeat (first | apply Kd.R_alloc | apply Kd.R_drewN | apply Kd.R_drew)); exact HO_9.out))) (below_size (by repeat (first | (with_reducible first | exact HB.out | apply below_alloc | apply pw_below_drewN | apply below_drew1) | exact HB.out)))); have n2_ := Aside0.mk (below_step (by repeat (first | (with_reducible first | exact HB.out | apply below_alloc | apply pw_below_drewN | apply below_drew1) | exact HB.out)) hb); clear HO_9; clear HB; have HO_9 := n0_; have HO190 := n1_; have HB := n2_; clear n0_ n1_ n2_; (try clear hb); (try clear hb2); (try clear hk); (try clear hi); (try clear ho0); obtain ⟨Ao46, co46, eo46⟩ := Kd.R_slice HO190.out; subst eo46) | (go_at_call 10; (with_reducible refine (remontoirkeep_Signs.calls kj31 _ _ t180 _ _ t187 true _ ?side1 ?side2 ?side3 ?side4 A42.out).mono ?_); (case side1 => repeat (first | exact (Kd.R_reads' HO_9.out).2.2 | (with_reducible refine Kd.C_alloc ?_ _) | (with_reducible refine Kd.C_drewN ?_ _) | (with_reducible refine Kd.C_drew ?_))); (case side2 => exact (Kd.R_reads' HO_9.out).2.1); (case side3 => repeat (first | exact (Kd.R_reads' HO190.out).2.2 | (with_reducible refine Kd.C_alloc ?_ _) | (with_reducible refine Kd.C_drewN ?_ _) | (with_reducible refine Kd.C_drew ?_))); (case side4 => exact (Kd.R_reads' HO190.out).2.1); rintro e w' ⟨rfl, ⟨nd, rfl⟩⟩) | (go_at_call 7; (with_reducible refine (remontoirlaw14_wakes.calls kj31  t192 _ (Tabs2.below hT (by repeat (first | (with_reducible first | exact HB.out | apply below_alloc | apply pw_below_drewN | apply below_drew1) | exact HB.out))) A44.out).mono ?_); rintro e w47 ⟨rfl, hb⟩; have n0_ := Aside0.mk (Kd.R_below (by (with_reducible repeat (first | apply Kd.R_alloc | apply Kd.R_drewN | apply Kd.R_drew)); exact HO_9.out) hb); have n1_ := Aside0.mk (Kd.R_below (by (with_reducible repeat (first | apply Kd.R_alloc | apply Kd.R_drewN | apply Kd.R_drew)); exact HO190.out) hb); have n2_ := Aside0.mk (below_step (by repeat (first | (with_reducible first | exact HB.out | apply below_alloc | apply pw_below_drewN | apply below_drew1) | exact HB.out)) hb); clear HO_9; clear HO190; clear HB; have HO_9 := n0_; have HO190 := n1_; have HB := n2_; clear n0_ n1_ n2_; (try clear hb); (try clear hb2); (try clear hk); (try clear hi)))
                            go_ret
                            exact ⟨by first | rfl | (simp [errW_none, errW_some] <;> rfl) | (simp [*, errW_none, errW_some] <;> rfl), by repeat (first | (with_reducible first | exact HB.out | apply below_alloc | apply pw_below_drewN | apply below_drew1) | exact HB.out)⟩
                          · replace c43 := Bool.eq_false_iff.mpr c43
                            subst c43
                            have H1 : (if t188 = 15 then (if (t184.size : Int) > 60 then ((remontoirlaw14_wakes.f kj31).bind fun t193 => (some t193)) else (some false)) else (some false)) = some r := by rw [if_neg (show ¬ (false = true) by decide)] at H; exact H
                            clear H
                            have H := H1
                            clear H1
                            by_cases c48 : t188 = 15
                            · rw [if_pos c48] at H
                              have c48b0 : (t188 == 15) = true := beq_iff_eq.mpr c48
                              have c48b1 : (t188 != 15) = false := bne_eq_false_iff_eq.mpr c48
                              clear c48
                              by_cases c49 : (t184.size : Int) > 60
                              · rw [if_pos c49] at H
                                have c49b0 : decide (60 < (t184.size : Int)) = true := decide_eq_true c49
                                have c49b1 : decide (60 < t184.size) = true := decide_eq_true (by omega)
                                clear c49
                                replace H := Option.bind_eq_some_iff.mp H
                                obtain ⟨t193, A500, H⟩ := H
                                replace H : (some t193) = some r := H
                                have A50 := Aside0.mk A500
                                clear A500
                                obtain rfl := Option.some.inj H
                                go_wp2_with (first | ((with_reducible refine gate_callee (f := 9) rfl ?_); refine goesL_ (some 74) rfl rfl Tryd.func9 (by kernel_rfl) rfl #[.string t184] rfl (by (try simp only [List.map_toArray, List.map_cons, List.map_nil]); first | done | rfl | (simp only [List.length_drop, List.length_take]; rfl)) ?_; (with_reducible refine (guard_Parse.calls kj31 t184 t187 t188 _ (Tabs2.below hT (by repeat (first | (with_reducible first | exact HB.out | apply below_alloc | apply pw_below_drewN | apply below_drew1) | exact HB.out))) A40.out).mono ?_); rintro e w51 ⟨v189, rfl, ho0, hb⟩; refine ⟨_, rfl, ?_⟩; have n0_ := Aside0.mk (Kd.R_elder' (by (with_reducible repeat (first | apply Kd.R_alloc | apply Kd.R_drewN | apply Kd.R_drew)); exact HO_9.out) (Kd.R_base ho0) hb); have n1_ := Aside0.mk (Kd.R_lower (Kd.R_new' ho0 (Kd.R_lt (by (with_reducible repeat (first | apply Kd.R_alloc | apply Kd.R_drewN | apply Kd.R_drew)); exact HO_9.out))) (below_size (by repeat (first | (with_reducible first | exact HB.out | apply below_alloc | apply pw_below_drewN | apply below_drew1) | exact HB.out)))); have n2_ := Aside0.mk (below_step (by repeat (first | (with_reducible first | exact HB.out | apply below_alloc | apply pw_below_drewN | apply below_drew1) | exact HB.out)) hb); clear HO_9; clear HB; have HO_9 := n0_; have HO190 := n1_; have HB := n2_; clear n0_ n1_ n2_; (try clear hb); (try clear hb2); (try clear hk); (try clear hi); (try clear ho0); obtain ⟨Ao52, co52, eo52⟩ := Kd.R_slice HO190.out; subst eo52) | (go_at_call 10; (with_reducible refine (remontoirkeep_Signs.calls kj31 _ _ t180 _ _ t187 false _ ?side1 ?side2 ?side3 ?side4 A42.out).mono ?_); (case side1 => repeat (first | exact (Kd.R_reads' HO_9.out).2.2 | (with_reducible refine Kd.C_alloc ?_ _) | (with_reducible refine Kd.C_drewN ?_ _) | (with_reducible refine Kd.C_drew ?_))); (case side2 => exact (Kd.R_reads' HO_9.out).2.1); (case side3 => repeat (first | exact (Kd.R_reads' HO190.out).2.2 | (with_reducible refine Kd.C_alloc ?_ _) | (with_reducible refine Kd.C_drewN ?_ _) | (with_reducible refine Kd.C_drew ?_))); (case side4 => exact (Kd.R_reads' HO190.out).2.1); rintro e w' ⟨rfl, ⟨nd, rfl⟩⟩) | (go_at_call 7; (with_reducible refine (remontoirlaw14_wakes.calls kj31  t193 _ (Tabs2.below hT (by repeat (first | (with_reducible first | exact HB.out | apply below_alloc | apply pw_below_drewN | apply below_drew1) | exact HB.out))) A50.out).mono ?_); rintro e w53 ⟨rfl, hb⟩; have n0_ := Aside0.mk (Kd.R_below (by (with_reducible repeat (first | apply Kd.R_alloc | apply Kd.R_drewN | apply Kd.R_drew)); exact HO_9.out) hb); have n1_ := Aside0.mk (Kd.R_below (by (with_reducible repeat (first | apply Kd.R_alloc | apply Kd.R_drewN | apply Kd.R_drew)); exact HO190.out) hb); have n2_ := Aside0.mk (below_step (by repeat (first | (with_reducible first | exact HB.out | apply below_alloc | apply pw_below_drewN | apply below_drew1) | exact HB.out)) hb); clear HO_9; clear HO190; clear HB; have HO_9 := n0_; have HO190 := n1_; have HB := n2_; clear n0_ n1_ n2_; (try clear hb); (try clear hb2); (try clear hk); (try clear hi)))
                                go_ret
                                exact ⟨by first | rfl | (simp [errW_none, errW_some] <;> rfl) | (simp [*, errW_none, errW_some] <;> rfl), by repeat (first | (with_reducible first | exact HB.out | apply below_alloc | apply pw_below_drewN | apply below_drew1) | exact HB.out)⟩
                              · rw [if_neg c49] at H
                                have c49b0 : decide (60 < (t184.size : Int)) = false := decide_eq_false c49
                                have c49b1 : decide (60 < t184.size) = false := decide_eq_false (by omega)
                                clear c49
                                obtain rfl := Option.some.inj H
                                go_wp2_with (first | ((with_reducible refine gate_callee (f := 9) rfl ?_); refine goesL_ (some 74) rfl rfl Tryd.func9 (by kernel_rfl) rfl #[.string t184] rfl (by (try simp only [List.map_toArray, List.map_cons, List.map_nil]); first | done | rfl | (simp only [List.length_drop, List.length_take]; rfl)) ?_; (with_reducible refine (guard_Parse.calls kj31 t184 t187 t188 _ (Tabs2.below hT (by repeat (first | (with_reducible first | exact HB.out | apply below_alloc | apply pw_below_drewN | apply below_drew1) | exact HB.out))) A40.out).mono ?_); rintro e w54 ⟨v189, rfl, ho0, hb⟩; refine ⟨_, rfl, ?_⟩; have n0_ := Aside0.mk (Kd.R_elder' (by (with_reducible repeat (first | apply Kd.R_alloc | apply Kd.R_drewN | apply Kd.R_drew)); exact HO_9.out) (Kd.R_base ho0) hb); have n1_ := Aside0.mk (Kd.R_lower (Kd.R_new' ho0 (Kd.R_lt (by (with_reducible repeat (first | apply Kd.R_alloc | apply Kd.R_drewN | apply Kd.R_drew)); exact HO_9.out))) (below_size (by repeat (first | (with_reducible first | exact HB.out | apply below_alloc | apply pw_below_drewN | apply below_drew1) | exact HB.out)))); have n2_ := Aside0.mk (below_step (by repeat (first | (with_reducible first | exact HB.out | apply below_alloc | apply pw_below_drewN | apply below_drew1) | exact HB.out)) hb); clear HO_9; clear HB; have HO_9 := n0_; have HO190 := n1_; have HB := n2_; clear n0_ n1_ n2_; (try clear hb); (try clear hb2); (try clear hk); (try clear hi); (try clear ho0); obtain ⟨Ao55, co55, eo55⟩ := Kd.R_slice HO190.out; subst eo55) | (go_at_call 10; (with_reducible refine (remontoirkeep_Signs.calls kj31 _ _ t180 _ _ t187 false _ ?side1 ?side2 ?side3 ?side4 A42.out).mono ?_); (case side1 => repeat (first | exact (Kd.R_reads' HO_9.out).2.2 | (with_reducible refine Kd.C_alloc ?_ _) | (with_reducible refine Kd.C_drewN ?_ _) | (with_reducible refine Kd.C_drew ?_))); (case side2 => exact (Kd.R_reads' HO_9.out).2.1); (case side3 => repeat (first | exact (Kd.R_reads' HO190.out).2.2 | (with_reducible refine Kd.C_alloc ?_ _) | (with_reducible refine Kd.C_drewN ?_ _) | (with_reducible refine Kd.C_drew ?_))); (case side4 => exact (Kd.R_reads' HO190.out).2.1); rintro e w' ⟨rfl, ⟨nd, rfl⟩⟩))
                                go_ret
                                exact ⟨by first | rfl | (simp [errW_none, errW_some] <;> rfl) | (simp [*, errW_none, errW_some] <;> rfl), by repeat (first | (with_reducible first | exact HB.out | apply below_alloc | apply pw_below_drewN | apply below_drew1) | exact HB.out)⟩
                            · rw [if_neg c48] at H
                              have c48b0 : (t188 == 15) = false := beq_eq_false_iff_ne.mpr c48
                              have c48b1 : (t188 != 15) = true := bne_iff_ne.mpr c48
                              obtain rfl := Option.some.inj H
                              go_wp2_with (first | ((with_reducible refine gate_callee (f := 9) rfl ?_); refine goesL_ (some 74) rfl rfl Tryd.func9 (by kernel_rfl) rfl #[.string t184] rfl (by (try simp only [List.map_toArray, List.map_cons, List.map_nil]); first | done | rfl | (simp only [List.length_drop, List.length_take]; rfl)) ?_; (with_reducible refine (guard_Parse.calls kj31 t184 t187 t188 _ (Tabs2.below hT (by repeat (first | (with_reducible first | exact HB.out | apply below_alloc | apply pw_below_drewN | apply below_drew1) | exact HB.out))) A40.out).mono ?_); rintro e w56 ⟨v189, rfl, ho0, hb⟩; refine ⟨_, rfl, ?_⟩; have n0_ := Aside0.mk (Kd.R_elder' (by (with_reducible repeat (first | apply Kd.R_alloc | apply Kd.R_drewN | apply Kd.R_drew)); exact HO_9.out) (Kd.R_base ho0) hb); have n1_ := Aside0.mk (Kd.R_lower (Kd.R_new' ho0 (Kd.R_lt (by (with_reducible repeat (first | apply Kd.R_alloc | apply Kd.R_drewN | apply Kd.R_drew)); exact HO_9.out))) (below_size (by repeat (first | (with_reducible first | exact HB.out | apply below_alloc | apply pw_below_drewN | apply below_drew1) | exact HB.out)))); have n2_ := Aside0.mk (below_step (by repeat (first | (with_reducible first | exact HB.out | apply below_alloc | apply pw_below_drewN | apply below_drew1) | exact HB.out)) hb); clear HO_9; clear HB; have HO_9 := n0_; have HO190 := n1_; have HB := n2_; clear n0_ n1_ n2_; (try clear hb); (try clear hb2); (try clear hk); (try clear hi); (try clear ho0); obtain ⟨Ao57, co57, eo57⟩ := Kd.R_slice HO190.out; subst eo57) | (go_at_call 10; (with_reducible refine (remontoirkeep_Signs.calls kj31 _ _ t180 _ _ t187 false _ ?side1 ?side2 ?side3 ?side4 A42.out).mono ?_); (case side1 => repeat (first | exact (Kd.R_reads' HO_9.out).2.2 | (with_reducible refine Kd.C_alloc ?_ _) | (with_reducible refine Kd.C_drewN ?_ _) | (with_reducible refine Kd.C_drew ?_))); (case side2 => exact (Kd.R_reads' HO_9.out).2.1); (case side3 => repeat (first | exact (Kd.R_reads' HO190.out).2.2 | (with_reducible refine Kd.C_alloc ?_ _) | (with_reducible refine Kd.C_drewN ?_ _) | (with_reducible refine Kd.C_drew ?_))); (case side4 => exact (Kd.R_reads' HO190.out).2.1); rintro e w' ⟨rfl, ⟨nd, rfl⟩⟩))
                              go_ret
                              exact ⟨by first | rfl | (simp [errW_none, errW_some] <;> rfl) | (simp [*, errW_none, errW_some] <;> rfl), by repeat (first | (with_reducible first | exact HB.out | apply below_alloc | apply pw_below_drewN | apply below_drew1) | exact HB.out)⟩
                        · rw [if_neg c41] at H
                          have c41b0 : (t188 == 0) = false := beq_eq_false_iff_ne.mpr c41
                          have c41b1 : (t188 != 0) = true := bne_iff_ne.mpr c41
                          by_cases c58 : t188 = 15
                          · rw [if_pos c58] at H
                            have c58b0 : (t188 == 15) = true := beq_iff_eq.mpr c58
                            have c58b1 : (t188 != 15) = false := bne_eq_false_iff_eq.mpr c58
                            clear c58
                            by_cases c59 : (t184.size : Int) > 60
                            · rw [if_pos c59] at H
                              have c59b0 : decide (60 < (t184.size : Int)) = true := decide_eq_true c59
                              have c59b1 : decide (60 < t184.size) = true := decide_eq_true (by omega)
                              clear c59
                              replace H := Option.bind_eq_some_iff.mp H
                              obtain ⟨t194, A600, H⟩ := H
                              replace H : (some t194) = some r := H
                              have A60 := Aside0.mk A600
                              clear A600
                              obtain rfl := Option.some.inj H
                              go_wp2_with (first | ((with_reducible refine gate_callee (f := 9) rfl ?_); refine goesL_ (some 74) rfl rfl Tryd.func9 (by kernel_rfl) rfl #[.string t184] rfl (by (try simp only [List.map_toArray, List.map_cons, List.map_nil]); first | done | rfl | (simp only [List.length_drop, List.length_take]; rfl)) ?_; (with_reducible refine (guard_Parse.calls kj31 t184 t187 t188 _ (Tabs2.below hT (by repeat (first | (with_reducible first | exact HB.out | apply below_alloc | apply pw_below_drewN | apply below_drew1) | exact HB.out))) A40.out).mono ?_); rintro e w61 ⟨v189, rfl, ho0, hb⟩; refine ⟨_, rfl, ?_⟩; have n0_ := Aside0.mk (Kd.R_elder' (by (with_reducible repeat (first | apply Kd.R_alloc | apply Kd.R_drewN | apply Kd.R_drew)); exact HO_9.out) (Kd.R_base ho0) hb); have n1_ := Aside0.mk (Kd.R_lower (Kd.R_new' ho0 (Kd.R_lt (by (with_reducible repeat (first | apply Kd.R_alloc | apply Kd.R_drewN | apply Kd.R_drew)); exact HO_9.out))) (below_size (by repeat (first | (with_reducible first | exact HB.out | apply below_alloc | apply pw_below_drewN | apply below_drew1) | exact HB.out)))); have n2_ := Aside0.mk (below_step (by repeat (first | (with_reducible first | exact HB.out | apply below_alloc | apply pw_below_drewN | apply below_drew1) | exact HB.out)) hb); clear HO_9; clear HB; have HO_9 := n0_; have HO190 := n1_; have HB := n2_; clear n0_ n1_ n2_; (try clear hb); (try clear hb2); (try clear hk); (try clear hi); (try clear ho0)) | (go_at_call 7; (with_reducible refine (remontoirlaw14_wakes.calls kj31  t194 _ (Tabs2.below hT (by repeat (first | (with_reducible first | exact HB.out | apply below_alloc | apply pw_below_drewN | apply below_drew1) | exact HB.out))) A60.out).mono ?_); rintro e w62 ⟨rfl, hb⟩; have n0_ := Aside0.mk (Kd.R_below (by (with_reducible repeat (first | apply Kd.R_alloc | apply Kd.R_drewN | apply Kd.R_drew)); exact HO_9.out) hb); have n1_ := Aside0.mk (Kd.R_below (by (with_reducible repeat (first | apply Kd.R_alloc | apply Kd.R_drewN | apply Kd.R_drew)); exact HO190.out) hb); have n2_ := Aside0.mk (below_step (by repeat (first | (with_reducible first | exact HB.out | apply below_alloc | apply pw_below_drewN | apply below_drew1) | exact HB.out)) hb); clear HO_9; clear HO190; clear HB; have HO_9 := n0_; have HO190 := n1_; have HB := n2_; clear n0_ n1_ n2_; (try clear hb); (try clear hb2); (try clear hk); (try clear hi)))
                              go_ret
                              exact ⟨by first | rfl | (simp [errW_none, errW_some] <;> rfl) | (simp [*, errW_none, errW_some] <;> rfl), by repeat (first | (with_reducible first | exact HB.out | apply below_alloc | apply pw_below_drewN | apply below_drew1) | exact HB.out)⟩
                            · rw [if_neg c59] at H
                              have c59b0 : decide (60 < (t184.size : Int)) = false := decide_eq_false c59
                              have c59b1 : decide (60 < t184.size) = false := decide_eq_false (by omega)
                              clear c59
                              obtain rfl := Option.some.inj H
                              go_wp2_with (first | ((with_reducible refine gate_callee (f := 9) rfl ?_); refine goesL_ (some 74) rfl rfl Tryd.func9 (by kernel_rfl) rfl #[.string t184] rfl (by (try simp only [List.map_toArray, List.map_cons, List.map_nil]); first | done | rfl | (simp only [List.length_drop, List.length_take]; rfl)) ?_; (with_reducible refine (guard_Parse.calls kj31 t184 t187 t188 _ (Tabs2.below hT (by repeat (first | (with_reducible first | exact HB.out | apply below_alloc | apply pw_below_drewN | apply below_drew1) | exact HB.out))) A40.out).mono ?_); rintro e w63 ⟨v189, rfl, ho0, hb⟩; refine ⟨_, rfl, ?_⟩; have n0_ := Aside0.mk (Kd.R_elder' (by (with_reducible repeat (first | apply Kd.R_alloc | apply Kd.R_drewN | apply Kd.R_drew)); exact HO_9.out) (Kd.R_base ho0) hb); have n1_ := Aside0.mk (Kd.R_lower (Kd.R_new' ho0 (Kd.R_lt (by (with_reducible repeat (first | apply Kd.R_alloc | apply Kd.R_drewN | apply Kd.R_drew)); exact HO_9.out))) (below_size (by repeat (first | (with_reducible first | exact HB.out | apply below_alloc | apply pw_below_drewN | apply below_drew1) | exact HB.out)))); have n2_ := Aside0.mk (below_step (by repeat (first | (with_reducible first | exact HB.out | apply below_alloc | apply pw_below_drewN | apply below_drew1) | exact HB.out)) hb); clear HO_9; clear HB; have HO_9 := n0_; have HO190 := n1_; have HB := n2_; clear n0_ n1_ n2_; (try clear hb); (try clear hb2); (try clear hk); (try clear hi); (try clear ho0)))
                              go_ret
                              exact ⟨by first | rfl | (simp [errW_none, errW_some] <;> rfl) | (simp [*, errW_none, errW_some] <;> rfl), by repeat (first | (with_reducible first | exact HB.out | apply below_alloc | apply pw_below_drewN | apply below_drew1) | exact HB.out)⟩
                          · rw [if_neg c58] at H
                            have c58b0 : (t188 == 15) = false := beq_eq_false_iff_ne.mpr c58
                            have c58b1 : (t188 != 15) = true := bne_iff_ne.mpr c58
                            obtain rfl := Option.some.inj H
                            go_wp2_with (first | ((with_reducible refine gate_callee (f := 9) rfl ?_); refine goesL_ (some 74) rfl rfl Tryd.func9 (by kernel_rfl) rfl #[.string t184] rfl (by (try simp only [List.map_toArray, List.map_cons, List.map_nil]); first | done | rfl | (simp only [List.length_drop, List.length_take]; rfl)) ?_; (with_reducible refine (guard_Parse.calls kj31 t184 t187 t188 _ (Tabs2.below hT (by repeat (first | (with_reducible first | exact HB.out | apply below_alloc | apply pw_below_drewN | apply below_drew1) | exact HB.out))) A40.out).mono ?_); rintro e w64 ⟨v189, rfl, ho0, hb⟩; refine ⟨_, rfl, ?_⟩; have n0_ := Aside0.mk (Kd.R_elder' (by (with_reducible repeat (first | apply Kd.R_alloc | apply Kd.R_drewN | apply Kd.R_drew)); exact HO_9.out) (Kd.R_base ho0) hb); have n1_ := Aside0.mk (Kd.R_lower (Kd.R_new' ho0 (Kd.R_lt (by (with_reducible repeat (first | apply Kd.R_alloc | apply Kd.R_drewN | apply Kd.R_drew)); exact HO_9.out))) (below_size (by repeat (first | (with_reducible first | exact HB.out | apply below_alloc | apply pw_below_drewN | apply below_drew1) | exact HB.out)))); have n2_ := Aside0.mk (below_step (by repeat (first | (with_reducible first | exact HB.out | apply below_alloc | apply pw_below_drewN | apply below_drew1) | exact HB.out)) hb); clear HO_9; clear HB; have HO_9 := n0_; have HO190 := n1_; have HB := n2_; clear n0_ n1_ n2_; (try clear hb); (try clear hb2); (try clear hk); (try clear hi); (try clear ho0)))
                            go_ret
                            exact ⟨by first | rfl | (simp [errW_none, errW_some] <;> rfl) | (simp [*, errW_none, errW_some] <;> rfl), by repeat (first | (with_reducible first | exact HB.out | apply below_alloc | apply pw_below_drewN | apply below_drew1) | exact HB.out)⟩
                · rw [if_neg c30] at H
                  have c30b0 : (t181 == 0) = false := beq_eq_false_iff_ne.mpr c30
                  have c30b1 : (t181 != 0) = true := bne_iff_ne.mpr c30
                  replace H := Option.bind_eq_some_iff.mp H
                  obtain ⟨t195, A650, H⟩ := H
                  replace H : (some t195) = some r := H
                  have A65 := Aside0.mk A650
                  clear A650
                  obtain rfl := Option.some.inj H
                  go_wp2_with (first | ((with_reducible refine gate_callee (f := 9) rfl ?_); refine goesL_ (some 55) rfl rfl Tryd.func9 (by kernel_rfl) rfl #[.string a1] rfl (by (try simp only [List.map_toArray, List.map_cons, List.map_nil]); first | done | rfl | (simp only [List.length_drop, List.length_take]; rfl)) ?_; (with_reducible refine (guard_Parse.calls kj11 a1 t180 t181 _ (Tabs2.below hT (by repeat (first | (with_reducible first | exact HB.out | apply below_alloc | apply pw_below_drewN | apply below_drew1) | exact HB.out))) A29.out).mono ?_); rintro e w66 ⟨v182, rfl, ho0, hb⟩; refine ⟨_, rfl, ?_⟩; have n0_ := Aside0.mk (Kd.R_lower ho0 (below_size (by repeat (first | (with_reducible first | exact HB.out | apply below_alloc | apply pw_below_drewN | apply below_drew1) | exact HB.out)))); have n1_ := Aside0.mk (below_step (by repeat (first | (with_reducible first | exact HB.out | apply below_alloc | apply pw_below_drewN | apply below_drew1) | exact HB.out)) hb); clear HB; have HO183 := n0_; have HB := n1_; clear n0_ n1_; (try clear hb); (try clear hb2); (try clear hk); (try clear hi); (try clear ho0)) | ((with_reducible refine gate_callee (f := 7) rfl ?_); refine goesL_ (some 96) rfl rfl Tryd.func7 (by kernel_rfl) rfl #[] rfl (by (try simp only [List.map_toArray, List.map_cons, List.map_nil]); first | done | rfl | (simp only [List.length_drop, List.length_take]; rfl)) ?_; (with_reducible refine (remontoirlaw14_wakes.calls kj11  t195 _ (Tabs2.below hT (by repeat (first | (with_reducible first | exact HB.out | apply below_alloc | apply pw_below_drewN | apply below_drew1) | exact HB.out))) A65.out).mono ?_); rintro e w67 ⟨rfl, hb⟩; refine ⟨_, rfl, ?_⟩; have n0_ := Aside0.mk (Kd.R_below (by (with_reducible repeat (first | apply Kd.R_alloc | apply Kd.R_drewN | apply Kd.R_drew)); exact HO183.out) hb); have n1_ := Aside0.mk (below_step (by repeat (first | (with_reducible first | exact HB.out | apply below_alloc | apply pw_below_drewN | apply below_drew1) | exact HB.out)) hb); clear HO183; clear HB; have HO183 := n0_; have HB := n1_; clear n0_ n1_; (try clear hb); (try clear hb2); (try clear hk); (try clear hi)))
                  go_ret
                  exact ⟨by first | rfl | (simp [errW_none, errW_some] <;> rfl) | (simp [*, errW_none, errW_some] <;> rfl), by repeat (first | (with_reducible first | exact HB.out | apply below_alloc | apply pw_below_drewN | apply below_drew1) | exact HB.out)⟩

end Go.Proofs.YtikbgoppmailjaaDoor.H
/- A sign's text; signs' texts, joined. -/
namespace Go.Proofs.YtikbgoppmailjaaDoor.Pure
open Go.RowKit Go.Proofs.YtikbgoppmailjaaDoor.H Go.Proofs.YtikbgoppmailjaaDoorW.PrintWords Go.Proofs.YtikbgoppmailjaaDoorW.PrintLast Go.Proofs.YtikbgoppmailjaaDoorW.PrintMore
set_option linter.unusedVariables false
set_option linter.unusedSimpArgs false
theorem digS_len : ∀ (f u : Nat), (digS f u).length ≤ f
  | 0, u => by simp [digS]
  | f + 1, u => by
    unfold digS
    split
    · simp
    · rw [List.length_append]
      have := digS_len f (u / 10)
      simp; omega
theorem text_size (k n : Int) : (lex_Text.t k n).size ≤ 20 := by
  unfold lex_Text.t
  split
  · rw [← data_len]
    exact digS_len 20 _
  · split
    · show 1 ≤ 20; omega
    · have := lexT_size k.toNat
      omega
/-- What signs are written as. -/
def txts (l : List S33) : List (List UInt8) := l.map fun s => (lex_Text.t s.f0 s.f1).data.toList
def goodAll (l : List S33) : Bool := l.all fun s => goodB s.f0 s.f1
def prL (l : List S33) : List UInt8 := Lib.join (txts l) [32]
def prS (l : List S33) : ByteArray × Bool := if goodAll l = true then (⟨(prL l).toArray⟩, true) else (⟨#[]⟩, false)
theorem join_snoc (sep t : List UInt8) : ∀ xs : List (List UInt8), Lib.join (xs ++ [t]) sep = if xs = [] then t else Lib.join xs sep ++ sep ++ t
  | [] => by simp [Lib.join, List.intercalate]
  | [a] => by simp [Lib.join, List.intercalate, List.intersperse]
  | a :: b :: r => by
    have ih := join_snoc sep t (b :: r)
    rw [if_neg (by simp)] at ih ⊢
    have e1 : ∀ q : List (List UInt8), Lib.join (a :: b :: q) sep = a ++ sep ++ Lib.join (b :: q) sep := fun q => by
      simp [Lib.join, List.intercalate, List.intersperse]
    show Lib.join (a :: b :: (r ++ [t])) sep = _
    rw [e1, e1]
    have ih' : Lib.join (b :: (r ++ [t])) sep = Lib.join (b :: r) sep ++ sep ++ t := ih
    rw [ih']
    simp [List.append_assoc]
theorem txts_snoc (l : List S33) (s : S33) : txts (l ++ [s]) = txts l ++ [(lex_Text.t s.f0 s.f1).data.toList] := by simp [txts]
theorem txts_nil (l : List S33) : txts l = [] ↔ l = [] := by simp [txts]
theorem prL_snoc (l : List S33) (s : S33) : prL (l ++ [s]) = if l = [] then (lex_Text.t s.f0 s.f1).data.toList else prL l ++ [32] ++ (lex_Text.t s.f0 s.f1).data.toList := by
  unfold prL
  rw [txts_snoc, join_snoc]
  by_cases h : l = []
  · rw [if_pos h, if_pos ((txts_nil l).2 h)]
  · rw [if_neg h, if_neg (fun h' => h ((txts_nil l).1 h'))]
theorem take_snoc (l : List S33) (i : Nat) (h : i < l.length) : l.take (i + 1) = l.take i ++ [l[i]] := by
  rw [List.take_add_one, List.getElem?_eq_getElem h]
  rfl
theorem prL_len (l : List S33) : ∀ i, i ≤ l.length → (prL (l.take i)).length ≤ 21 * i
  | 0, _ => by simp [prL, txts, Lib.join, List.intercalate]
  | i + 1, h => by
    rw [take_snoc l i (by omega), prL_snoc]
    have ih := prL_len l i (by omega)
    have ht := text_size l[i].f0 l[i].f1
    rw [← data_len] at ht
    split
    · omega
    · simp only [List.length_append, List.length_cons, List.length_nil]
      omega
end Go.Proofs.YtikbgoppmailjaaDoor.Pure
/- What lex.Print says of signs. -/
namespace Go.Proofs.YtikbgoppmailjaaDoor.Pure
open Go.RowKit Go.Proofs.YtikbgoppmailjaaDoor.H Go.Proofs.YtikbgoppmailjaaDoorW.PrintWords Go.Proofs.YtikbgoppmailjaaDoorW.PrintLast Go.Proofs.YtikbgoppmailjaaDoorW.PrintMore
set_option linter.unusedVariables false
set_option linter.unusedSimpArgs false
theorem rd_at (l : List S33) (i : Nat) (h : i < l.length) : rd_T33 l (i : Int) = l[i] := by
  unfold rd_T33
  rw [Int.toNat_natCast, List.getD_eq_getElem?_getD, List.getElem?_eq_getElem h]
  rfl
theorem good_take (l : List S33) (i : Nat) (h : i < l.length) (hg : goodAll (l.take i) = true) : goodAll (l.take (i + 1)) = goodB l[i].f0 l[i].f1 := by
  rw [take_snoc l i h]
  unfold goodAll at hg ⊢
  rw [List.all_append, hg]
  simp
theorem good_all_false (l : List S33) (i : Nat) (h : i < l.length) (hb : goodB l[i].f0 l[i].f1 = false) : goodAll l = false := by
  unfold goodAll
  rw [List.all_eq_false]
  exact ⟨l[i], List.getElem_mem h, by simp [hb]⟩
theorem impl_loop (l : List S33) (hl : l.length ≤ 400) : ∀ (d i k : Nat), i + d = l.length → d < k → goodAll (l.take i) = true →
    lex_Print.l0 k ((l.take i).map fun s => lex_Text.t s.f0 s.f1) l (l.length : Int) (i : Int) = some (prS l) := by
  intro d
  induction d with
  | zero =>
    intro i k hi hk hg
    obtain ⟨k, rfl⟩ : ∃ m, k = m + 1 := ⟨k - 1, by omega⟩
    simp only [lex_Print.l0]
    rw [if_neg (by omega)]
    have hti : l.take i = l := List.take_of_length_le (by omega)
    rw [hti] at hg ⊢
    have hj : Lib.join ((l.map fun s => lex_Text.t s.f0 s.f1).map (·.data.toList)) (⟨#[32]⟩ : ByteArray).data.toList = prL l := by
      unfold prL txts
      rw [List.map_map]
      rfl
    have hlen := prL_len l l.length (Nat.le_refl _)
    rw [List.take_length] at hlen
    unfold strings_Join.f
    rw [hj, if_pos ⟨by omega, by rw [List.length_map]; omega⟩]
    unfold prS
    rw [if_pos hg]
    rfl
  | succ d ih =>
    intro i k hi hk hg
    obtain ⟨k, rfl⟩ : ∃ m, k = m + 1 := ⟨k - 1, by omega⟩
    have hil : i < l.length := by omega
    simp only [lex_Print.l0]
    rw [if_pos (by omega), if_pos (by omega), if_pos (by omega), rd_at l i hil]
    unfold lex_Text.f
    simp only [Option.bind_some]
    cases hb : goodB l[i].f0 l[i].f1
    · simp only [Bool.false_eq_true, if_false]
      unfold prS
      rw [good_all_false l i hil hb]
      rfl
    · simp only [if_true]
      rw [if_pos (by rw [List.length_map, List.length_take]; omega)]
      have e1 : wrap64 ((i : Int) + 1) = ((i + 1 : Nat) : Int) := by unfold wrap64; omega
      rw [e1]
      have := ih (i + 1) k (by omega) (by omega) (by rw [good_take l i hil hg]; exact hb)
      rw [take_snoc l i hil, List.map_append] at this
      exact this
theorem impl_print (l : List S33) (hl : l.length ≤ 400) (k : Nat) (hk : 401 ≤ k) : lex_Print.f k l = some (prS l) := by
  unfold lex_Print.f
  exact impl_loop l hl l.length 0 k (by omega) (by omega) rfl
end Go.Proofs.YtikbgoppmailjaaDoor.Pure
/- What is written is read as it was; what is read can be written. -/
namespace Go.Proofs.YtikbgoppmailjaaDoor.Pure
open Go.RowKit Go.Proofs.YtikbgoppmailjaaDoor.H Go.Proofs.YtikbgoppmailjaaDoorW.PrintWords Go.Proofs.YtikbgoppmailjaaDoorW.PrintLast Go.Proofs.YtikbgoppmailjaaDoorW.PrintMore
set_option linter.unusedVariables false
set_option linter.unusedSimpArgs false
theorem u8_of (n : Nat) (h : n < 256) : (UInt8.ofNat n).toNat = n := by
  rw [UInt8.toNat_ofNat']; omega
theorem vf_snoc : ∀ (l : List UInt8) (a : Nat) (b : UInt8), vf a (l ++ [b]) = vf a l * 10 + dv b
  | [], a, b => by rw [List.nil_append, vf_cons, vf_nil, vf_nil]
  | c :: l, a, b => by rw [List.cons_append, vf_cons, vf_cons, vf_snoc l]
theorem digS_dg : ∀ (f u : Nat), ∀ b ∈ digS f u, dg b = true
  | 0, u, b, h => by simp [digS] at h
  | f + 1, u, b, h => by
    unfold digS at h
    split at h
    · obtain rfl := List.mem_singleton.1 h
      unfold dg
      rw [u8_of _ (by omega)]
      exact decide_eq_true (by omega)
    · rcases List.mem_append.1 h with h | h
      · exact digS_dg f _ b h
      · obtain rfl := List.mem_singleton.1 h
        unfold dg
        rw [u8_of _ (by omega)]
        exact decide_eq_true (by omega)
theorem digS_vf : ∀ (f u : Nat), u < 10 ^ f → 0 < f → vf 0 (digS f u) = u
  | 0, u, _, h => by omega
  | f + 1, u, hu, _ => by
    unfold digS
    split
    · rw [vf_cons, vf_nil, dv_eq, u8_of _ (by omega)]; omega
    · have hf : 0 < f := by
        rcases Nat.eq_zero_or_pos f with rfl | h1
        · simp at hu; omega
        · exact h1
      rw [vf_snoc, digS_vf f (u / 10) (by rw [Nat.pow_succ] at hu; omega) hf, dv_eq, u8_of _ (by omega)]
      omega
theorem digS_head : ∀ (f u : Nat), u < 10 ^ f → 0 < f → ∃ c t, digS f u = c :: t ∧ (u ≠ 0 → c ≠ 48)
  | 0, u, _, h => by omega
  | f + 1, u, hu, _ => by
    unfold digS
    split
    · refine ⟨_, [], rfl, fun h0 h => ?_⟩
      have := congrArg UInt8.toNat h
      rw [u8_of _ (by omega)] at this
      have h48 : (48 : UInt8).toNat = 48 := rfl
      omega
    · have hf : 0 < f := by
        rcases Nat.eq_zero_or_pos f with rfl | h1
        · simp at hu; omega
        · exact h1
      obtain ⟨c, t, e, hc⟩ := digS_head f (u / 10) (by rw [Nat.pow_succ] at hu; omega) hf
      rw [e]
      exact ⟨c, _, rfl, fun _ => hc (by omega)⟩
theorem tw_full : ∀ (l : List UInt8), (∀ b ∈ l, dg b = true) → l.takeWhile dg = l
  | [], _ => rfl
  | a :: l, h => by rw [List.takeWhile_cons, if_pos (h a (by simp)), tw_full l (fun b hb => h b (by simp [hb]))]
/-- The digits of a number: it, or too great. -/
theorem lexF_digs (u : Nat) (f : Nat) (hf : 0 < f) (hu : u < 10 ^ f) (x : List S33) : lexF (digS f u) x = if 2147483647 < u then some ([], 3) else some (x ++ [(⟨1, (u : Int)⟩ : S33)], 0) := by
  obtain ⟨c, t, e, hc⟩ := digS_head f u hu hf
  have hall := digS_dg f u
  have hv := digS_vf f u hu hf
  rw [e] at hall hv ⊢
  rw [lexF_num c t x (hall c (by simp)), tw_full _ hall, hv]
  rw [if_neg]
  · rw [List.drop_length]
    rfl
  · rintro ⟨rfl, hl⟩
    by_cases h0 : u = 0
    · subst h0
      have : digS f 0 = [48] := by
        obtain ⟨f, rfl⟩ : ∃ m, f = m + 1 := ⟨f - 1, by omega⟩
        unfold digS
        rfl
      rw [this] at e
      have := (List.cons.inj e).2
      rw [← this] at hl
      simp at hl
    · exact hc h0 rfl
theorem lexF_symtext (i : Nat) (h1 : 3 ≤ i) (h2 : i ≤ 18) : lexF (lexT.getD i ⟨#[]⟩).data.toList [] = some ([(⟨(i : Int), 0⟩ : S33)], 0) := by
  rcases (by omega : i = 3 ∨ i = 4 ∨ i = 5 ∨ i = 6 ∨ i = 7 ∨ i = 8 ∨ i = 9 ∨ i = 10 ∨ i = 11 ∨ i = 12 ∨ i = 13 ∨ i = 14 ∨ i = 15 ∨ i = 16 ∨ i = 17 ∨ i = 18) with rfl | rfl | rfl | rfl | rfl | rfl | rfl | rfl | rfl | rfl | rfl | rfl | rfl | rfl | rfl | rfl
  all_goals kernel_rfl
/-- One sign's text is read as that sign. -/
theorem lexF_text (k n : Int) (hg : goodB k n = true) (x : List S33) : lexF (lex_Text.t k n).data.toList x = some (x ++ [(⟨k, n⟩ : S33)], 0) := by
  unfold goodB at hg
  unfold lex_Text.t
  by_cases h1 : k = 1
  · subst h1
    rw [if_pos rfl] at hg ⊢
    have hn := of_decide_eq_true hg
    obtain ⟨u, rfl⟩ : ∃ u : Nat, n = (u : Int) := ⟨n.toNat, by omega⟩
    have e20 : (10 : Nat) ^ 20 = 100000000000000000000 := by decide
    show lexF (digS 20 (u : Int).toNat) x = _
    rw [Int.toNat_natCast, lexF_digs u 20 (by omega) (by rw [e20]; omega), if_neg (by omega)]
  · rw [if_neg h1] at hg ⊢
    by_cases h2 : k = 2
    · subst h2
      rw [if_pos rfl] at hg ⊢
      have hn := of_decide_eq_true hg
      show lexF [UInt8.ofNat (97 + n).toNat] x = _
      have hb : (UInt8.ofNat (97 + n).toNat).toNat = (97 + n).toNat := u8_of _ (by omega)
      rw [lexF_low _ _ _ (by unfold lw; rw [hb]; exact decide_eq_true (by omega)), hb]
      have e : ((97 + n).toNat : Int) - 97 = n := by omega
      rw [e]
      rfl
    · rw [if_neg h2] at hg ⊢
      obtain ⟨hk, hn⟩ := (Bool.and_eq_true _ _).mp hg
      have hk := of_decide_eq_true hk
      obtain rfl : n = 0 := eq_of_beq hn
      obtain ⟨i, rfl⟩ : ∃ i : Nat, k = (i : Int) := ⟨k.toNat, by omega⟩
      rw [Int.toNat_natCast]
      have h := lexF_symtext i (by omega) (by omega)
      rcases lex_acc _ (lexT.getD i ⟨#[]⟩).data.toList x (Nat.le_refl _) with ⟨y, h3, h4⟩ | ⟨e, he, h3, _⟩
      · rw [h] at h3
        obtain ⟨rfl, -⟩ := Prod.mk.inj (Option.some.inj h3)
        exact h4
      · rw [h] at h3
        exact absurd (Prod.mk.inj (Option.some.inj h3)).2.symm he
theorem lexF_prL (l : List S33) (hg : goodAll l = true) : ∀ i, i ≤ l.length → lexF (prL (l.take i)) [] = some (l.take i, 0)
  | 0, _ => rfl
  | i + 1, h => by
    have ih := lexF_prL l hg i (by omega)
    have hgi : goodB l[i].f0 l[i].f1 = true := by
      unfold goodAll at hg
      exact List.all_eq_true.1 hg _ (List.getElem_mem _)
    rw [take_snoc l i (by omega), prL_snoc]
    split
    · rename_i h0
      rw [h0, lexF_text _ _ hgi]
    · rw [List.append_assoc]
      rcases lex_app 32 (lex_Text.t l[i].f0 l[i].f1).data.toList sep_blank _ (prL (l.take i)) [] (Nat.le_refl _) with ⟨y, h1, h2⟩ | ⟨e, he, h1, _⟩
      · rw [ih] at h1
        obtain ⟨rfl, -⟩ := Prod.mk.inj (Option.some.inj h1)
        show lexF (prL (l.take i) ++ 32 :: (lex_Text.t l[i].f0 l[i].f1).data.toList) [] = _
        rw [h2, lexF_blank, lexF_text _ _ hgi]
      · rw [ih] at h1
        exact absurd (Prod.mk.inj (Option.some.inj h1)).2.symm he
/-- What is written is read as it was. -/
theorem lex_of_print (l : List S33) (hg : goodAll l = true) (h60 : (prL l).length ≤ 60) : lex_Lex.f ⟨(prL l).toArray⟩ = some (l, 0) := by
  have hs : (⟨(prL l).toArray⟩ : ByteArray).size = (prL l).length := by rw [← data_len]
  rw [lex_list, if_neg (by rw [hs]; omega)]
  have := lexF_prL l hg l.length (Nat.le_refl _)
  rw [List.take_length] at this
  exact this
end Go.Proofs.YtikbgoppmailjaaDoor.Pure
/- What guard.Parse says of a text. -/
namespace Go.Proofs.YtikbgoppmailjaaDoor.Pure
open Go.RowKit Go.Proofs.YtikbgoppmailjaaDoor.H Go.Proofs.YtikbgoppmailjaaDoorW.PrintWords Go.Proofs.YtikbgoppmailjaaDoorW.PrintLast Go.Proofs.YtikbgoppmailjaaDoorW.PrintMore
set_option linter.unusedVariables false
set_option linter.unusedSimpArgs false
theorem gx_size {l : List UInt8} {o : List S33} (h : Gx l o) : o.length ≤ l.length := by
  obtain ⟨x, hx, k, hk⟩ := h
  obtain ⟨k2, r, h1, h2⟩ := PF_total _ x.length 0 (x, []) rfl (by omega) rfl trivial
  have e1 := PF_mono (Nat.le_max_left k k2) hk
  have e2 := PF_mono (Nat.le_max_right k k2) h1
  rw [e1] at e2
  obtain rfl := Option.some.inj e2
  have := (h2 _ rfl).2
  have hl := hx.len
  simp only [List.length_nil] at this
  omega
theorem parse_gx {s : ByteArray} {o : List S33} (hs : s.size ≤ 60) (h : Gx s.data.toList o) : ∃ K, ∀ k, K ≤ k → guard_Parse.f k s = some (o, 0) := by
  obtain ⟨x, hx, k, hk⟩ := h
  refine ⟨k, fun k' hk' => ?_⟩
  unfold guard_Parse.f
  rw [lex_list, if_neg (by omega)]
  have e : lexF s.data.toList [] = some (x, 0) := hx
  rw [e]
  simp only [Option.bind_some, if_true]
  rw [PF_mono hk' hk]
  rfl
/-- Signs that the reader gives up at, or of which some are left. -/
def Ungood (x : List S33) : Prop := ∃ k r, PF k 0 (x, []) = some r ∧ ∀ o, r ≠ some ([], o)
theorem parse_bad {s : ByteArray} {x : List S33} (hs : s.size ≤ 60) (hx : Lx s.data.toList x) (h : Ungood x) : ∃ K, ∀ k, K ≤ k → guard_Parse.f k s = some ([], 2) := by
  obtain ⟨k, r, hk, hr⟩ := h
  refine ⟨k, fun k' hk' => ?_⟩
  unfold guard_Parse.f
  rw [lex_list, if_neg (by omega)]
  have e : lexF s.data.toList [] = some (x, 0) := hx
  rw [e]
  simp only [Option.bind_some, if_true]
  rw [PF_mono hk' hk]
  cases r with
  | none => rfl
  | some st =>
    obtain ⟨l, o⟩ := st
    cases l with
    | nil => exact absurd rfl (hr o)
    | cons a l => rfl
/-- Of any text: a guard, and how it lies behind; or an error. -/
theorem parse_any (s : ByteArray) : (s.size ≤ 60 ∧ ∃ o, Gx s.data.toList o ∧ o.length ≤ 60 ∧ ∃ K, ∀ k, K ≤ k → guard_Parse.f k s = some (o, 0)) ∨ (∃ e : Int, e ≠ 0 ∧ ∃ K, ∀ k, K ≤ k → guard_Parse.f k s = some ([], e)) := by
  by_cases hs : s.size ≤ 60
  · obtain ⟨y, e, hl⟩ := lexF_some _ s.data.toList [] (Nat.le_refl _)
    by_cases he : e = 0
    · subst he
      obtain ⟨k, r, h1, h2⟩ := PF_total _ y.length 0 (y, []) rfl (by omega) rfl trivial
      by_cases hg : ∃ o, r = some ([], o)
      · obtain ⟨o, rfl⟩ := hg
        have hgx : Gx s.data.toList o := ⟨y, hl, k, h1⟩
        have hlen := gx_size hgx
        have hdl : s.data.toList.length = s.size := by rw [Array.length_toList]; rfl
        exact .inl ⟨hs, o, hgx, by omega, parse_gx hs hgx⟩
      · exact .inr ⟨2, by decide, parse_bad hs hl ⟨k, r, h1, fun o q => hg ⟨o, q⟩⟩⟩
    · refine .inr ⟨e, he, 0, fun k _ => ?_⟩
      unfold guard_Parse.f
      rw [lex_list, if_neg (by omega), hl]
      simp only [Option.bind_some]
      rw [if_neg he]
  · refine .inr ⟨15, by decide, 0, fun k _ => ?_⟩
    unfold guard_Parse.f
    rw [lex_list, if_pos (by omega)]
    rfl
end Go.Proofs.YtikbgoppmailjaaDoor.Pure
/- What guard.Print says of signs; what guard.Parse says of that. -/
namespace Go.Proofs.YtikbgoppmailjaaDoor.Pure
open Go.RowKit Go.Proofs.YtikbgoppmailjaaDoor.H Go.Proofs.YtikbgoppmailjaaDoorW.PrintWords Go.Proofs.YtikbgoppmailjaaDoorW.PrintLast Go.Proofs.YtikbgoppmailjaaDoorW.PrintMore
set_option linter.unusedVariables false
set_option linter.unusedSimpArgs false
theorem good_app (x y : List S33) : goodAll (x ++ y) = (goodAll x && goodAll y) := by unfold goodAll; exact List.all_append
theorem good_one (k n : Int) : goodAll [⟨k, n⟩] = goodB k n := by unfold goodAll; simp
theorem good_cons (s : S33) (x : List S33) : goodAll (s :: x) = (goodB s.f0 s.f1 && goodAll x) := by unfold goodAll; exact List.all_cons
theorem good_sym (k : Int) (h : 3 ≤ k ∧ k ≤ 18) : goodB k 0 = true := by
  unfold goodB
  rw [if_neg (by omega), if_neg (by omega), decide_eq_true h]
  rfl
theorem good_wr (of kind : Int) (sec : Bool) (x : List S33) (h : goodAll x = true) : goodAll (wr of kind sec x) = true := by
  unfold wr
  split
  · exact h
  · rename_i q
    have hv : brk of kind sec = (15, 16) ∨ brk of kind sec = (17, 18) := by
      revert q
      unfold brk
      split
      · exact fun _ => .inl rfl
      · split
        · exact fun _ => .inr rfl
        · exact fun q => absurd rfl q
    rcases hv with e | e
    · rw [e, good_cons, good_app, h, good_one]; rfl
    · rw [e, good_cons, good_app, h, good_one]; rfl
theorem sh_good {b : Bool} {t : Tr} (h : Wf b t) : goodAll t.sh = true := by
  have two : ∀ (k : Int) (a c : Tr), (3 ≤ k ∧ k ≤ 13) → goodAll a.sh = true → goodAll c.sh = true → goodAll (Tr.bi k a c).sh = true := by
    intro k a c hk ha hc
    simp only [Tr.sh]
    rw [good_app, good_cons, good_wr _ _ _ _ ha, good_wr _ _ _ _ hc, good_sym k (by omega)]
    rfl
  induction h with
  | num n h0 h1 =>
    simp only [Tr.sh]
    rw [good_one]
    unfold goodB
    rw [if_pos rfl]
    exact decide_eq_true ⟨h0, h1⟩
  | name n h0 h1 =>
    simp only [Tr.sh]
    rw [good_one]
    unfold goodB
    rw [if_neg (by decide), if_pos rfl]
    exact decide_eq_true ⟨h0, by omega⟩
  | neg _ ih =>
    simp only [Tr.sh, if_true]
    rw [good_cons, good_wr _ _ _ _ ih]
    rfl
  | op k h3 h5 _ _ i1 i2 => exact two k _ _ (by omega) i1 i2
  | cmp k h3 h5 _ _ i1 i2 => exact two k _ _ (by omega) i1 i2
  | con k hk _ _ i1 i2 => exact two k _ _ (by omega) i1 i2
  | nt _ ih =>
    simp only [Tr.sh]
    rw [good_cons, good_wr _ _ _ _ ih, if_neg (by decide)]
    rfl
theorem print_any (l : List S33) (hl : l.length ≤ 60) : (goS l [] = true ∧ ∃ t, Wf true t ∧ t.post = l ∧ shOf l = t.sh ∧ goodAll t.sh = true ∧ Guard t.sh l ∧ t.sh.length ≤ 180 ∧ ∀ k, 401 ≤ k → guard_Print.f k l = some (⟨(prL t.sh).toArray⟩, true)) ∨ (goS l [] = false ∧ ∀ k, guard_Print.f k l = some (⟨#[]⟩, false)) := by
  cases hg : goS l [] with
  | true =>
    obtain ⟨t, e1, wt, e3⟩ := tree_whole hg
    have hs := shOf_tree e1
    have hgood := sh_good wt
    have hlen := sh_len wt
    rw [e3] at hlen
    have hguard := show_guard wt
    rw [e3] at hguard
    refine .inl ⟨rfl, t, wt, e3, hs, hgood, hguard, by omega, fun k hk => ?_⟩
    unfold guard_Print.f
    rw [if_pos (by omega), if_pos hg, hs, impl_print t.sh (by omega) k hk]
    unfold prS
    rw [if_pos hgood]
  | false =>
    refine .inr ⟨rfl, fun k => ?_⟩
    unfold guard_Print.f
    rw [if_pos (by omega), hg, if_neg (by decide)]
theorem parse_back {l sh : List S33} (hgood : goodAll sh = true) (hg : Guard sh l) (h60 : (prL sh).length ≤ 60) : ∃ K, ∀ k, K ≤ k → guard_Parse.f k ⟨(prL sh).toArray⟩ = some (l, 0) := by
  obtain ⟨k, hk⟩ := hg
  refine ⟨k, fun k' hk' => ?_⟩
  unfold guard_Parse.f
  rw [lex_of_print sh hgood h60]
  simp only [Option.bind_some, if_true]
  rw [PF_mono hk' hk]
  rfl
theorem parse_long {s : ByteArray} (h : 60 < s.size) (k : Nat) : guard_Parse.f k s = some ([], 15) := by
  unfold guard_Parse.f
  rw [lex_list, if_pos (by omega)]
  rfl
theorem post_good {o : List S33} (h : Post true o) : goS o [] = true := by
  have := goS_post h [] []
  rw [List.append_nil] at this
  rw [this]
  rfl
end Go.Proofs.YtikbgoppmailjaaDoor.Pure
/- Two rows of signs that are one; the loop's fuel. -/
namespace Go.Proofs.YtikbgoppmailjaaDoor.Pure
open Go.RowKit Go.Proofs.YtikbgoppmailjaaDoor.H Go.Proofs.YtikbgoppmailjaaDoorW.PrintWords Go.Proofs.YtikbgoppmailjaaDoorW.PrintLast
set_option linter.unusedVariables false
set_option linter.unusedSimpArgs false
theorem signs_loop (l : List S33) (hl : l.length ≤ 4611686018427387904) : ∀ (d k : Nat) (i : Nat), i + d = l.length → d < k → remontoirkeep_Signs.l0 k l l (i : Int) = some true := by
  intro d
  induction d with
  | zero =>
    intro k i h hk
    obtain ⟨k, rfl⟩ : ∃ m, k = m + 1 := ⟨k - 1, by omega⟩
    simp only [remontoirkeep_Signs.l0]
    rw [if_neg (by omega)]
  | succ d ih =>
    intro k i h hk
    obtain ⟨k, rfl⟩ : ∃ m, k = m + 1 := ⟨k - 1, by omega⟩
    simp only [remontoirkeep_Signs.l0]
    rw [if_pos (by omega), if_pos (by omega), if_pos (by omega), if_neg (by simp)]
    have e : wrap64 ((i : Int) + 1) = ((i + 1 : Nat) : Int) := by unfold wrap64; omega
    rw [e]
    exact ih k (i + 1) (by omega) (by omega)
theorem signs_same (l : List S33) (hl : l.length ≤ 4611686018427387904) (k : Nat) (hk : l.length < k) : remontoirkeep_Signs.f k l l = some true := by
  unfold remontoirkeep_Signs.f
  rw [if_pos rfl]
  exact signs_loop l hl l.length k 0 (by omega) hk
end Go.Proofs.YtikbgoppmailjaaDoor.Pure
/- The examples of chapter 14. -/
namespace Go.Proofs.YtikbgoppmailjaaDoor.Pure
open Go.RowKit Go.Proofs.YtikbgoppmailjaaDoor.H Go.Proofs.YtikbgoppmailjaaDoorW.PrintWords Go.Proofs.YtikbgoppmailjaaDoorW.PrintLast
theorem wakes14_50 : remontoirlaw14_wakes.f 50 = some true := by kernel_rfl
theorem wakes14 (k : Nat) (hk : 50 ≤ k) : remontoirlaw14_wakes.f k = some true := at_rounds (remontoirlaw14_wakes.mono) hk wakes14_50
end Go.Proofs.YtikbgoppmailjaaDoor.Pure
/- GuardBack: of at most 60 signs and a text of at most 300 bytes: what Print writes within 60 bytes is read by Parse as the same signs, which are Good; what Parse reads is Good, Print writes it, and Parse reads that as the same signs, or it is longer than 60 bytes. -/
namespace Go.Proofs.YtikbgoppmailjaaDoor.Pure
open Go.RowKit Go.Proofs.YtikbgoppmailjaaDoor.H Go.Proofs.YtikbgoppmailjaaDoorW.PrintWords Go.Proofs.YtikbgoppmailjaaDoorW.PrintLast Go.Proofs.YtikbgoppmailjaaDoorW.PrintMore
set_option linter.unusedVariables false
set_option linter.unusedSimpArgs false
theorem back14_j2 (s : ByteArray) : ∃ K, ∀ k, K ≤ k → remontoirlaw14_GuardBack.j2 k s = some true := by
  rcases parse_any s with ⟨hs, o, gx, hl, K0, p0⟩ | ⟨e, he, K0, p0⟩
  · have hgood := post_good gx.post
    rcases print_any o hl with ⟨_, t, wt, _, _, hgd, hgu, _, hp⟩ | ⟨hf, _⟩
    · have hsz : (⟨(prL t.sh).toArray⟩ : ByteArray).size = (prL t.sh).length := by rw [← data_len]
      have hG := good_goS o (by omega)
      by_cases h60 : (prL t.sh).length ≤ 60
      · obtain ⟨K1, p1⟩ := parse_back hgd hgu h60
        refine ⟨K0 + K1 + 500, fun k hk => ?_⟩
        obtain ⟨k, rfl⟩ : ∃ m, k = m + 2 := ⟨k - 2, by omega⟩
        simp only [remontoirlaw14_GuardBack.j2]
        rw [p0 _ (by omega)]
        simp only [Option.bind_some, if_true]
        rw [hp _ (by omega)]
        simp only [Option.bind_some, if_true]
        rw [hG _ (by omega), hgood]
        simp only [Option.bind_some, Bool.not_true]
        simp only [remontoirlaw14_GuardBack.j3, Bool.false_eq_true, if_false]
        rw [p1 _ (by omega)]
        simp only [Option.bind_some, if_true]
        rw [signs_same o (by omega) _ (by omega)]
        simp only [Option.bind_some, if_true]
        rw [wakes14 _ (by omega)]
        rfl
      · refine ⟨K0 + 500, fun k hk => ?_⟩
        obtain ⟨k, rfl⟩ : ∃ m, k = m + 2 := ⟨k - 2, by omega⟩
        simp only [remontoirlaw14_GuardBack.j2]
        rw [p0 _ (by omega)]
        simp only [Option.bind_some, if_true]
        rw [hp _ (by omega)]
        simp only [Option.bind_some, if_true]
        rw [hG _ (by omega), hgood]
        simp only [Option.bind_some, Bool.not_true]
        simp only [remontoirlaw14_GuardBack.j3, Bool.false_eq_true, if_false]
        rw [parse_long (by rw [hsz]; omega)]
        simp only [Option.bind_some]
        rw [if_neg (by decide), if_pos trivial, if_pos (by rw [hsz]; omega), wakes14 _ (by omega)]
        rfl
    · rw [hgood] at hf
      cases hf
  · refine ⟨K0 + 500, fun k hk => ?_⟩
    obtain ⟨k, rfl⟩ : ∃ m, k = m + 1 := ⟨k - 1, by omega⟩
    simp only [remontoirlaw14_GuardBack.j2]
    rw [p0 _ (by omega)]
    simp only [Option.bind_some]
    rw [if_neg he, wakes14 _ (by omega)]
    rfl
theorem GuardBack (l : List S33) (s : ByteArray) (_ : l.length ≤ maxLen) (_ : ∀ x ∈ l, (Lit.int .i64 x.f0).wf = true ∧ (Lit.int .i64 x.f1).wf = true) (_ : s.size ≤ 140737488351232) : ∃ k, remontoirlaw14_GuardBack.f k l s = some true := by
  obtain ⟨K2, h2⟩ := back14_j2 s
  have ht : ∀ k, 51 ≤ k → remontoirlaw14_GuardBack.j0 k l s true = some true := by
    intro k hk
    obtain ⟨k, rfl⟩ : ∃ m, k = m + 1 := ⟨k - 1, by omega⟩
    simp only [remontoirlaw14_GuardBack.j0, if_true]
    rw [wakes14 _ (by omega)]
    rfl
  by_cases h1 : (s.size : Int) > 300
  · refine ⟨51, ?_⟩
    unfold remontoirlaw14_GuardBack.f
    rw [if_pos h1]
    exact ht 51 (by omega)
  · by_cases h3 : (l.length : Int) > 60
    · refine ⟨51, ?_⟩
      unfold remontoirlaw14_GuardBack.f
      rw [if_neg h1, decide_eq_true h3]
      exact ht 51 (by omega)
    · have hl : l.length ≤ 60 := by omega
      rcases print_any l hl with ⟨hgood, t, wt, _, _, hgd, hgu, _, hp⟩ | ⟨hf, hp⟩
      · have hsz : (⟨(prL t.sh).toArray⟩ : ByteArray).size = (prL t.sh).length := by rw [← data_len]
        have hG := good_goS l (by omega)
        by_cases h60 : (prL t.sh).length ≤ 60
        · obtain ⟨K1, p1⟩ := parse_back hgd hgu h60
          refine ⟨K1 + K2 + 500 + 2, ?_⟩
          unfold remontoirlaw14_GuardBack.f
          rw [if_neg h1, decide_eq_false h3]
          simp only [remontoirlaw14_GuardBack.j0, Bool.false_eq_true, if_false]
          rw [hp _ (by omega)]
          simp only [Option.bind_some, if_true]
          rw [decide_eq_true (by rw [hsz]; omega)]
          simp only [remontoirlaw14_GuardBack.j1, if_true]
          rw [p1 _ (by omega)]
          simp only [Option.bind_some, if_true]
          rw [signs_same l (by omega) _ (by omega)]
          simp only [Option.bind_some, if_true]
          rw [hG _ (by omega), hgood]
          simp only [Option.bind_some, if_true]
          exact h2 _ (by omega)
        · refine ⟨K2 + 500 + 2, ?_⟩
          unfold remontoirlaw14_GuardBack.f
          rw [if_neg h1, decide_eq_false h3]
          simp only [remontoirlaw14_GuardBack.j0, Bool.false_eq_true, if_false]
          rw [hp _ (by omega)]
          simp only [Option.bind_some, if_true]
          rw [decide_eq_false (by rw [hsz]; omega)]
          simp only [remontoirlaw14_GuardBack.j1, Bool.false_eq_true, if_false]
          exact h2 _ (by omega)
      · refine ⟨K2 + 500 + 2, ?_⟩
        unfold remontoirlaw14_GuardBack.f
        rw [if_neg h1, decide_eq_false h3]
        simp only [remontoirlaw14_GuardBack.j0, Bool.false_eq_true, if_false]
        rw [hp]
        simp only [Option.bind_some, Bool.false_eq_true, if_false]
        simp only [remontoirlaw14_GuardBack.j1, Bool.false_eq_true, if_false]
        exact h2 _ (by omega)
end Go.Proofs.YtikbgoppmailjaaDoor.Pure
/- What the laid variables of a Guard row give: the power table and guard's own error. -/
namespace Go.Proofs.YtikbgoppmailjaaDoor.H
open Go.RowKit
theorem star_eq : "*" ++ "errors.errorString" = "*errors.errorString" := by decide
theorem tabs2_of {W : World} (h : laidMetH Tryd.prog Rows.guardJoinsRow.laid W) : Tabs2 W := by
  rw [MakeChecks.laidMetH_plain _ _ _ (by kernel_rfl)] at h
  have h1 : laidMet Tryd.prog ((_, Lib.tabData .u64 Lib.pow10Tab) :: _) W := laidMet.tail (laidMet.tail h)
  have h2 : laidMet Tryd.prog (("remontoir/guard.wrong", .iface "*errors.errorString" (.ptr (.agg [.lit (.string _)]))) :: _) W := laidMet.tail (laidMet.tail (laidMet.tail (laidMet.tail (laidMet.tail (laidMet.tail h)))))
  have ht : Tabs W := ⟨Lib.tabIs_of_head tabs_glob (by kernel_rfl) (n := 20) (t := 138) (e := 63) (by kernel_rfl) (by kernel_rfl) (by kernel_rfl) (by kernel_rfl) h1⟩
  obtain ⟨a, s, hv, _⟩ := laid_sentinel (g := 0) (ti := 58) (tp := 134) (te := 136) (ts := 9) h2 (by kernel_rfl) (by kernel_rfl) Tryd.underlying58 (by
    intro u hu
    exact typeName_ptr_named (nm := "errors.errorString") (by rw [star_eq]; kernel_rfl) (by kernel_rfl) (by decide) u (by rw [star_eq]; exact hu)) Tryd.underlying134 Tryd.underlying136 rfl rfl (by kernel_rfl) (by kernel_rfl) (by kernel_rfl)
  exact ⟨ht, _, _, World.var?_cell (by kernel_rfl) hv 0⟩
end Go.Proofs.YtikbgoppmailjaaDoor.H
