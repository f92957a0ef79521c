/- Parts of the proof of LawOrdersTell: words, contracts of the functions, plain laws. -/
import Derived.Test.YtdfkbiffdcfnpaaGreatDoorDA02
import Derived.Test.YtdfkbiffdcfnpaaGreatDoorDA05
-- Written by hp.py (a program of this session, over the kit's print.py), with hand-made contracts beside it.
namespace Go.Proofs.YtdfkbiffdcfnpaaGreatDoor.H
open Go.RowKit Go.Proofs.YtdfkbiffdcfnpaaGreatDoorW.PrintWords Go.Proofs.YtdfkbiffdcfnpaaGreatDoorW.PrintLast Go.Proofs.YtdfkbiffdcfnpaaGreatDoorW.PrintMore
attribute [local go_sem] max2_int min2_int max_two min_two max_three min_three max_four min_four   -- for this text's walks alone
set_option linter.unusedVariables false
set_option linter.unusedSimpArgs false

/-! ### remontoirref02_Parse: function 119 -/
mutual
def remontoirref02_Parse.j0 : Nat → ByteArray → Bool → Option (Int × Int)
  | 0, _, _ => none
  | k + 1, x0, x22 => if x22 = true then (some (0, 2)) else ((remontoirref02_number.f k x0 1).bind fun bt197 => (if bt197.2.2 = true then (remontoirref02_Parse.j1 k x0 1 0 bt197.1 bt197.2.1 (decide (bt197.2.1 < (x0.size : Int)))) else (remontoirref02_Parse.j1 k x0 1 0 bt197.1 bt197.2.1 false)))
def remontoirref02_Parse.j1 : Nat → ByteArray → Int → Int → Int → Int → Bool → Option (Int × Int)
  | 0, _, _, _, _, _, _ => none
  | k + 1, x0, x4, x5, x6, x7, x35 => if x35 = true then (if 0 ≤ x7 then (if x7 < (x0.size : Int) then (if (bt x0 x7) = 89 then (remontoirref02_Parse.j2 k x0 x6 x7 (bt x0 x7) ((bt x0 x7) == 89)) else (remontoirref02_Parse.j2 k x0 x6 x7 (bt x0 x7) ((bt x0 x7) == 77))) else (none)) else (none)) else (remontoirref02_Parse.j3 k x0 x4 x5)
def remontoirref02_Parse.j3 : Nat → ByteArray → Int → Int → Option (Int × Int)
  | 0, _, _, _ => none
  | k + 1, x0, x4, x5 => if x4 < (x0.size : Int) then (if 0 ≤ x4 then (if (bt x0 x4) = 84 then (remontoirref02_Parse.l0 k x0 (wrap64 (x4 + 1)) x5 false (([3600, 60, 1] : List Int)) 0) else (some (0, 2))) else (none)) else (if x5 > 1125899906842624 then (some (0, 3)) else (some (x5, 0)))
def remontoirref02_Parse.l0 : Nat → ByteArray → Int → Int → Bool → List Int → Int → Option (Int × Int)
  | 0, _, _, _, _, _, _ => none
  | k + 1, x0, x4, x5, x9, x10, x11 => if x11 < 3 then ((remontoirref02_number.f k x0 x4).bind fun bt205 => (if bt205.2.2 = true then (if bt205.2.1 < (x0.size : Int) then (if 0 ≤ bt205.2.1 then (if 0 ≤ x11 then (if (bt x0 bt205.2.1) = (bt (⟨#[72, 77, 83]⟩ : ByteArray) x11) then (if x11 < (x10.length : Int) then ((remontoirref02_add.f x5 bt205.1 (rd x10 x11)).bind fun t209 => (remontoirref02_Parse.l0 k x0 (wrap64 (bt205.2.1 + 1)) t209 true x10 (wrap64 (x11 + 1)))) else (none)) else (remontoirref02_Parse.l0 k x0 x4 x5 x9 x10 (wrap64 (x11 + 1)))) else (none)) else (none)) else (remontoirref02_Parse.l0 k x0 x4 x5 x9 x10 (wrap64 (x11 + 1)))) else (remontoirref02_Parse.l0 k x0 x4 x5 x9 x10 (wrap64 (x11 + 1))))) else (if x9 = true then (remontoirref02_Parse.j5 k x5 (x4 != (x0.size : Int))) else (remontoirref02_Parse.j5 k x5 true))
def remontoirref02_Parse.j5 : Nat → Int → Bool → Option (Int × Int)
  | 0, _, _ => none
  | k + 1, x5, x111 => if x111 = true then (some (0, 2)) else (if x5 > 1125899906842624 then (some (0, 3)) else (some (x5, 0)))
def remontoirref02_Parse.j2 : Nat → ByteArray → Int → Int → Int → Bool → Option (Int × Int)
  | 0, _, _, _, _, _ => none
  | k + 1, x0, x6, x7, x38, x39 => if x39 = true then (some (0, 4)) else (if x38 = 87 then ((remontoirref02_add.f 0 x6 604800).bind fun t200 => (if (wrap64 (x7 + 1)) = (x0.size : Int) then (remontoirref02_Parse.j3 k x0 (wrap64 (x7 + 1)) t200) else (some (0, 2)))) else (if x38 = 68 then ((remontoirref02_add.f 0 x6 86400).bind fun t201 => (remontoirref02_Parse.j3 k x0 (wrap64 (x7 + 1)) t201)) else (some (0, 2))))
end
def remontoirref02_Parse.f (k : Nat) (a0 : ByteArray) : Option (Int × Int) := if (a0.size : Int) < 2 then (remontoirref02_Parse.j0 k a0 true) else (if 0 < (a0.size : Int) then (remontoirref02_Parse.j0 k a0 ((bt a0 0) != 80)) else (none))
theorem remontoirref02_Parse.mono_l : ∀ k, (∀ y0 y1, LeO (remontoirref02_Parse.j0 k y0 y1) (remontoirref02_Parse.j0 (k + 1) y0 y1)) ∧ (∀ y0 y1 y2 y3 y4 y5, LeO (remontoirref02_Parse.j1 k y0 y1 y2 y3 y4 y5) (remontoirref02_Parse.j1 (k + 1) y0 y1 y2 y3 y4 y5)) ∧ (∀ y0 y1 y2, LeO (remontoirref02_Parse.j3 k y0 y1 y2) (remontoirref02_Parse.j3 (k + 1) y0 y1 y2)) ∧ (∀ y0 y1 y2 y3 y4 y5, LeO (remontoirref02_Parse.l0 k y0 y1 y2 y3 y4 y5) (remontoirref02_Parse.l0 (k + 1) y0 y1 y2 y3 y4 y5)) ∧ (∀ y0 y1, LeO (remontoirref02_Parse.j5 k y0 y1) (remontoirref02_Parse.j5 (k + 1) y0 y1)) ∧ (∀ y0 y1 y2 y3 y4, LeO (remontoirref02_Parse.j2 k y0 y1 y2 y3 y4) (remontoirref02_Parse.j2 (k + 1) y0 y1 y2 y3 y4))
 | 0 => ⟨fun _ _ r h => by simp [remontoirref02_Parse.j0] at h, fun _ _ _ _ _ _ r h => by simp [remontoirref02_Parse.j1] at h, fun _ _ _ r h => by simp [remontoirref02_Parse.j3] at h, fun _ _ _ _ _ _ r h => by simp [remontoirref02_Parse.l0] at h, fun _ _ r h => by simp [remontoirref02_Parse.j5] at h, fun _ _ _ _ _ r h => by simp [remontoirref02_Parse.j2] at h⟩
 | k + 1 => by
  obtain ⟨ih0, ih1, ih2, ih3, ih4, ih5⟩ := remontoirref02_Parse.mono_l k
  refine ⟨?_, ?_, ?_, ?_, ?_, ?_⟩
  ·intro y0 y1
   unfold remontoirref02_Parse.j0
   repeat' first
   | (with_reducible exact ih0 _ _)
   | (with_reducible exact ih1 _ _ _ _ _ _)
   | (with_reducible exact ih2 _ _ _)
   | (with_reducible exact ih3 _ _ _ _ _ _)
   | (with_reducible exact ih4 _ _)
   | (with_reducible exact ih5 _ _ _ _ _)
   | (with_reducible exact remontoirref02_number.mono _ _ _)
   | (with_reducible exact LeO.refl _)
   | (with_reducible exact LeO.none _)
   | (with_reducible refine LeO.ite ?_ ?_)
   | (with_reducible refine LeO.bind ?_ (fun _ => ?_))
   | exact ih0 _ _
   | exact ih1 _ _ _ _ _ _
   | exact ih2 _ _ _
   | exact ih3 _ _ _ _ _ _
   | exact ih4 _ _
   | exact ih5 _ _ _ _ _
   | exact remontoirref02_number.mono _ _ _
   | exact LeO.none _
   | refine LeO.ite ?_ ?_
   | refine LeO.bind ?_ (fun _ => ?_)
  ·intro y0 y1 y2 y3 y4 y5
   unfold remontoirref02_Parse.j1
   repeat' first
   | (with_reducible exact ih0 _ _)
   | (with_reducible exact ih1 _ _ _ _ _ _)
   | (with_reducible exact ih2 _ _ _)
   | (with_reducible exact ih3 _ _ _ _ _ _)
   | (with_reducible exact ih4 _ _)
   | (with_reducible exact ih5 _ _ _ _ _)
   | (with_reducible exact remontoirref02_number.mono _ _ _)
   | (with_reducible exact LeO.refl _)
   | (with_reducible exact LeO.none _)
   | (with_reducible refine LeO.ite ?_ ?_)
   | (with_reducible refine LeO.bind ?_ (fun _ => ?_))
   | exact ih0 _ _
   | exact ih1 _ _ _ _ _ _
   | exact ih2 _ _ _
   | exact ih3 _ _ _ _ _ _
   | exact ih4 _ _
   | exact ih5 _ _ _ _ _
   | exact remontoirref02_number.mono _ _ _
   | exact LeO.none _
   | refine LeO.ite ?_ ?_
   | refine LeO.bind ?_ (fun _ => ?_)
  ·intro y0 y1 y2
   unfold remontoirref02_Parse.j3
   repeat' first
   | (with_reducible exact ih0 _ _)
   | (with_reducible exact ih1 _ _ _ _ _ _)
   | (with_reducible exact ih2 _ _ _)
   | (with_reducible exact ih3 _ _ _ _ _ _)
   | (with_reducible exact ih4 _ _)
   | (with_reducible exact ih5 _ _ _ _ _)
   | (with_reducible exact remontoirref02_number.mono _ _ _)
   | (with_reducible exact LeO.refl _)
   | (with_reducible exact LeO.none _)
   | (with_reducible refine LeO.ite ?_ ?_)
   | (with_reducible refine LeO.bind ?_ (fun _ => ?_))
   | exact ih0 _ _
   | exact ih1 _ _ _ _ _ _
   | exact ih2 _ _ _
   | exact ih3 _ _ _ _ _ _
   | exact ih4 _ _
   | exact ih5 _ _ _ _ _
   | exact remontoirref02_number.mono _ _ _
   | exact LeO.none _
   | refine LeO.ite ?_ ?_
   | refine LeO.bind ?_ (fun _ => ?_)
  ·intro y0 y1 y2 y3 y4 y5
   unfold remontoirref02_Parse.l0
   repeat' first
   | (with_reducible exact ih0 _ _)
   | (with_reducible exact ih1 _ _ _ _ _ _)
   | (with_reducible exact ih2 _ _ _)
   | (with_reducible exact ih3 _ _ _ _ _ _)
   | (with_reducible exact ih4 _ _)
   | (with_reducible exact ih5 _ _ _ _ _)
   | (with_reducible exact remontoirref02_number.mono _ _ _)
   | (with_reducible exact LeO.refl _)
   | (with_reducible exact LeO.none _)
   | (with_reducible refine LeO.ite ?_ ?_)
   | (with_reducible refine LeO.bind ?_ (fun _ => ?_))
   | exact ih0 _ _
   | exact ih1 _ _ _ _ _ _
   | exact ih2 _ _ _
   | exact ih3 _ _ _ _ _ _
   | exact ih4 _ _
   | exact ih5 _ _ _ _ _
   | exact remontoirref02_number.mono _ _ _
   | exact LeO.none _
   | refine LeO.ite ?_ ?_
   | refine LeO.bind ?_ (fun _ => ?_)
  ·intro y0 y1
   unfold remontoirref02_Parse.j5
   repeat' first
   | (with_reducible exact ih0 _ _)
   | (with_reducible exact ih1 _ _ _ _ _ _)
   | (with_reducible exact ih2 _ _ _)
   | (with_reducible exact ih3 _ _ _ _ _ _)
   | (with_reducible exact ih4 _ _)
   | (with_reducible exact ih5 _ _ _ _ _)
   | (with_reducible exact remontoirref02_number.mono _ _ _)
   | (with_reducible exact LeO.refl _)
   | (with_reducible exact LeO.none _)
   | (with_reducible refine LeO.ite ?_ ?_)
   | (with_reducible refine LeO.bind ?_ (fun _ => ?_))
   | exact ih0 _ _
   | exact ih1 _ _ _ _ _ _
   | exact ih2 _ _ _
   | exact ih3 _ _ _ _ _ _
   | exact ih4 _ _
   | exact ih5 _ _ _ _ _
   | exact remontoirref02_number.mono _ _ _
   | exact LeO.none _
   | refine LeO.ite ?_ ?_
   | refine LeO.bind ?_ (fun _ => ?_)
  ·intro y0 y1 y2 y3 y4
   unfold remontoirref02_Parse.j2
   repeat' first
   | (with_reducible exact ih0 _ _)
   | (with_reducible exact ih1 _ _ _ _ _ _)
   | (with_reducible exact ih2 _ _ _)
   | (with_reducible exact ih3 _ _ _ _ _ _)
   | (with_reducible exact ih4 _ _)
   | (with_reducible exact ih5 _ _ _ _ _)
   | (with_reducible exact remontoirref02_number.mono _ _ _)
   | (with_reducible exact LeO.refl _)
   | (with_reducible exact LeO.none _)
   | (with_reducible refine LeO.ite ?_ ?_)
   | (with_reducible refine LeO.bind ?_ (fun _ => ?_))
   | exact ih0 _ _
   | exact ih1 _ _ _ _ _ _
   | exact ih2 _ _ _
   | exact ih3 _ _ _ _ _ _
   | exact ih4 _ _
   | exact ih5 _ _ _ _ _
   | exact remontoirref02_number.mono _ _ _
   | exact LeO.none _
   | refine LeO.ite ?_ ?_
   | refine LeO.bind ?_ (fun _ => ?_)
theorem remontoirref02_Parse.mono : ∀ a0 k, LeO (remontoirref02_Parse.f k a0) (remontoirref02_Parse.f (k + 1) a0) := by
  intro a0 k
  obtain ⟨ih0, ih1, ih2, ih3, ih4, ih5⟩ := remontoirref02_Parse.mono_l k
  unfold remontoirref02_Parse.f
  repeat' first
      | (with_reducible exact ih0 _ _)
      | (with_reducible exact ih1 _ _ _ _ _ _)
      | (with_reducible exact ih2 _ _ _)
      | (with_reducible exact ih3 _ _ _ _ _ _)
      | (with_reducible exact ih4 _ _)
      | (with_reducible exact ih5 _ _ _ _ _)
      | (with_reducible exact remontoirref02_number.mono _ _ _)
      | (with_reducible exact LeO.refl _)
      | (with_reducible exact LeO.none _)
      | (with_reducible refine LeO.ite ?_ ?_)
      | (with_reducible refine LeO.bind ?_ (fun _ => ?_))
      | exact ih0 _ _
      | exact ih1 _ _ _ _ _ _
      | exact ih2 _ _ _
      | exact ih3 _ _ _ _ _ _
      | exact ih4 _ _
      | exact ih5 _ _ _ _ _
      | exact remontoirref02_number.mono _ _ _
      | exact LeO.none _
      | refine LeO.ite ?_ ?_
      | refine LeO.bind ?_ (fun _ => ?_)
set_option maxHeartbeats 8000000 in
set_option maxRecDepth 100000 in
theorem remontoirref02_Parse.calls (k : Nat) (a0 : ByteArray) (r1 : Int) (r2 : Int) (w : World) (h : remontoirref02_Parse.f k a0 = some (r1, r2)) :
  Calls Tryz.prog 119 #[.string a0] w fun e w' => e = .returned (.tuple #[.int .u64 r1, .int .i64 r2]) ∧ Below w.heap.size w w' := by
 have HB := Aside0.mk (Below.refl w.heap.size w)
 have H : (if (a0.size : Int) < 2 then (remontoirref02_Parse.j0 k a0 true) else (if 0 < (a0.size : Int) then (remontoirref02_Parse.j0 k a0 ((bt a0 0) != 80)) else (none))) = some (r1, r2) := h
 clear h
 have HC2 := Aside0.mk H
 clear H
 go_enter Tryz.func119, Tryz.ntmps119
 go_upto_region 1 with (fail)
 repeat (go_quiet (fail); go_upto_region 1 with (fail))
 go_cut [22] (fun v22 wc => ∃ (kq : Nat) (x22_1 : Bool), v22 = .bool x22_1 ∧ Aside0 (remontoirref02_Parse.j0 kq a0 x22_1 = some (r1, r2)) ∧ Aside0 (kq ≤ k) ∧ Aside0 (Below w.heap.size w wc))
 case first =>
  have H := HC2.out
  clear HC2
  by_cases c3 : (a0.size : Int) < 2
  ·rw [if_pos c3] at H
   have c3b0 : decide ((a0.size : Int) < 2) = true := decide_eq_true c3
   have c3b1 : decide (a0.size < 2) = true := decide_eq_true (by omega)
   clear c3
   (first | rw [c3b0] | (simp only [i64_w, i32_w]; rw [c3b0]) | skip)
   have H' := Aside0.mk H
   clear H
   go_wp2
   repeat (go_quiet (fail); try go_wp2)
   go_meet
   case rel => exact ⟨_, (true), (by first | rfl | (simp; done) | (simp [*]; done)), H', ⟨by first | omega | exact Nat.le_refl _⟩, ⟨by repeat (first | (with_reducible first | exact HB.out | apply bal | apply pbN | apply bd1) | exact HB.out)⟩⟩
  ·rw [if_neg c3] at H
   have c3b0 : decide ((a0.size : Int) < 2) = false := decide_eq_false c3
   have c3b1 : decide (a0.size < 2) = false := decide_eq_false (by omega)
   clear c3
   (first | rw [c3b0] | (simp only [i64_w, i32_w]; rw [c3b0]) | skip)
   by_cases c4 : 0 < (a0.size : Int)
   ·rw [if_pos c4] at H
    have c4b0 : decide (0 < (a0.size : Int)) = true := decide_eq_true c4
    have c4b1 : decide (0 < a0.size) = true := decide_eq_true (by omega)
    clear c4
    have H' := Aside0.mk H
    clear H
    have p5 : 0 ≤ (0 : Int) := (by omega)
    have q5 : 0 < a0.size := (by have : (0 : Int) < (a0.size : Int) := of_decide_eq_true (by first | (with_reducible assumption) | assumption); omega)
    have hx5 : ∀ h : 0 < a0.size, ((a0[0]'h).toNat : Int) = bt a0 0 := bt_at a0 0
    clear p5
    have qi5 : (0 < (a0.size : Int)) = True := eq_true (of_decide_eq_true (by first | (with_reducible assumption) | assumption))
    replace q5 := eq_true q5
    go_wp2
    repeat (go_quiet (fail); try go_wp2)
    go_meet
    case rel => exact ⟨_, (((bt a0 0) != 80)), (by first | rfl | (simp; done) | (simp [*]; done)), H', ⟨by first | omega | exact Nat.le_refl _⟩, ⟨by repeat (first | (with_reducible first | exact HB.out | apply bal | apply pbN | apply bd1) | exact HB.out)⟩⟩
   ·rw [if_neg c4] at H
    exact absurd H (by simp)
 case rest =>
  clear HC2
  try clear c1
  try clear p2
  try clear c3
  try clear c3b0
  try clear c3b1
  try clear c4
  try clear c4b0
  try clear c4b1
  try clear p5
  try clear q5
  try clear hx5
  try clear qi5
  try clear p5
  try clear q5
  obtain ⟨kq, x22_1, rfl, HA, HJ1, HB⟩ := hcut
  cases kq with
  | zero => exact absurd HA.out (by simp [remontoirref02_Parse.j0])
  | succ kj1 =>
   have H := HA.out
   clear HA
   simp only [remontoirref02_Parse.j0] at H
   by_cases c6 : x22_1 = true
   ·subst c6
    have H1 : (some (0, 2)) = some (r1, r2) := by rw [if_pos rfl] at H; exact H
    clear H
    have H := H1
    clear H1
    simp only [Option.some.injEq, Prod.mk.injEq] at H
    obtain ⟨rfl, rfl⟩ := H
    go_wp2
    repeat (go_quiet (fail); try go_wp2)
    go_ret2
    exact ⟨by first | rfl | (simp [errW_none, errW_some] <;> rfl) | (simp [*, errW_none, errW_some] <;> rfl), by repeat (first | (with_reducible first | exact HB.out | apply bal | apply pbN | apply bd1) | exact HB.out)⟩
   ·replace c6 := Bool.eq_false_iff.mpr c6
    subst c6
    have H1 : ((remontoirref02_number.f kj1 a0 1).bind fun bt197 => (if bt197.2.2 = true then (remontoirref02_Parse.j1 kj1 a0 1 0 bt197.1 bt197.2.1 (decide (bt197.2.1 < (a0.size : Int)))) else (remontoirref02_Parse.j1 kj1 a0 1 0 bt197.1 bt197.2.1 false))) = some (r1, r2) := by rw [if_neg (show ¬ (false = true) by decide)] at H; exact H
    clear H
    have H := H1
    clear H1
    replace H := Option.bind_eq_some_iff.mp H
    obtain ⟨⟨t197, t198, t199⟩, A70, H⟩ := H
    replace H : (if t199 = true then (remontoirref02_Parse.j1 kj1 a0 1 0 t197 t198 (decide (t198 < (a0.size : Int)))) else (remontoirref02_Parse.j1 kj1 a0 1 0 t197 t198 false)) = some (r1, r2) := H
    have A7 := Aside0.mk A70
    clear A70
    have HC8 := Aside0.mk H
    clear H
    go_upto_region 5 with (first | (go_at_call 188; (with_reducible refine (remontoirref02_number.calls kj1 a0 1 t197 t198 t199 _ A7.out).mono ?_); rintro e w' ⟨rfl, ⟨nd, rfl⟩⟩; (try first | exact ⟨rfl, _, World.drewN_drewN _ _ _⟩ | exact ⟨rfl, _, Eq.trans (World.drewN_drewN _ _ _) (congrArg (World.drewN _) (Nat.add_assoc _ _ _))⟩)))
    repeat (go_quiet (first | (go_at_call 188; (with_reducible refine (remontoirref02_number.calls kj1 a0 1 t197 t198 t199 _ A7.out).mono ?_); rintro e w' ⟨rfl, ⟨nd, rfl⟩⟩; (try first | exact ⟨rfl, _, World.drewN_drewN _ _ _⟩ | exact ⟨rfl, _, Eq.trans (World.drewN_drewN _ _ _) (congrArg (World.drewN _) (Nat.add_assoc _ _ _))⟩))); go_upto_region 5 with (first | (go_at_call 188; (with_reducible refine (remontoirref02_number.calls kj1 a0 1 t197 t198 t199 _ A7.out).mono ?_); rintro e w' ⟨rfl, ⟨nd, rfl⟩⟩; (try first | exact ⟨rfl, _, World.drewN_drewN _ _ _⟩ | exact ⟨rfl, _, Eq.trans (World.drewN_drewN _ _ _) (congrArg (World.drewN _) (Nat.add_assoc _ _ _))⟩))))
    (try simp only [Act.put, List.setIfInBounds_toArray, List.set_cons_zero, List.set_cons_succ])
    go_cut [35] (fun v35 wc => ∃ (kq : Nat) (x35_7 : Bool), v35 = .bool x35_7 ∧ Aside0 (remontoirref02_Parse.j1 kq a0 1 0 t197 t198 x35_7 = some (r1, r2)) ∧ Aside0 (kq ≤ kj1) ∧ Aside0 (Below w.heap.size w wc))
    case first =>
     have H := HC8.out
     clear HC8
     by_cases c9 : t199 = true
     ·subst c9
      have H1 : (remontoirref02_Parse.j1 kj1 a0 1 0 t197 t198 (decide (t198 < (a0.size : Int)))) = some (r1, r2) := by rw [if_pos rfl] at H; exact H
      clear H
      have H := H1
      clear H1
      have H' := Aside0.mk H
      clear H
      go_wp2
      repeat (go_quiet (fail); try go_wp2)
      go_meet
      case rel => exact ⟨_, (decide (t198 < (a0.size : Int))), (by first | rfl | (simp; done) | (simp [*]; done)), H', ⟨by have := HJ1.out; first | omega | exact Nat.le_refl _⟩, ⟨by repeat (first | (with_reducible first | exact HB.out | apply bal | apply pbN | apply bd1) | exact HB.out)⟩⟩
     ·replace c9 := Bool.eq_false_iff.mpr c9
      subst c9
      have H1 : (remontoirref02_Parse.j1 kj1 a0 1 0 t197 t198 false) = some (r1, r2) := by rw [if_neg (show ¬ (false = true) by decide)] at H; exact H
      clear H
      have H := H1
      clear H1
      have H' := Aside0.mk H
      clear H
      go_wp2
      repeat (go_quiet (fail); try go_wp2)
      go_meet
      case rel => exact ⟨_, (false), (by first | rfl | (simp; done) | (simp [*]; done)), H', ⟨by have := HJ1.out; first | omega | exact Nat.le_refl _⟩, ⟨by repeat (first | (with_reducible first | exact HB.out | apply bal | apply pbN | apply bd1) | exact HB.out)⟩⟩
    case rest =>
     clear HC8
     try clear c1
     try clear p2
     try clear c3
     try clear c3b0
     try clear c3b1
     try clear c4
     try clear c4b0
     try clear c4b1
     try clear p5
     try clear q5
     try clear hx5
     try clear qi5
     try clear c6
     try clear c9
     try clear p2
     try clear p5
     try clear q5
     obtain ⟨kq, x35_7, rfl, HA, HJ7, HB⟩ := hcut
     cases kq with
     | zero => exact absurd HA.out (by simp [remontoirref02_Parse.j1])
     | succ kj7 =>
      have H := HA.out
      clear HA
      simp only [remontoirref02_Parse.j1] at H
      have HC10 := Aside0.mk H
      clear H
      go_upto_if 35 with (fail)
      repeat (go_quiet (fail); go_upto_if 35 with (fail))
      go_cut [4, 5] (fun v4 v5 wc => ∃ (kq : Nat) (x4_9 : Int) (x5_9 : Int), v4 = .int .i64 x4_9 ∧ v5 = .int .u64 x5_9 ∧ Aside0 (remontoirref02_Parse.j3 kq a0 x4_9 x5_9 = some (r1, r2)) ∧ Aside0 (kq ≤ kj7) ∧ Aside0 (Below w.heap.size w wc))
      case first =>
       have H := HC10.out
       clear HC10
       by_cases c11 : x35_7 = true
       ·subst c11
        have H1 : (if 0 ≤ t198 then (if t198 < (a0.size : Int) then (if (bt a0 t198) = 89 then (remontoirref02_Parse.j2 kj7 a0 t197 t198 (bt a0 t198) ((bt a0 t198) == 89)) else (remontoirref02_Parse.j2 kj7 a0 t197 t198 (bt a0 t198) ((bt a0 t198) == 77))) else (none)) else (none)) = some (r1, r2) := by rw [if_pos rfl] at H; exact H
        clear H
        have H := H1
        clear H1
        by_cases c12 : 0 ≤ t198
        ·rw [if_pos c12] at H
         have c12b0 : decide (0 ≤ t198) = true := decide_eq_true c12
         clear c12
         (first | rw [c12b0] | (simp only [i64_w, i32_w]; rw [c12b0]) | skip)
         by_cases c13 : t198 < (a0.size : Int)
         ·rw [if_pos c13] at H
          have c13b0 : decide (t198 < (a0.size : Int)) = true := decide_eq_true c13
          clear c13
          have HC15 := Aside0.mk H
          clear H
          have p14 : 0 ≤ (t198 : Int) := of_decide_eq_true (by first | (with_reducible assumption) | assumption)
          have q14 : t198 < (a0.size : Int) := of_decide_eq_true (by first | (with_reducible assumption) | assumption)
          have hx14 := bt_at a0 t198
          replace p14 := eq_true p14
          replace q14 := eq_true q14
          go_upto_if 39 with (fail)
          repeat (go_quiet (fail); go_upto_if 39 with (fail))
          go_cut [39] (fun v39 wc => ∃ (kq : Nat) (x39_14 : Bool), v39 = .bool x39_14 ∧ Aside0 (remontoirref02_Parse.j2 kq a0 t197 t198 (bt a0 t198) x39_14 = some (r1, r2)) ∧ Aside0 (kq ≤ kj7) ∧ Aside0 (Below w.heap.size w wc))
          case first =>
           have H := HC15.out
           clear HC15
           by_cases c16 : (bt a0 t198) = 89
           ·rw [if_pos c16] at H
            have c16b0 : ((bt a0 t198) == 89) = true := beq_iff_eq.mpr c16
            have c16b1 : ((bt a0 t198) != 89) = false := bne_eq_false_iff_eq.mpr c16
            clear c16
            (first | rw [c16b0] | (simp only [i64_w, i32_w]; rw [c16b0]) | skip)
            have H' := Aside0.mk H
            clear H
            go_wp2
            repeat (go_quiet (fail); try go_wp2)
            go_meet
            case rel => exact ⟨_, (((bt a0 t198) == 89)), (by first | rfl | (simp; done) | (simp [*]; done)), H', ⟨by have := HJ1.out; have := HJ7.out; first | omega | exact Nat.le_refl _⟩, ⟨by repeat (first | (with_reducible first | exact HB.out | apply bal | apply pbN | apply bd1) | exact HB.out)⟩⟩
           ·rw [if_neg c16] at H
            have c16b0 : ((bt a0 t198) == 89) = false := beq_eq_false_iff_ne.mpr c16
            have c16b1 : ((bt a0 t198) != 89) = true := bne_iff_ne.mpr c16
            (first | rw [c16b0] | (simp only [i64_w, i32_w]; rw [c16b0]) | skip)
            have H' := Aside0.mk H
            clear H
            go_wp2
            repeat (go_quiet (fail); try go_wp2)
            go_meet
            case rel => exact ⟨_, (((bt a0 t198) == 77)), (by first | rfl | (simp; done) | (simp [*]; done)), H', ⟨by have := HJ1.out; have := HJ7.out; first | omega | exact Nat.le_refl _⟩, ⟨by repeat (first | (with_reducible first | exact HB.out | apply bal | apply pbN | apply bd1) | exact HB.out)⟩⟩
          case rest =>
           clear HC15
           try clear c1
           try clear p1
           try clear q1
           try clear hx1
           try clear p2
           try clear c3
           try clear c3b0
           try clear c3b1
           try clear c4
           try clear c4b0
           try clear c4b1
           try clear p5
           try clear q5
           try clear hx5
           try clear qi5
           try clear c6
           try clear c9
           try clear c11
           try clear c12
           try clear c12b0
           try clear c13
           try clear c13b0
           try clear p14
           try clear q14
           try clear hx14
           try clear c16
           try clear c16b0
           try clear c16b1
           try clear p14
           try clear p2
           try clear p5
           try clear q14
           try clear q5
           obtain ⟨kq, x39_14, rfl, HA, HJ14, HB⟩ := hcut
           cases kq with
           | zero => exact absurd HA.out (by simp [remontoirref02_Parse.j2])
           | succ kj14 =>
            have H := HA.out
            clear HA
            simp only [remontoirref02_Parse.j2] at H
            by_cases c17 : x39_14 = true
            ·subst c17
             have H1 : (some (0, 4)) = some (r1, r2) := by rw [if_pos rfl] at H; exact H
             clear H
             have H := H1
             clear H1
             simp only [Option.some.injEq, Prod.mk.injEq] at H
             obtain ⟨rfl, rfl⟩ := H
             go_wp2
             repeat (go_quiet (fail); try go_wp2)
             go_ret2
             exact ⟨by first | rfl | (simp [errW_none, errW_some] <;> rfl) | (simp [*, errW_none, errW_some] <;> rfl), by repeat (first | (with_reducible first | exact HB.out | apply bal | apply pbN | apply bd1) | exact HB.out)⟩
            ·replace c17 := Bool.eq_false_iff.mpr c17
             subst c17
             have H1 : (if (bt a0 t198) = 87 then ((remontoirref02_add.f 0 t197 604800).bind fun t200 => (if (wrap64 (t198 + 1)) = (a0.size : Int) then (remontoirref02_Parse.j3 kj14 a0 (wrap64 (t198 + 1)) t200) else (some (0, 2)))) else (if (bt a0 t198) = 68 then ((remontoirref02_add.f 0 t197 86400).bind fun t201 => (remontoirref02_Parse.j3 kj14 a0 (wrap64 (t198 + 1)) t201)) else (some (0, 2)))) = some (r1, r2) := by rw [if_neg (show ¬ (false = true) by decide)] at H; exact H
             clear H
             have H := H1
             clear H1
             by_cases c18 : (bt a0 t198) = 87
             ·rw [if_pos c18] at H
              have c18b0 : ((bt a0 t198) == 87) = true := beq_iff_eq.mpr c18
              have c18b1 : ((bt a0 t198) != 87) = false := bne_eq_false_iff_eq.mpr c18
              clear c18
              replace H := Option.bind_eq_some_iff.mp H
              obtain ⟨t200, A190, H⟩ := H
              replace H : (if (wrap64 (t198 + 1)) = (a0.size : Int) then (remontoirref02_Parse.j3 kj14 a0 (wrap64 (t198 + 1)) t200) else (some (0, 2))) = some (r1, r2) := H
              have A19 := Aside0.mk A190
              clear A190
              by_cases c20 : (wrap64 (t198 + 1)) = (a0.size : Int)
              ·rw [if_pos c20] at H
               have c20b0 : ((wrap64 (t198 + 1)) == (a0.size : Int)) = true := beq_iff_eq.mpr c20
               have c20b1 : ((wrap64 (t198 + 1)) != (a0.size : Int)) = false := bne_eq_false_iff_eq.mpr c20
               clear c20
               have H' := Aside0.mk H
               clear H
               go_wp2_with (first | (go_at_call 189; (with_reducible refine (remontoirref02_add.calls 0 t197 604800 t200 _ A19.out).mono ?_); rintro e w' ⟨rfl, ⟨nd, rfl⟩⟩; (try first | exact ⟨rfl, _, World.drewN_drewN _ _ _⟩ | exact ⟨rfl, _, Eq.trans (World.drewN_drewN _ _ _) (congrArg (World.drewN _) (Nat.add_assoc _ _ _))⟩)))
               repeat (go_quiet (first | (go_at_call 189; (with_reducible refine (remontoirref02_add.calls 0 t197 604800 t200 _ A19.out).mono ?_); rintro e w' ⟨rfl, ⟨nd, rfl⟩⟩; (try first | exact ⟨rfl, _, World.drewN_drewN _ _ _⟩ | exact ⟨rfl, _, Eq.trans (World.drewN_drewN _ _ _) (congrArg (World.drewN _) (Nat.add_assoc _ _ _))⟩))); try go_wp2_with (first | (go_at_call 189; (with_reducible refine (remontoirref02_add.calls 0 t197 604800 t200 _ A19.out).mono ?_); rintro e w' ⟨rfl, ⟨nd, rfl⟩⟩; (try first | exact ⟨rfl, _, World.drewN_drewN _ _ _⟩ | exact ⟨rfl, _, Eq.trans (World.drewN_drewN _ _ _) (congrArg (World.drewN _) (Nat.add_assoc _ _ _))⟩))))
               go_meet
               case rel => exact ⟨_, (wrap64 (t198 + 1)), (t200), (by first | rfl | (simp; done) | (simp [*]; done)), (by first | rfl | (simp; done) | (simp [*]; done)), H', ⟨by have := HJ1.out; have := HJ7.out; have := HJ14.out; first | omega | exact Nat.le_refl _⟩, ⟨by repeat (first | (with_reducible first | exact HB.out | apply bal | apply pbN | apply bd1) | exact HB.out)⟩⟩
              ·rw [if_neg c20] at H
               have c20b0 : ((wrap64 (t198 + 1)) == (a0.size : Int)) = false := beq_eq_false_iff_ne.mpr c20
               have c20b1 : ((wrap64 (t198 + 1)) != (a0.size : Int)) = true := bne_iff_ne.mpr c20
               simp only [Option.some.injEq, Prod.mk.injEq] at H
               obtain ⟨rfl, rfl⟩ := H
               go_wp2_with (first | (go_at_call 189; (with_reducible refine (remontoirref02_add.calls 0 t197 604800 t200 _ A19.out).mono ?_); rintro e w' ⟨rfl, ⟨nd, rfl⟩⟩; (try first | exact ⟨rfl, _, World.drewN_drewN _ _ _⟩ | exact ⟨rfl, _, Eq.trans (World.drewN_drewN _ _ _) (congrArg (World.drewN _) (Nat.add_assoc _ _ _))⟩)))
               repeat (go_quiet (first | (go_at_call 189; (with_reducible refine (remontoirref02_add.calls 0 t197 604800 t200 _ A19.out).mono ?_); rintro e w' ⟨rfl, ⟨nd, rfl⟩⟩; (try first | exact ⟨rfl, _, World.drewN_drewN _ _ _⟩ | exact ⟨rfl, _, Eq.trans (World.drewN_drewN _ _ _) (congrArg (World.drewN _) (Nat.add_assoc _ _ _))⟩))); try go_wp2_with (first | (go_at_call 189; (with_reducible refine (remontoirref02_add.calls 0 t197 604800 t200 _ A19.out).mono ?_); rintro e w' ⟨rfl, ⟨nd, rfl⟩⟩; (try first | exact ⟨rfl, _, World.drewN_drewN _ _ _⟩ | exact ⟨rfl, _, Eq.trans (World.drewN_drewN _ _ _) (congrArg (World.drewN _) (Nat.add_assoc _ _ _))⟩))))
               go_ret2
               exact ⟨by first | rfl | (simp [errW_none, errW_some] <;> rfl) | (simp [*, errW_none, errW_some] <;> rfl), by repeat (first | (with_reducible first | exact HB.out | apply bal | apply pbN | apply bd1) | exact HB.out)⟩
             ·rw [if_neg c18] at H
              have c18b0 : ((bt a0 t198) == 87) = false := beq_eq_false_iff_ne.mpr c18
              have c18b1 : ((bt a0 t198) != 87) = true := bne_iff_ne.mpr c18
              by_cases c21 : (bt a0 t198) = 68
              ·rw [if_pos c21] at H
               have c21b0 : ((bt a0 t198) == 68) = true := beq_iff_eq.mpr c21
               have c21b1 : ((bt a0 t198) != 68) = false := bne_eq_false_iff_eq.mpr c21
               clear c21
               replace H := Option.bind_eq_some_iff.mp H
               obtain ⟨t201, A220, H⟩ := H
               replace H : (remontoirref02_Parse.j3 kj14 a0 (wrap64 (t198 + 1)) t201) = some (r1, r2) := H
               have A22 := Aside0.mk A220
               clear A220
               have H' := Aside0.mk H
               clear H
               go_wp2_with (first | (go_at_call 189; (with_reducible refine (remontoirref02_add.calls 0 t197 86400 t201 _ A22.out).mono ?_); rintro e w' ⟨rfl, ⟨nd, rfl⟩⟩; (try first | exact ⟨rfl, _, World.drewN_drewN _ _ _⟩ | exact ⟨rfl, _, Eq.trans (World.drewN_drewN _ _ _) (congrArg (World.drewN _) (Nat.add_assoc _ _ _))⟩)))
               repeat (go_quiet (first | (go_at_call 189; (with_reducible refine (remontoirref02_add.calls 0 t197 86400 t201 _ A22.out).mono ?_); rintro e w' ⟨rfl, ⟨nd, rfl⟩⟩; (try first | exact ⟨rfl, _, World.drewN_drewN _ _ _⟩ | exact ⟨rfl, _, Eq.trans (World.drewN_drewN _ _ _) (congrArg (World.drewN _) (Nat.add_assoc _ _ _))⟩))); try go_wp2_with (first | (go_at_call 189; (with_reducible refine (remontoirref02_add.calls 0 t197 86400 t201 _ A22.out).mono ?_); rintro e w' ⟨rfl, ⟨nd, rfl⟩⟩; (try first | exact ⟨rfl, _, World.drewN_drewN _ _ _⟩ | exact ⟨rfl, _, Eq.trans (World.drewN_drewN _ _ _) (congrArg (World.drewN _) (Nat.add_assoc _ _ _))⟩))))
               go_meet
               case rel => exact ⟨_, (wrap64 (t198 + 1)), (t201), (by first | rfl | (simp; done) | (simp [*]; done)), (by first | rfl | (simp; done) | (simp [*]; done)), H', ⟨by have := HJ1.out; have := HJ7.out; have := HJ14.out; first | omega | exact Nat.le_refl _⟩, ⟨by repeat (first | (with_reducible first | exact HB.out | apply bal | apply pbN | apply bd1) | exact HB.out)⟩⟩
              ·rw [if_neg c21] at H
               have c21b0 : ((bt a0 t198) == 68) = false := beq_eq_false_iff_ne.mpr c21
               have c21b1 : ((bt a0 t198) != 68) = true := bne_iff_ne.mpr c21
               simp only [Option.some.injEq, Prod.mk.injEq] at H
               obtain ⟨rfl, rfl⟩ := H
               go_wp2
               repeat (go_quiet (fail); try go_wp2)
               go_ret2
               exact ⟨by first | rfl | (simp [errW_none, errW_some] <;> rfl) | (simp [*, errW_none, errW_some] <;> rfl), by repeat (first | (with_reducible first | exact HB.out | apply bal | apply pbN | apply bd1) | exact HB.out)⟩
         ·rw [if_neg c13] at H
          exact absurd H (by simp)
        ·rw [if_neg c12] at H
         exact absurd H (by simp)
       ·replace c11 := Bool.eq_false_iff.mpr c11
        subst c11
        have H1 : (remontoirref02_Parse.j3 kj7 a0 1 0) = some (r1, r2) := by rw [if_neg (show ¬ (false = true) by decide)] at H; exact H
        clear H
        have H := H1
        clear H1
        have H' := Aside0.mk H
        clear H
        go_wp2
        repeat (go_quiet (fail); try go_wp2)
        go_meet
        case rel => exact ⟨_, (1), (0), (by first | rfl | (simp; done) | (simp [*]; done)), (by first | rfl | (simp; done) | (simp [*]; done)), H', ⟨by have := HJ1.out; have := HJ7.out; first | omega | exact Nat.le_refl _⟩, ⟨by repeat (first | (with_reducible first | exact HB.out | apply bal | apply pbN | apply bd1) | exact HB.out)⟩⟩
      case rest =>
       clear HC10
       try clear c1
       try clear p1
       try clear q1
       try clear hx1
       try clear c2
       try clear p2
       try clear c3
       try clear c3b0
       try clear c3b1
       try clear c4
       try clear c4b0
       try clear c4b1
       try clear p5
       try clear q5
       try clear hx5
       try clear qi5
       try clear c6
       try clear p6
       try clear c9
       try clear c11
       try clear c12
       try clear c12b0
       try clear c13
       try clear c13b0
       try clear p14
       try clear q14
       try clear hx14
       try clear c16
       try clear c16b0
       try clear c16b1
       try clear c17
       try clear c18
       try clear c18b0
       try clear c18b1
       try clear c20
       try clear c20b0
       try clear c20b1
       try clear c21
       try clear c21b0
       try clear c21b1
       try clear p1
       try clear p14
       try clear p2
       try clear p5
       try clear q1
       try clear q14
       try clear q5
       obtain ⟨kq, x4_9, x5_9, rfl, rfl, HA, HJ9, HB⟩ := hcut
       cases kq with
       | zero => exact absurd HA.out (by simp [remontoirref02_Parse.j3])
       | succ kj9 =>
        have H := HA.out
        clear HA
        simp only [remontoirref02_Parse.j3] at H
        by_cases c23 : x4_9 < (a0.size : Int)
        ·rw [if_pos c23] at H
         have c23b0 : decide (x4_9 < (a0.size : Int)) = true := decide_eq_true c23
         clear c23
         by_cases c24 : 0 ≤ x4_9
         ·rw [if_pos c24] at H
          have c24b0 : decide (0 ≤ x4_9) = true := decide_eq_true c24
          clear c24
          by_cases c26 : (bt a0 x4_9) = 84
          ·rw [if_pos c26] at H
           have c26b0 : ((bt a0 x4_9) == 84) = true := beq_iff_eq.mpr c26
           have c26b1 : ((bt a0 x4_9) != 84) = false := bne_eq_false_iff_eq.mpr c26
           clear c26
           obtain ⟨y202, hy202⟩ : ∃ y_ : List Int, y_ = (([3600, 60, 1] : List Int)) := ⟨_, rfl⟩
           replace H : (remontoirref02_Parse.l0 kj9 a0 (wrap64 (x4_9 + 1)) x5_9 false y202 0) = some (r1, r2) := by first | (rw [hy202]; with_reducible exact H) | (have H2_ := (Option.bind_some _ _).symm.trans H; rw [hy202]; with_reducible exact H2_) | (have H2_ := (Option.bind_some _ _).symm.trans H; with_reducible exact H2_) | with_reducible exact H | (rw [hy202]; exact H) | exact H
           have Ny202 := Aside0.mk hy202
           clear hy202
           have H' := Aside0.mk H
           clear H
           have p25 : 0 ≤ (x4_9 : Int) := of_decide_eq_true (by first | (with_reducible assumption) | assumption)
           have q25 : x4_9 < (a0.size : Int) := of_decide_eq_true (by first | (with_reducible assumption) | assumption)
           have hx25 := bt_at a0 x4_9
           replace p25 := eq_true p25
           replace q25 := eq_true q25
           go_wp2_with (first | ((with_reducible refine gate_dst (N := 68) rfl ?_); (try (refine gate_guard (by rfl) ?_; dsimp only)); refine Kd.R_lit (Kd.int .u64) _ 74 ?hg (N := 68) ?hd (xs := ([3600, 60, 1] : List Int)) (inner := [.int .u64 3600, .int .u64 60, .int .u64 1]) (ok := fun _ => True) (okp := fun _ => True) ?hr ?hp (fun _ hk => hk) trivial (Below.refl _ _) (Nat.le_refl _) (by simp) ?_; (case hd => rfl); (case hg => rfl); (case hr => first | (go_simp; done) | (go_simp; rfl)); (case hp => exact (Reps.one (show Kd.M (Kd.int .u64) _ _ _ 3600 [.int .u64 3600] from rfl) (Reps.one (show Kd.M (Kd.int .u64) _ _ _ 60 [.int .u64 60] from rfl) (Reps.one (show Kd.M (Kd.int .u64) _ _ _ 1 [.int .u64 1] from rfl) (Reps.none _ _))))); intro v203 w27 ho28 hb hg_ hnew_; clear hg_ hnew_; (first | rw [← Ny202.out] at ho28 | (simp only [Int.reduceToNat] at ho28; rw [← Ny202.out] at ho28)); have n0_ := Aside0.mk (Kd.R_lower ho28 (bsz (by repeat (first | (with_reducible first | exact HB.out | apply bal | apply pbN | apply bd1) | exact HB.out)))); have n1_ := Aside0.mk (bsp (by repeat (first | (with_reducible first | exact HB.out | apply bal | apply pbN | apply bd1) | exact HB.out)) hb); clear HB; have HO204 := n0_; have HB := n1_; clear n0_ n1_; clear hb ho28))
           repeat (go_quiet (first | ((with_reducible refine gate_dst (N := 68) rfl ?_); (try (refine gate_guard (by rfl) ?_; dsimp only)); refine Kd.R_lit (Kd.int .u64) _ 74 ?hg (N := 68) ?hd (xs := ([3600, 60, 1] : List Int)) (inner := [.int .u64 3600, .int .u64 60, .int .u64 1]) (ok := fun _ => True) (okp := fun _ => True) ?hr ?hp (fun _ hk => hk) trivial (Below.refl _ _) (Nat.le_refl _) (by simp) ?_; (case hd => rfl); (case hg => rfl); (case hr => first | (go_simp; done) | (go_simp; rfl)); (case hp => exact (Reps.one (show Kd.M (Kd.int .u64) _ _ _ 3600 [.int .u64 3600] from rfl) (Reps.one (show Kd.M (Kd.int .u64) _ _ _ 60 [.int .u64 60] from rfl) (Reps.one (show Kd.M (Kd.int .u64) _ _ _ 1 [.int .u64 1] from rfl) (Reps.none _ _))))); intro v203 w27 ho28 hb hg_ hnew_; clear hg_ hnew_; (first | rw [← Ny202.out] at ho28 | (simp only [Int.reduceToNat] at ho28; rw [← Ny202.out] at ho28)); have n0_ := Aside0.mk (Kd.R_lower ho28 (bsz (by repeat (first | (with_reducible first | exact HB.out | apply bal | apply pbN | apply bd1) | exact HB.out)))); have n1_ := Aside0.mk (bsp (by repeat (first | (with_reducible first | exact HB.out | apply bal | apply pbN | apply bd1) | exact HB.out)) hb); clear HB; have HO204 := n0_; have HB := n1_; clear n0_ n1_; clear hb ho28)); try go_wp2_with (first | ((with_reducible refine gate_dst (N := 68) rfl ?_); (try (refine gate_guard (by rfl) ?_; dsimp only)); refine Kd.R_lit (Kd.int .u64) _ 74 ?hg (N := 68) ?hd (xs := ([3600, 60, 1] : List Int)) (inner := [.int .u64 3600, .int .u64 60, .int .u64 1]) (ok := fun _ => True) (okp := fun _ => True) ?hr ?hp (fun _ hk => hk) trivial (Below.refl _ _) (Nat.le_refl _) (by simp) ?_; (case hd => rfl); (case hg => rfl); (case hr => first | (go_simp; done) | (go_simp; rfl)); (case hp => exact (Reps.one (show Kd.M (Kd.int .u64) _ _ _ 3600 [.int .u64 3600] from rfl) (Reps.one (show Kd.M (Kd.int .u64) _ _ _ 60 [.int .u64 60] from rfl) (Reps.one (show Kd.M (Kd.int .u64) _ _ _ 1 [.int .u64 1] from rfl) (Reps.none _ _))))); intro v203 w27 ho28 hb hg_ hnew_; clear hg_ hnew_; (first | rw [← Ny202.out] at ho28 | (simp only [Int.reduceToNat] at ho28; rw [← Ny202.out] at ho28)); have n0_ := Aside0.mk (Kd.R_lower ho28 (bsz (by repeat (first | (with_reducible first | exact HB.out | apply bal | apply pbN | apply bd1) | exact HB.out)))); have n1_ := Aside0.mk (bsp (by repeat (first | (with_reducible first | exact HB.out | apply bal | apply pbN | apply bd1) | exact HB.out)) hb); clear HB; have HO204 := n0_; have HB := n1_; clear n0_ n1_; clear hb ho28)))
           go_loopg [4, 5, 9, 11] kj9 (fun kq v4 v5 v9 v11 w' => ∃ (x4_4 : Int) (x5_4 : Int) (x9_4 : Bool) (x11_4 : Int), v4 = .int .i64 x4_4 ∧ v5 = .int .u64 x5_4 ∧ v9 = .bool x9_4 ∧ v11 = .int .i64 x11_4 ∧ Aside0 (remontoirref02_Parse.l0 kq a0 x4_4 x5_4 x9_4 y202 x11_4 = some (r1, r2)) ∧ Aside0 (kq ≤ kj9) ∧ Aside0 (Kd.R (Kd.int .u64) 74 w' w.heap.size (fun _ => True) v203 y202) ∧ Aside0 (Below w.heap.size w w'))
           case atStart => exact ⟨(wrap64 (x4_9 + 1)), (x5_9), (false), (0), (by first | rfl | (simp; done) | (simp [*]; done)), (by first | rfl | (simp; done) | (simp [*]; done)), (by first | rfl | (simp; done) | (simp [*]; done)), (by first | rfl | (simp; done) | (simp [*]; done)), H', ⟨Nat.le_refl _⟩, ⟨by (with_reducible repeat (first | apply Kd.R_alloc | apply Kd.R_drewN | apply Kd.R_drew)); exact HO204.out⟩, ⟨by repeat (first | (with_reducible first | exact HB.out | apply bal | apply pbN | apply bd1) | exact HB.out)⟩⟩
           case round =>
            clear H'
            try clear c1
            try clear p1
            try clear q1
            try clear hx1
            try clear c2
            try clear p2
            try clear q2
            try clear hx2
            try clear c3
            try clear c3b0
            try clear c3b1
            try clear c4
            try clear c4b0
            try clear c4b1
            try clear p5
            try clear q5
            try clear hx5
            try clear qi5
            try clear c6
            try clear p6
            try clear c9
            try clear c11
            try clear c12
            try clear c12b0
            try clear c13
            try clear c13b0
            try clear p14
            try clear q14
            try clear hx14
            try clear c16
            try clear c16b0
            try clear c16b1
            try clear c17
            try clear c18
            try clear c18b0
            try clear c18b1
            try clear c20
            try clear c20b0
            try clear c20b1
            try clear c21
            try clear c21b0
            try clear c21b1
            try clear c23
            try clear c23b0
            try clear c24
            try clear c24b0
            try clear p25
            try clear q25
            try clear hx25
            try clear c26
            try clear c26b0
            try clear c26b1
            try clear p1
            try clear p14
            try clear p2
            try clear p25
            try clear p5
            try clear p6
            try clear q1
            try clear q14
            try clear q25
            try clear q5
            obtain ⟨x4_4, x5_4, x9_4, x11_4, rfl, rfl, rfl, rfl, HA, HK4, HO_10, HB⟩ := hrel
            cases gk with
            | zero => exact absurd HA.out (by simp [remontoirref02_Parse.l0])
            | succ k4 =>
             have H := HA.out
             clear HA
             simp only [remontoirref02_Parse.l0] at H
             by_cases c29 : x11_4 < 3
             ·rw [if_pos c29] at H
              have c29b0 : decide (x11_4 < 3) = true := decide_eq_true c29
              clear c29
              replace H := Option.bind_eq_some_iff.mp H
              obtain ⟨⟨t205, t206, t207⟩, A300, H⟩ := H
              replace H : (if t207 = true then (if t206 < (a0.size : Int) then (if 0 ≤ t206 then (if 0 ≤ x11_4 then (if (bt a0 t206) = (bt (⟨#[72, 77, 83]⟩ : ByteArray) x11_4) then (if x11_4 < (y202.length : Int) then ((remontoirref02_add.f x5_4 t205 (rd y202 x11_4)).bind fun t209 => (remontoirref02_Parse.l0 k4 a0 (wrap64 (t206 + 1)) t209 true y202 (wrap64 (x11_4 + 1)))) else (none)) else (remontoirref02_Parse.l0 k4 a0 x4_4 x5_4 x9_4 y202 (wrap64 (x11_4 + 1)))) else (none)) else (none)) else (remontoirref02_Parse.l0 k4 a0 x4_4 x5_4 x9_4 y202 (wrap64 (x11_4 + 1)))) else (remontoirref02_Parse.l0 k4 a0 x4_4 x5_4 x9_4 y202 (wrap64 (x11_4 + 1)))) = some (r1, r2) := H
              have A30 := Aside0.mk A300
              clear A300
              by_cases c31 : t207 = true
              ·subst c31
               have H1 : (if t206 < (a0.size : Int) then (if 0 ≤ t206 then (if 0 ≤ x11_4 then (if (bt a0 t206) = (bt (⟨#[72, 77, 83]⟩ : ByteArray) x11_4) then (if x11_4 < (y202.length : Int) then ((remontoirref02_add.f x5_4 t205 (rd y202 x11_4)).bind fun t209 => (remontoirref02_Parse.l0 k4 a0 (wrap64 (t206 + 1)) t209 true y202 (wrap64 (x11_4 + 1)))) else (none)) else (remontoirref02_Parse.l0 k4 a0 x4_4 x5_4 x9_4 y202 (wrap64 (x11_4 + 1)))) else (none)) else (none)) else (remontoirref02_Parse.l0 k4 a0 x4_4 x5_4 x9_4 y202 (wrap64 (x11_4 + 1)))) = some (r1, r2) := by rw [if_pos rfl] at H; exact H
               clear H
               have H := H1
               clear H1
               by_cases c32 : t206 < (a0.size : Int)
               ·rw [if_pos c32] at H
                have c32b0 : decide (t206 < (a0.size : Int)) = true := decide_eq_true c32
                clear c32
                by_cases c33 : 0 ≤ t206
                ·rw [if_pos c33] at H
                 have c33b0 : decide (0 ≤ t206) = true := decide_eq_true c33
                 clear c33
                 by_cases c35 : 0 ≤ x11_4
                 ·rw [if_pos c35] at H
                  have c35b0 : decide (0 ≤ x11_4) = true := decide_eq_true c35
                  clear c35
                  by_cases c37 : (bt a0 t206) = (bt (⟨#[72, 77, 83]⟩ : ByteArray) x11_4)
                  ·rw [if_pos c37] at H
                   have c37b0 : ((bt a0 t206) == (bt (⟨#[72, 77, 83]⟩ : ByteArray) x11_4)) = true := beq_iff_eq.mpr c37
                   have c37b1 : ((bt a0 t206) != (bt (⟨#[72, 77, 83]⟩ : ByteArray) x11_4)) = false := bne_eq_false_iff_eq.mpr c37
                   clear c37
                   by_cases c38 : x11_4 < (y202.length : Int)
                   ·rw [if_pos c38] at H
                    have c38b0 : decide (x11_4 < (y202.length : Int)) = true := decide_eq_true c38
                    clear c38
                    replace H := Option.bind_eq_some_iff.mp H
                    obtain ⟨t209, A390, H⟩ := H
                    replace H : (remontoirref02_Parse.l0 k4 a0 (wrap64 (t206 + 1)) t209 true y202 (wrap64 (x11_4 + 1))) = some (r1, r2) := H
                    have A39 := Aside0.mk A390
                    clear A390
                    have H' := Aside0.mk H
                    clear H
                    go_wp2_with (first | (go_at_call 188; (with_reducible refine (remontoirref02_number.calls k4 a0 x4_4 t205 t206 true _ A30.out).mono ?_); rintro e w' ⟨rfl, ⟨nd, rfl⟩⟩; (try first | exact ⟨rfl, _, World.drewN_drewN _ _ _⟩ | exact ⟨rfl, _, Eq.trans (World.drewN_drewN _ _ _) (congrArg (World.drewN _) (Nat.add_assoc _ _ _))⟩); have p34 : 0 ≤ (t206 : Int) := of_decide_eq_true (by first | (with_reducible assumption) | assumption); have q34 : t206 < (a0.size : Int) := of_decide_eq_true (by first | (with_reducible assumption) | assumption); have hx34 := bt_at a0 t206; replace p34 := eq_true p34; replace q34 := eq_true q34; have p36 : 0 ≤ (x11_4 : Int) := of_decide_eq_true (by first | (with_reducible assumption) | assumption); have q36 : x11_4 < (3 : Int) := of_decide_eq_true (by first | (with_reducible assumption) | assumption); have hx36 := bt_at (⟨#[72, 77, 83]⟩ : ByteArray) x11_4; replace p36 := eq_true p36; replace q36 := eq_true q36; obtain ⟨Ao40, co40, eo40⟩ := Kd.R_slice HO_10.out; subst eo40; have p208 : 0 ≤ (x11_4 : Int) := of_decide_eq_true (by first | (with_reducible assumption) | assumption); have q208 : x11_4 < (y202.length : Int) := of_decide_eq_true (by first | (with_reducible assumption) | assumption); obtain ⟨ad208, e208, hx208_0⟩ := Kd.at_int (Kd.R_reads' HO_10.out).2.2 x11_4 p208 q208; cases e208; replace p208 := eq_true p208; replace q208 := eq_true q208) | (go_at_call 189; (with_reducible refine (remontoirref02_add.calls x5_4 t205 (rd y202 x11_4) t209 _ A39.out).mono ?_); rintro e w' ⟨rfl, ⟨nd, rfl⟩⟩; (try first | exact ⟨rfl, _, World.drewN_drewN _ _ _⟩ | exact ⟨rfl, _, Eq.trans (World.drewN_drewN _ _ _) (congrArg (World.drewN _) (Nat.add_assoc _ _ _))⟩)))
                    repeat (go_quiet (first | (go_at_call 188; (with_reducible refine (remontoirref02_number.calls k4 a0 x4_4 t205 t206 true _ A30.out).mono ?_); rintro e w' ⟨rfl, ⟨nd, rfl⟩⟩; (try first | exact ⟨rfl, _, World.drewN_drewN _ _ _⟩ | exact ⟨rfl, _, Eq.trans (World.drewN_drewN _ _ _) (congrArg (World.drewN _) (Nat.add_assoc _ _ _))⟩); have p34 : 0 ≤ (t206 : Int) := of_decide_eq_true (by first | (with_reducible assumption) | assumption); have q34 : t206 < (a0.size : Int) := of_decide_eq_true (by first | (with_reducible assumption) | assumption); have hx34 := bt_at a0 t206; replace p34 := eq_true p34; replace q34 := eq_true q34; have p36 : 0 ≤ (x11_4 : Int) := of_decide_eq_true (by first | (with_reducible assumption) | assumption); have q36 : x11_4 < (3 : Int) := of_decide_eq_true (by first | (with_reducible assumption) | assumption); have hx36 := bt_at (⟨#[72, 77, 83]⟩ : ByteArray) x11_4; replace p36 := eq_true p36; replace q36 := eq_true q36; obtain ⟨Ao40, co40, eo40⟩ := Kd.R_slice HO_10.out; subst eo40; have p208 : 0 ≤ (x11_4 : Int) := of_decide_eq_true (by first | (with_reducible assumption) | assumption); have q208 : x11_4 < (y202.length : Int) := of_decide_eq_true (by first | (with_reducible assumption) | assumption); obtain ⟨ad208, e208, hx208_0⟩ := Kd.at_int (Kd.R_reads' HO_10.out).2.2 x11_4 p208 q208; cases e208; replace p208 := eq_true p208; replace q208 := eq_true q208) | (go_at_call 189; (with_reducible refine (remontoirref02_add.calls x5_4 t205 (rd y202 x11_4) t209 _ A39.out).mono ?_); rintro e w' ⟨rfl, ⟨nd, rfl⟩⟩; (try first | exact ⟨rfl, _, World.drewN_drewN _ _ _⟩ | exact ⟨rfl, _, Eq.trans (World.drewN_drewN _ _ _) (congrArg (World.drewN _) (Nat.add_assoc _ _ _))⟩))); try go_wp2_with (first | (go_at_call 188; (with_reducible refine (remontoirref02_number.calls k4 a0 x4_4 t205 t206 true _ A30.out).mono ?_); rintro e w' ⟨rfl, ⟨nd, rfl⟩⟩; (try first | exact ⟨rfl, _, World.drewN_drewN _ _ _⟩ | exact ⟨rfl, _, Eq.trans (World.drewN_drewN _ _ _) (congrArg (World.drewN _) (Nat.add_assoc _ _ _))⟩); have p34 : 0 ≤ (t206 : Int) := of_decide_eq_true (by first | (with_reducible assumption) | assumption); have q34 : t206 < (a0.size : Int) := of_decide_eq_true (by first | (with_reducible assumption) | assumption); have hx34 := bt_at a0 t206; replace p34 := eq_true p34; replace q34 := eq_true q34; have p36 : 0 ≤ (x11_4 : Int) := of_decide_eq_true (by first | (with_reducible assumption) | assumption); have q36 : x11_4 < (3 : Int) := of_decide_eq_true (by first | (with_reducible assumption) | assumption); have hx36 := bt_at (⟨#[72, 77, 83]⟩ : ByteArray) x11_4; replace p36 := eq_true p36; replace q36 := eq_true q36; obtain ⟨Ao40, co40, eo40⟩ := Kd.R_slice HO_10.out; subst eo40; have p208 : 0 ≤ (x11_4 : Int) := of_decide_eq_true (by first | (with_reducible assumption) | assumption); have q208 : x11_4 < (y202.length : Int) := of_decide_eq_true (by first | (with_reducible assumption) | assumption); obtain ⟨ad208, e208, hx208_0⟩ := Kd.at_int (Kd.R_reads' HO_10.out).2.2 x11_4 p208 q208; cases e208; replace p208 := eq_true p208; replace q208 := eq_true q208) | (go_at_call 189; (with_reducible refine (remontoirref02_add.calls x5_4 t205 (rd y202 x11_4) t209 _ A39.out).mono ?_); rintro e w' ⟨rfl, ⟨nd, rfl⟩⟩; (try first | exact ⟨rfl, _, World.drewN_drewN _ _ _⟩ | exact ⟨rfl, _, Eq.trans (World.drewN_drewN _ _ _) (congrArg (World.drewN _) (Nat.add_assoc _ _ _))⟩))))
                    go_roundg k4
                    case measure => have := HJ1.out; have := HJ7.out; have := HJ9.out; have := HK4.out; omega
                    case rel => exact ⟨(wrap64 (t206 + 1)), (t209), (true), (wrap64 (x11_4 + 1)), (by first | rfl | (simp; done) | (simp [*]; done)), (by first | rfl | (simp; done) | (simp [*]; done)), (by first | rfl | (simp; done) | (simp [*]; done)), (by first | rfl | (simp; done) | (simp [*]; done)), H', ⟨by have := HJ1.out; have := HJ7.out; have := HJ9.out; have := HK4.out; omega⟩, ⟨by (with_reducible repeat (first | apply Kd.R_alloc | apply Kd.R_drewN | apply Kd.R_drew)); exact HO_10.out⟩, ⟨by repeat (first | (with_reducible first | exact HB.out | apply bal | apply pbN | apply bd1) | exact HB.out)⟩⟩
                   ·rw [if_neg c38] at H
                    exact absurd H (by simp)
                  ·rw [if_neg c37] at H
                   have c37b0 : ((bt a0 t206) == (bt (⟨#[72, 77, 83]⟩ : ByteArray) x11_4)) = false := beq_eq_false_iff_ne.mpr c37
                   have c37b1 : ((bt a0 t206) != (bt (⟨#[72, 77, 83]⟩ : ByteArray) x11_4)) = true := bne_iff_ne.mpr c37
                   have H' := Aside0.mk H
                   clear H
                   go_wp2_with (first | (go_at_call 188; (with_reducible refine (remontoirref02_number.calls k4 a0 x4_4 t205 t206 true _ A30.out).mono ?_); rintro e w' ⟨rfl, ⟨nd, rfl⟩⟩; (try first | exact ⟨rfl, _, World.drewN_drewN _ _ _⟩ | exact ⟨rfl, _, Eq.trans (World.drewN_drewN _ _ _) (congrArg (World.drewN _) (Nat.add_assoc _ _ _))⟩); have p34 : 0 ≤ (t206 : Int) := of_decide_eq_true (by first | (with_reducible assumption) | assumption); have q34 : t206 < (a0.size : Int) := of_decide_eq_true (by first | (with_reducible assumption) | assumption); have hx34 := bt_at a0 t206; replace p34 := eq_true p34; replace q34 := eq_true q34; have p36 : 0 ≤ (x11_4 : Int) := of_decide_eq_true (by first | (with_reducible assumption) | assumption); have q36 : x11_4 < (3 : Int) := of_decide_eq_true (by first | (with_reducible assumption) | assumption); have hx36 := bt_at (⟨#[72, 77, 83]⟩ : ByteArray) x11_4; replace p36 := eq_true p36; replace q36 := eq_true q36))
                   repeat (go_quiet (first | (go_at_call 188; (with_reducible refine (remontoirref02_number.calls k4 a0 x4_4 t205 t206 true _ A30.out).mono ?_); rintro e w' ⟨rfl, ⟨nd, rfl⟩⟩; (try first | exact ⟨rfl, _, World.drewN_drewN _ _ _⟩ | exact ⟨rfl, _, Eq.trans (World.drewN_drewN _ _ _) (congrArg (World.drewN _) (Nat.add_assoc _ _ _))⟩); have p34 : 0 ≤ (t206 : Int) := of_decide_eq_true (by first | (with_reducible assumption) | assumption); have q34 : t206 < (a0.size : Int) := of_decide_eq_true (by first | (with_reducible assumption) | assumption); have hx34 := bt_at a0 t206; replace p34 := eq_true p34; replace q34 := eq_true q34; have p36 : 0 ≤ (x11_4 : Int) := of_decide_eq_true (by first | (with_reducible assumption) | assumption); have q36 : x11_4 < (3 : Int) := of_decide_eq_true (by first | (with_reducible assumption) | assumption); have hx36 := bt_at (⟨#[72, 77, 83]⟩ : ByteArray) x11_4; replace p36 := eq_true p36; replace q36 := eq_true q36)); try go_wp2_with (first | (go_at_call 188; (with_reducible refine (remontoirref02_number.calls k4 a0 x4_4 t205 t206 true _ A30.out).mono ?_); rintro e w' ⟨rfl, ⟨nd, rfl⟩⟩; (try first | exact ⟨rfl, _, World.drewN_drewN _ _ _⟩ | exact ⟨rfl, _, Eq.trans (World.drewN_drewN _ _ _) (congrArg (World.drewN _) (Nat.add_assoc _ _ _))⟩); have p34 : 0 ≤ (t206 : Int) := of_decide_eq_true (by first | (with_reducible assumption) | assumption); have q34 : t206 < (a0.size : Int) := of_decide_eq_true (by first | (with_reducible assumption) | assumption); have hx34 := bt_at a0 t206; replace p34 := eq_true p34; replace q34 := eq_true q34; have p36 : 0 ≤ (x11_4 : Int) := of_decide_eq_true (by first | (with_reducible assumption) | assumption); have q36 : x11_4 < (3 : Int) := of_decide_eq_true (by first | (with_reducible assumption) | assumption); have hx36 := bt_at (⟨#[72, 77, 83]⟩ : ByteArray) x11_4; replace p36 := eq_true p36; replace q36 := eq_true q36)))
                   go_roundg k4
                   case measure => have := HJ1.out; have := HJ7.out; have := HJ9.out; have := HK4.out; omega
                   case rel => exact ⟨(x4_4), (x5_4), (x9_4), (wrap64 (x11_4 + 1)), (by first | rfl | (simp; done) | (simp [*]; done)), (by first | rfl | (simp; done) | (simp [*]; done)), (by first | rfl | (simp; done) | (simp [*]; done)), (by first | rfl | (simp; done) | (simp [*]; done)), H', ⟨by have := HJ1.out; have := HJ7.out; have := HJ9.out; have := HK4.out; omega⟩, ⟨by (with_reducible repeat (first | apply Kd.R_alloc | apply Kd.R_drewN | apply Kd.R_drew)); exact HO_10.out⟩, ⟨by repeat (first | (with_reducible first | exact HB.out | apply bal | apply pbN | apply bd1) | exact HB.out)⟩⟩
                 ·rw [if_neg c35] at H
                  exact absurd H (by simp)
                ·rw [if_neg c33] at H
                 exact absurd H (by simp)
               ·rw [if_neg c32] at H
                have c32b0 : decide (t206 < (a0.size : Int)) = false := decide_eq_false c32
                clear c32
                have H' := Aside0.mk H
                clear H
                go_wp2_with (first | (go_at_call 188; (with_reducible refine (remontoirref02_number.calls k4 a0 x4_4 t205 t206 true _ A30.out).mono ?_); rintro e w' ⟨rfl, ⟨nd, rfl⟩⟩; (try first | exact ⟨rfl, _, World.drewN_drewN _ _ _⟩ | exact ⟨rfl, _, Eq.trans (World.drewN_drewN _ _ _) (congrArg (World.drewN _) (Nat.add_assoc _ _ _))⟩)))
                repeat (go_quiet (first | (go_at_call 188; (with_reducible refine (remontoirref02_number.calls k4 a0 x4_4 t205 t206 true _ A30.out).mono ?_); rintro e w' ⟨rfl, ⟨nd, rfl⟩⟩; (try first | exact ⟨rfl, _, World.drewN_drewN _ _ _⟩ | exact ⟨rfl, _, Eq.trans (World.drewN_drewN _ _ _) (congrArg (World.drewN _) (Nat.add_assoc _ _ _))⟩))); try go_wp2_with (first | (go_at_call 188; (with_reducible refine (remontoirref02_number.calls k4 a0 x4_4 t205 t206 true _ A30.out).mono ?_); rintro e w' ⟨rfl, ⟨nd, rfl⟩⟩; (try first | exact ⟨rfl, _, World.drewN_drewN _ _ _⟩ | exact ⟨rfl, _, Eq.trans (World.drewN_drewN _ _ _) (congrArg (World.drewN _) (Nat.add_assoc _ _ _))⟩))))
                go_roundg k4
                case measure => have := HJ1.out; have := HJ7.out; have := HJ9.out; have := HK4.out; omega
                case rel => exact ⟨(x4_4), (x5_4), (x9_4), (wrap64 (x11_4 + 1)), (by first | rfl | (simp; done) | (simp [*]; done)), (by first | rfl | (simp; done) | (simp [*]; done)), (by first | rfl | (simp; done) | (simp [*]; done)), (by first | rfl | (simp; done) | (simp [*]; done)), H', ⟨by have := HJ1.out; have := HJ7.out; have := HJ9.out; have := HK4.out; omega⟩, ⟨by (with_reducible repeat (first | apply Kd.R_alloc | apply Kd.R_drewN | apply Kd.R_drew)); exact HO_10.out⟩, ⟨by repeat (first | (with_reducible first | exact HB.out | apply bal | apply pbN | apply bd1) | exact HB.out)⟩⟩
              ·replace c31 := Bool.eq_false_iff.mpr c31
               subst c31
               have H1 : (remontoirref02_Parse.l0 k4 a0 x4_4 x5_4 x9_4 y202 (wrap64 (x11_4 + 1))) = some (r1, r2) := by rw [if_neg (show ¬ (false = true) by decide)] at H; exact H
               clear H
               have H := H1
               clear H1
               have H' := Aside0.mk H
               clear H
               go_wp2_with (first | (go_at_call 188; (with_reducible refine (remontoirref02_number.calls k4 a0 x4_4 t205 t206 false _ A30.out).mono ?_); rintro e w' ⟨rfl, ⟨nd, rfl⟩⟩; (try first | exact ⟨rfl, _, World.drewN_drewN _ _ _⟩ | exact ⟨rfl, _, Eq.trans (World.drewN_drewN _ _ _) (congrArg (World.drewN _) (Nat.add_assoc _ _ _))⟩)))
               repeat (go_quiet (first | (go_at_call 188; (with_reducible refine (remontoirref02_number.calls k4 a0 x4_4 t205 t206 false _ A30.out).mono ?_); rintro e w' ⟨rfl, ⟨nd, rfl⟩⟩; (try first | exact ⟨rfl, _, World.drewN_drewN _ _ _⟩ | exact ⟨rfl, _, Eq.trans (World.drewN_drewN _ _ _) (congrArg (World.drewN _) (Nat.add_assoc _ _ _))⟩))); try go_wp2_with (first | (go_at_call 188; (with_reducible refine (remontoirref02_number.calls k4 a0 x4_4 t205 t206 false _ A30.out).mono ?_); rintro e w' ⟨rfl, ⟨nd, rfl⟩⟩; (try first | exact ⟨rfl, _, World.drewN_drewN _ _ _⟩ | exact ⟨rfl, _, Eq.trans (World.drewN_drewN _ _ _) (congrArg (World.drewN _) (Nat.add_assoc _ _ _))⟩))))
               go_roundg k4
               case measure => have := HJ1.out; have := HJ7.out; have := HJ9.out; have := HK4.out; omega
               case rel => exact ⟨(x4_4), (x5_4), (x9_4), (wrap64 (x11_4 + 1)), (by first | rfl | (simp; done) | (simp [*]; done)), (by first | rfl | (simp; done) | (simp [*]; done)), (by first | rfl | (simp; done) | (simp [*]; done)), (by first | rfl | (simp; done) | (simp [*]; done)), H', ⟨by have := HJ1.out; have := HJ7.out; have := HJ9.out; have := HK4.out; omega⟩, ⟨by (with_reducible repeat (first | apply Kd.R_alloc | apply Kd.R_drewN | apply Kd.R_drew)); exact HO_10.out⟩, ⟨by repeat (first | (with_reducible first | exact HB.out | apply bal | apply pbN | apply bd1) | exact HB.out)⟩⟩
             ·rw [if_neg c29] at H
              have c29b0 : decide (x11_4 < 3) = false := decide_eq_false c29
              clear c29
              have HC41 := Aside0.mk H
              clear H
              go_upto_region 29 with (fail)
              repeat (go_quiet (fail); go_upto_region 29 with (fail))
              go_cut [111] (fun v111 wc => ∃ (kq : Nat) (x111_40 : Bool), v111 = .bool x111_40 ∧ Aside0 (remontoirref02_Parse.j5 kq x5_4 x111_40 = some (r1, r2)) ∧ Aside0 (kq ≤ k4) ∧ Aside0 (Below w.heap.size w wc))
              case first =>
               have H := HC41.out
               clear HC41
               by_cases c42 : x9_4 = true
               ·subst c42
                have H1 : (remontoirref02_Parse.j5 k4 x5_4 (x4_4 != (a0.size : Int))) = some (r1, r2) := by rw [if_pos rfl] at H; exact H
                clear H
                have H := H1
                clear H1
                have H' := Aside0.mk H
                clear H
                go_wp2
                repeat (go_quiet (fail); try go_wp2)
                go_meet
                case rel => exact ⟨_, ((x4_4 != (a0.size : Int))), (by first | rfl | (simp; done) | (simp [*]; done)), H', ⟨by have := HJ1.out; have := HJ7.out; have := HJ9.out; have := HK4.out; first | omega | exact Nat.le_refl _⟩, ⟨by repeat (first | (with_reducible first | exact HB.out | apply bal | apply pbN | apply bd1) | exact HB.out)⟩⟩
               ·replace c42 := Bool.eq_false_iff.mpr c42
                subst c42
                have H1 : (remontoirref02_Parse.j5 k4 x5_4 true) = some (r1, r2) := by rw [if_neg (show ¬ (false = true) by decide)] at H; exact H
                clear H
                have H := H1
                clear H1
                have H' := Aside0.mk H
                clear H
                go_wp2
                repeat (go_quiet (fail); try go_wp2)
                go_meet
                case rel => exact ⟨_, (true), (by first | rfl | (simp; done) | (simp [*]; done)), H', ⟨by have := HJ1.out; have := HJ7.out; have := HJ9.out; have := HK4.out; first | omega | exact Nat.le_refl _⟩, ⟨by repeat (first | (with_reducible first | exact HB.out | apply bal | apply pbN | apply bd1) | exact HB.out)⟩⟩
              case rest =>
               clear HC41
               try clear c1
               try clear p1
               try clear q1
               try clear hx1
               try clear c2
               try clear p2
               try clear q2
               try clear hx2
               try clear c3
               try clear c3b0
               try clear c3b1
               try clear p3
               try clear q3
               try clear hx3
               try clear c4
               try clear c4b0
               try clear c4b1
               try clear p5
               try clear q5
               try clear hx5
               try clear qi5
               try clear c6
               try clear p6
               try clear c9
               try clear c11
               try clear c12
               try clear c12b0
               try clear c13
               try clear c13b0
               try clear p14
               try clear q14
               try clear hx14
               try clear c16
               try clear c16b0
               try clear c16b1
               try clear c17
               try clear c18
               try clear c18b0
               try clear c18b1
               try clear c20
               try clear c20b0
               try clear c20b1
               try clear p20
               try clear q20
               try clear hx20
               try clear c21
               try clear c21b0
               try clear c21b1
               try clear c23
               try clear c23b0
               try clear c24
               try clear c24b0
               try clear p25
               try clear q25
               try clear hx25
               try clear c26
               try clear c26b0
               try clear c26b1
               try clear c29
               try clear c29b0
               try clear c31
               try clear c32
               try clear c32b0
               try clear c33
               try clear c33b0
               try clear p34
               try clear q34
               try clear hx34
               try clear c35
               try clear c35b0
               try clear p36
               try clear q36
               try clear hx36
               try clear c37
               try clear c37b0
               try clear c37b1
               try clear c38
               try clear c38b0
               try clear c42
               try clear hx208_0
               try clear p1
               try clear p14
               try clear p2
               try clear p208
               try clear p25
               try clear p34
               try clear p36
               try clear p5
               try clear p6
               try clear q1
               try clear q14
               try clear q2
               try clear q208
               try clear q25
               try clear q34
               try clear q36
               try clear q5
               obtain ⟨kq, x111_40, rfl, HA, HJ40, HB⟩ := hcut
               cases kq with
               | zero => exact absurd HA.out (by simp [remontoirref02_Parse.j5])
               | succ kj40 =>
                have H := HA.out
                clear HA
                simp only [remontoirref02_Parse.j5] at H
                by_cases c43 : x111_40 = true
                ·subst c43
                 have H1 : (some (0, 2)) = some (r1, r2) := by rw [if_pos rfl] at H; exact H
                 clear H
                 have H := H1
                 clear H1
                 simp only [Option.some.injEq, Prod.mk.injEq] at H
                 obtain ⟨rfl, rfl⟩ := H
                 go_wp2
                 repeat (go_quiet (fail); try go_wp2)
                 go_ret2
                 exact ⟨by first | rfl | (simp [errW_none, errW_some] <;> rfl) | (simp [*, errW_none, errW_some] <;> rfl), by repeat (first | (with_reducible first | exact HB.out | apply bal | apply pbN | apply bd1) | exact HB.out)⟩
                ·replace c43 := Bool.eq_false_iff.mpr c43
                 subst c43
                 have H1 : (if x5_4 > 1125899906842624 then (some (0, 3)) else (some (x5_4, 0))) = some (r1, r2) := by rw [if_neg (show ¬ (false = true) by decide)] at H; exact H
                 clear H
                 have H := H1
                 clear H1
                 by_cases c44 : x5_4 > 1125899906842624
                 ·rw [if_pos c44] at H
                  have c44b0 : decide (1125899906842624 < x5_4) = true := decide_eq_true c44
                  clear c44
                  simp only [Option.some.injEq, Prod.mk.injEq] at H
                  obtain ⟨rfl, rfl⟩ := H
                  go_wp2
                  repeat (go_quiet (fail); try go_wp2)
                  go_ret2
                  exact ⟨by first | rfl | (simp [errW_none, errW_some] <;> rfl) | (simp [*, errW_none, errW_some] <;> rfl), by repeat (first | (with_reducible first | exact HB.out | apply bal | apply pbN | apply bd1) | exact HB.out)⟩
                 ·rw [if_neg c44] at H
                  have c44b0 : decide (1125899906842624 < x5_4) = false := decide_eq_false c44
                  clear c44
                  simp only [Option.some.injEq, Prod.mk.injEq] at H
                  obtain ⟨rfl, rfl⟩ := H
                  go_wp2
                  repeat (go_quiet (fail); try go_wp2)
                  go_ret2
                  exact ⟨by first | rfl | (simp [errW_none, errW_some] <;> rfl) | (simp [*, errW_none, errW_some] <;> rfl), by repeat (first | (with_reducible first | exact HB.out | apply bal | apply pbN | apply bd1) | exact HB.out)⟩
          ·rw [if_neg c26] at H
           have c26b0 : ((bt a0 x4_9) == 84) = false := beq_eq_false_iff_ne.mpr c26
           have c26b1 : ((bt a0 x4_9) != 84) = true := bne_iff_ne.mpr c26
           simp only [Option.some.injEq, Prod.mk.injEq] at H
           obtain ⟨rfl, rfl⟩ := H
           have p25 : 0 ≤ (x4_9 : Int) := of_decide_eq_true (by first | (with_reducible assumption) | assumption)
           have q25 : x4_9 < (a0.size : Int) := of_decide_eq_true (by first | (with_reducible assumption) | assumption)
           have hx25 := bt_at a0 x4_9
           replace p25 := eq_true p25
           replace q25 := eq_true q25
           go_wp2
           repeat (go_quiet (fail); try go_wp2)
           go_ret2
           exact ⟨by first | rfl | (simp [errW_none, errW_some] <;> rfl) | (simp [*, errW_none, errW_some] <;> rfl), by repeat (first | (with_reducible first | exact HB.out | apply bal | apply pbN | apply bd1) | exact HB.out)⟩
         ·rw [if_neg c24] at H
          exact absurd H (by simp)
        ·rw [if_neg c23] at H
         have c23b0 : decide (x4_9 < (a0.size : Int)) = false := decide_eq_false c23
         clear c23
         by_cases c45 : x5_9 > 1125899906842624
         ·rw [if_pos c45] at H
          have c45b0 : decide (1125899906842624 < x5_9) = true := decide_eq_true c45
          clear c45
          simp only [Option.some.injEq, Prod.mk.injEq] at H
          obtain ⟨rfl, rfl⟩ := H
          go_wp2
          repeat (go_quiet (fail); try go_wp2)
          go_ret2
          exact ⟨by first | rfl | (simp [errW_none, errW_some] <;> rfl) | (simp [*, errW_none, errW_some] <;> rfl), by repeat (first | (with_reducible first | exact HB.out | apply bal | apply pbN | apply bd1) | exact HB.out)⟩
         ·rw [if_neg c45] at H
          have c45b0 : decide (1125899906842624 < x5_9) = false := decide_eq_false c45
          clear c45
          simp only [Option.some.injEq, Prod.mk.injEq] at H
          obtain ⟨rfl, rfl⟩ := H
          go_wp2
          repeat (go_quiet (fail); try go_wp2)
          go_ret2
          exact ⟨by first | rfl | (simp [errW_none, errW_some] <;> rfl) | (simp [*, errW_none, errW_some] <;> rfl), by repeat (first | (with_reducible first | exact HB.out | apply bal | apply pbN | apply bd1) | exact HB.out)⟩

end Go.Proofs.YtdfkbiffdcfnpaaGreatDoor.H
-- Written by hp.py (a program of this session, over the kit's print.py), with hand-made contracts beside it.
namespace Go.Proofs.YtdfkbiffdcfnpaaGreatDoor.H
open Go.RowKit Go.Proofs.YtdfkbiffdcfnpaaGreatDoorW.PrintWords Go.Proofs.YtdfkbiffdcfnpaaGreatDoorW.PrintLast Go.Proofs.YtdfkbiffdcfnpaaGreatDoorW.PrintMore
attribute [local go_sem] max2_int min2_int max_two min_two max_three min_three max_four min_four   -- for this text's walks alone
set_option linter.unusedVariables false
set_option linter.unusedSimpArgs false

/-! ### remontoirref18_once: function 69 -/
def remontoirref18_once.f (k : Nat) (a0 : ByteArray) : Option (Int × Int × Bool) := (remontoirref02_Parse.f k a0).bind fun bt211 => (if bt211.2 = 0 then (if bt211.1 = 0 then (some (0, 0, false)) else (some (1, bt211.1, true))) else (some (0, 0, false)))
theorem remontoirref18_once.mono : ∀ a0 k, LeO (remontoirref18_once.f k a0) (remontoirref18_once.f (k + 1) a0) := by
  intro a0 k
  unfold remontoirref18_once.f
  repeat' first
      | (with_reducible exact remontoirref02_Parse.mono _ _)
      | (with_reducible exact LeO.refl _)
      | (with_reducible exact LeO.none _)
      | (with_reducible refine LeO.ite ?_ ?_)
      | (with_reducible refine LeO.bind ?_ (fun _ => ?_))
      | exact remontoirref02_Parse.mono _ _
      | exact LeO.none _
      | refine LeO.ite ?_ ?_
      | refine LeO.bind ?_ (fun _ => ?_)
set_option maxHeartbeats 8000000 in
set_option maxRecDepth 100000 in
theorem remontoirref18_once.calls (k : Nat) (a0 : ByteArray) (r1 : Int) (r2 : Int) (r3 : Bool) (w : World) (h : remontoirref18_once.f k a0 = some (r1, r2, r3)) :
  Calls Tryz.prog 69 #[.string a0] w fun e w' => e = .returned (.tuple #[.agg #[.int .i64 r1, .int .u64 r2], .bool r3]) ∧ Below w.heap.size w w' := by
 have hu88 := Tryz.underlying88
 have HB := Aside0.mk (Below.refl w.heap.size w)
 have H : ((remontoirref02_Parse.f k a0).bind fun bt211 => (if bt211.2 = 0 then (if bt211.1 = 0 then (some (0, 0, false)) else (some (1, bt211.1, true))) else (some (0, 0, false)))) = some (r1, r2, r3) := h
 clear h
 replace H := Option.bind_eq_some_iff.mp H
 obtain ⟨⟨t211, t212⟩, A20, H⟩ := H
 replace H : (if t212 = 0 then (if t211 = 0 then (some (0, 0, false)) else (some (1, t211, true))) else (some (0, 0, false))) = some (r1, r2, r3) := H
 have A2 := Aside0.mk A20
 clear A20
 by_cases c3 : t212 = 0
 ·rw [if_pos c3] at H
  have c3b0 : (t212 == 0) = true := beq_iff_eq.mpr c3
  have c3b1 : (t212 != 0) = false := bne_eq_false_iff_eq.mpr c3
  clear c3
  by_cases c4 : t211 = 0
  ·rw [if_pos c4] at H
   have c4b0 : (t211 == 0) = true := beq_iff_eq.mpr c4
   have c4b1 : (t211 != 0) = false := bne_eq_false_iff_eq.mpr c4
   clear c4
   simp only [Option.some.injEq, Prod.mk.injEq] at H
   obtain ⟨rfl, rfl, rfl⟩ := H
   go_enter Tryz.func69, Tryz.ntmps69
   go_wp2_with (first | ((with_reducible refine gate_dst (N := 2) rfl ?_); refine box_event ?hg (N := 2) ?hd (cs := #[.int .i64 0, .int .u64 0]) (t := 88) ?hr ?_; (case hd => rfl); (case hg => rfl); (case hr => first | (go_simp; done) | (go_simp; rfl)); intro gb210 hg w5 hbox hb; have n0_ := Aside0.mk (bsp (by repeat (first | (with_reducible first | exact HB.out | apply bal | apply pbN | apply bd1) | exact HB.out)) hb); have n1_ := Aside0.mk (hbox); have n2_ := Aside0.mk ((by rw [hg]; exact (bsz (by repeat (first | (with_reducible first | exact HB.out | apply bal | apply pbN | apply bd1) | exact HB.out))) : w.heap.size ≤ gb210)); have n3_ := Aside0.mk ((by rw [hg]; exact (bsz (by repeat (first | (with_reducible first | exact HB.out | apply bal | apply pbN | apply bd1) | exact HB.out))) : w.heap.size ≤ gb210)); clear HB; have HB := n0_; have BK210 := n1_; have GW210 := n2_; have GE210 := n3_; clear n0_ n1_ n2_ n3_; clear hb hbox hg) | ((with_reducible refine gate_callee (f := 119) rfl ?_); refine goesL_ (some 8) rfl rfl Tryz.func119 (by kernel_rfl) rfl #[.string a0] rfl (by (try simp only [List.map_toArray, List.map_cons, List.map_nil]); first | done | rfl | (simp only [List.length_drop, List.length_take]; rfl)) ?_; (with_reducible refine (remontoirref02_Parse.calls k a0 t211 t212 _ A2.out).mono ?_); rintro e w6 ⟨rfl, hb⟩; refine ⟨_, rfl, ?_⟩; have n0_ := Aside0.mk (bbe (g := gb210) (o := .cells #[.int .i64 0, .int .u64 0] 88 (0, 0)) (by (with_reducible repeat (first | refine bkn ?_ _ | refine bkd ?_ | refine bka ?_ _)); exact BK210.out) hb); have n1_ := Aside0.mk (bsp (by repeat (first | (with_reducible first | exact HB.out | apply bal | apply pbN | apply bd1 | refine bst ?_ GE210.out) | exact HB.out)) hb); clear BK210; clear HB; have BK210 := n0_; have HB := n1_; clear n0_ n1_; (try clear hb); (try clear hb2); (try clear hk); (try clear hi); have hcz7_0 : w6.cell? ⟨gb210, 0, none⟩ = some (.int .i64 0) := (bce BK210.out 0).trans rfl; have hcz7_1 : w6.cell? ⟨gb210, 1, none⟩ = some (.int .u64 0) := (bce BK210.out 1).trans rfl; have hfz7_0 := bfz BK210.out 0; have hfz7_1 := bfz BK210.out 1))
   refine bodyPost_ret (results_ct rfl _ _ gb210 88 #[.int .i64 0, .int .u64 0] (0, 0) _ rfl (by (with_reducible repeat (first | refine bkn ?_ _ | refine bkd ?_ | refine bka ?_ _)); refine blk_put (cs := #[.int .i64 0, .int .u64 0]) ?_ 1 _ rfl; (with_reducible repeat (first | refine bkn ?_ _ | refine bkd ?_ | refine bka ?_ _)); refine blk_put (cs := #[.int .i64 0, .int .u64 0]) ?_ 0 _ rfl; (with_reducible repeat (first | refine bkn ?_ _ | refine bkd ?_ | refine bka ?_ _)); exact BK210.out) Tryz.underlying88 rfl (by kernel_rfl)) rfl ?_
   exact ⟨by first | rfl | (simp [errW_none, errW_some] <;> rfl) | (simp [*, errW_none, errW_some] <;> rfl), by repeat (first | (with_reducible first | exact HB.out | apply bal | apply pbN | apply bd1 | refine bst ?_ GE210.out) | exact HB.out)⟩
  ·rw [if_neg c4] at H
   have c4b0 : (t211 == 0) = false := beq_eq_false_iff_ne.mpr c4
   have c4b1 : (t211 != 0) = true := bne_iff_ne.mpr c4
   simp only [Option.some.injEq, Prod.mk.injEq] at H
   obtain ⟨rfl, rfl, rfl⟩ := H
   go_enter Tryz.func69, Tryz.ntmps69
   go_wp2_with (first | ((with_reducible refine gate_dst (N := 2) rfl ?_); refine box_event ?hg (N := 2) ?hd (cs := #[.int .i64 0, .int .u64 0]) (t := 88) ?hr ?_; (case hd => rfl); (case hg => rfl); (case hr => first | (go_simp; done) | (go_simp; rfl)); intro gb210 hg w8 hbox hb; have n0_ := Aside0.mk (bsp (by repeat (first | (with_reducible first | exact HB.out | apply bal | apply pbN | apply bd1) | exact HB.out)) hb); have n1_ := Aside0.mk (hbox); have n2_ := Aside0.mk ((by rw [hg]; exact (bsz (by repeat (first | (with_reducible first | exact HB.out | apply bal | apply pbN | apply bd1) | exact HB.out))) : w.heap.size ≤ gb210)); have n3_ := Aside0.mk ((by rw [hg]; exact (bsz (by repeat (first | (with_reducible first | exact HB.out | apply bal | apply pbN | apply bd1) | exact HB.out))) : w.heap.size ≤ gb210)); clear HB; have HB := n0_; have BK210 := n1_; have GW210 := n2_; have GE210 := n3_; clear n0_ n1_ n2_ n3_; clear hb hbox hg) | ((with_reducible refine gate_callee (f := 119) rfl ?_); refine goesL_ (some 8) rfl rfl Tryz.func119 (by kernel_rfl) rfl #[.string a0] rfl (by (try simp only [List.map_toArray, List.map_cons, List.map_nil]); first | done | rfl | (simp only [List.length_drop, List.length_take]; rfl)) ?_; (with_reducible refine (remontoirref02_Parse.calls k a0 t211 t212 _ A2.out).mono ?_); rintro e w9 ⟨rfl, hb⟩; refine ⟨_, rfl, ?_⟩; have n0_ := Aside0.mk (bbe (g := gb210) (o := .cells #[.int .i64 0, .int .u64 0] 88 (0, 0)) (by (with_reducible repeat (first | refine bkn ?_ _ | refine bkd ?_ | refine bka ?_ _)); exact BK210.out) hb); have n1_ := Aside0.mk (bsp (by repeat (first | (with_reducible first | exact HB.out | apply bal | apply pbN | apply bd1 | refine bst ?_ GE210.out) | exact HB.out)) hb); clear BK210; clear HB; have BK210 := n0_; have HB := n1_; clear n0_ n1_; (try clear hb); (try clear hb2); (try clear hk); (try clear hi); have hcz10_0 : w9.cell? ⟨gb210, 0, none⟩ = some (.int .i64 0) := (bce BK210.out 0).trans rfl; have hcz10_1 : w9.cell? ⟨gb210, 1, none⟩ = some (.int .u64 0) := (bce BK210.out 1).trans rfl; have hfz10_0 := bfz BK210.out 0; have hfz10_1 := bfz BK210.out 1))
   refine bodyPost_ret (results_ct rfl _ _ gb210 88 #[.int .i64 1, .int .u64 t211] (0, 0) _ rfl (by (with_reducible repeat (first | refine bkn ?_ _ | refine bkd ?_ | refine bka ?_ _)); refine blk_put (cs := #[.int .i64 1, .int .u64 0]) ?_ 1 _ rfl; (with_reducible repeat (first | refine bkn ?_ _ | refine bkd ?_ | refine bka ?_ _)); refine blk_put (cs := #[.int .i64 0, .int .u64 0]) ?_ 0 _ rfl; (with_reducible repeat (first | refine bkn ?_ _ | refine bkd ?_ | refine bka ?_ _)); exact BK210.out) Tryz.underlying88 rfl (by kernel_rfl)) rfl ?_
   exact ⟨by first | rfl | (simp [errW_none, errW_some] <;> rfl) | (simp [*, errW_none, errW_some] <;> rfl), by repeat (first | (with_reducible first | exact HB.out | apply bal | apply pbN | apply bd1 | refine bst ?_ GE210.out) | exact HB.out)⟩
 ·rw [if_neg c3] at H
  have c3b0 : (t212 == 0) = false := beq_eq_false_iff_ne.mpr c3
  have c3b1 : (t212 != 0) = true := bne_iff_ne.mpr c3
  simp only [Option.some.injEq, Prod.mk.injEq] at H
  obtain ⟨rfl, rfl, rfl⟩ := H
  go_enter Tryz.func69, Tryz.ntmps69
  go_wp2_with (first | ((with_reducible refine gate_dst (N := 2) rfl ?_); refine box_event ?hg (N := 2) ?hd (cs := #[.int .i64 0, .int .u64 0]) (t := 88) ?hr ?_; (case hd => rfl); (case hg => rfl); (case hr => first | (go_simp; done) | (go_simp; rfl)); intro gb210 hg w11 hbox hb; have n0_ := Aside0.mk (bsp (by repeat (first | (with_reducible first | exact HB.out | apply bal | apply pbN | apply bd1) | exact HB.out)) hb); have n1_ := Aside0.mk (hbox); have n2_ := Aside0.mk ((by rw [hg]; exact (bsz (by repeat (first | (with_reducible first | exact HB.out | apply bal | apply pbN | apply bd1) | exact HB.out))) : w.heap.size ≤ gb210)); have n3_ := Aside0.mk ((by rw [hg]; exact (bsz (by repeat (first | (with_reducible first | exact HB.out | apply bal | apply pbN | apply bd1) | exact HB.out))) : w.heap.size ≤ gb210)); clear HB; have HB := n0_; have BK210 := n1_; have GW210 := n2_; have GE210 := n3_; clear n0_ n1_ n2_ n3_; clear hb hbox hg) | ((with_reducible refine gate_callee (f := 119) rfl ?_); refine goesL_ (some 8) rfl rfl Tryz.func119 (by kernel_rfl) rfl #[.string a0] rfl (by (try simp only [List.map_toArray, List.map_cons, List.map_nil]); first | done | rfl | (simp only [List.length_drop, List.length_take]; rfl)) ?_; (with_reducible refine (remontoirref02_Parse.calls k a0 t211 t212 _ A2.out).mono ?_); rintro e w12 ⟨rfl, hb⟩; refine ⟨_, rfl, ?_⟩; have n0_ := Aside0.mk (bbe (g := gb210) (o := .cells #[.int .i64 0, .int .u64 0] 88 (0, 0)) (by (with_reducible repeat (first | refine bkn ?_ _ | refine bkd ?_ | refine bka ?_ _)); exact BK210.out) hb); have n1_ := Aside0.mk (bsp (by repeat (first | (with_reducible first | exact HB.out | apply bal | apply pbN | apply bd1 | refine bst ?_ GE210.out) | exact HB.out)) hb); clear BK210; clear HB; have BK210 := n0_; have HB := n1_; clear n0_ n1_; (try clear hb); (try clear hb2); (try clear hk); (try clear hi); have hcz13_0 : w12.cell? ⟨gb210, 0, none⟩ = some (.int .i64 0) := (bce BK210.out 0).trans rfl; have hcz13_1 : w12.cell? ⟨gb210, 1, none⟩ = some (.int .u64 0) := (bce BK210.out 1).trans rfl; have hfz13_0 := bfz BK210.out 0; have hfz13_1 := bfz BK210.out 1))
  refine bodyPost_ret (results_ct rfl _ _ gb210 88 #[.int .i64 0, .int .u64 0] (0, 0) _ rfl (by (with_reducible repeat (first | refine bkn ?_ _ | refine bkd ?_ | refine bka ?_ _)); refine blk_put (cs := #[.int .i64 0, .int .u64 0]) ?_ 1 _ rfl; (with_reducible repeat (first | refine bkn ?_ _ | refine bkd ?_ | refine bka ?_ _)); refine blk_put (cs := #[.int .i64 0, .int .u64 0]) ?_ 0 _ rfl; (with_reducible repeat (first | refine bkn ?_ _ | refine bkd ?_ | refine bka ?_ _)); exact BK210.out) Tryz.underlying88 rfl (by kernel_rfl)) rfl ?_
  exact ⟨by first | rfl | (simp [errW_none, errW_some] <;> rfl) | (simp [*, errW_none, errW_some] <;> rfl), by repeat (first | (with_reducible first | exact HB.out | apply bal | apply pbN | apply bd1 | refine bst ?_ GE210.out) | exact HB.out)⟩

end Go.Proofs.YtdfkbiffdcfnpaaGreatDoor.H
-- Written by hp.py (a program of this session, over the kit's print.py), with hand-made contracts beside it.
namespace Go.Proofs.YtdfkbiffdcfnpaaGreatDoor.H
open Go.RowKit Go.Proofs.YtdfkbiffdcfnpaaGreatDoorW.PrintWords Go.Proofs.YtdfkbiffdcfnpaaGreatDoorW.PrintLast Go.Proofs.YtdfkbiffdcfnpaaGreatDoorW.PrintMore
attribute [local go_sem] max2_int min2_int max_two min_two max_three min_three max_four min_four   -- for this text's walks alone
set_option linter.unusedVariables false
set_option linter.unusedSimpArgs false

/-! ### remontoirref03_Parse: function 70 -/
mutual
def remontoirref03_Parse.j0 : Nat → ByteArray → Bool → Int → Int → Option (Int × Int × Int)
  | 0, _, _, _, _ => none
  | k + 1, x0, x17, x215000, x215001 => if x17 = true then (some (x215000, x215001, 2)) else (if (x0.size : Int) > 1 then (if 1 < (x0.size : Int) then (remontoirref03_Parse.j1 k x0 ((bt x0 1) == 47) x215000 x215001) else (none)) else (remontoirref03_Parse.j1 k x0 false x215000 x215001))
def remontoirref03_Parse.j1 : Nat → ByteArray → Bool → Int → Int → Option (Int × Int × Int)
  | 0, _, _, _, _ => none
  | k + 1, x0, x26, x215000, x215001 => if x26 = true then (some (x215000, x215001, 5)) else (remontoirref03_Parse.l0 k x0 1 0 x215000 x215001)
def remontoirref03_Parse.l0 : Nat → ByteArray → Int → Int → Int → Int → Option (Int × Int × Int)
  | 0, _, _, _, _, _ => none
  | k + 1, x0, x5, x6, x215000, x215001 => if x5 < (x0.size : Int) then (if 0 ≤ x5 then (if (bt x0 x5) ≥ 48 then (remontoirref03_Parse.j3 k x0 x5 x6 (decide ((bt x0 x5) ≤ 57)) x215000 x215001) else (remontoirref03_Parse.j3 k x0 x5 x6 false x215000 x215001)) else (none)) else (remontoirref03_Parse.j3 k x0 x5 x6 false x215000 x215001)
def remontoirref03_Parse.j3 : Nat → ByteArray → Int → Int → Bool → Int → Int → Option (Int × Int × Int)
  | 0, _, _, _, _, _, _ => none
  | k + 1, x0, x5, x6, x43, x215000, x215001 => if x43 = true then (if x5 < 9 then (if 0 ≤ x5 then (if x5 < (x0.size : Int) then (remontoirref03_Parse.l0 k x0 (wrap64 (x5 + 1)) (wrap64 ((wrap64 (10 * x6)) + (((bt x0 x5) - 48) % 256))) x215000 x215001) else (none)) else (none)) else (remontoirref03_Parse.l0 k x0 (wrap64 (x5 + 1)) x6 x215000 x215001)) else (if x5 = 1 then (remontoirref03_Parse.j4 k x0 x5 x6 true x215000 x215001) else (if x5 > 8 then (remontoirref03_Parse.j4 k x0 x5 x6 true x215000 x215001) else (if 1 < (x0.size : Int) then (if (bt x0 1) = 48 then (remontoirref03_Parse.j4 k x0 x5 x6 true x215000 x215001) else (if x5 = (x0.size : Int) then (remontoirref03_Parse.j4 k x0 x5 x6 true x215000 x215001) else (if 0 ≤ x5 then (if x5 < (x0.size : Int) then (remontoirref03_Parse.j4 k x0 x5 x6 ((bt x0 x5) != 47) x215000 x215001) else (none)) else (none)))) else (none))))
def remontoirref03_Parse.j4 : Nat → ByteArray → Int → Int → Bool → Int → Int → Option (Int × Int × Int)
  | 0, _, _, _, _, _, _ => none
  | k + 1, x0, x5, x6, x78, x215000, x215001 => if x78 = true then (some (x215000, x215001, 2)) else (if x6 > 1000000 then (some (x215000, x215001, 3)) else (if 0 ≤ (wrap64 (x5 + 1)) then (if (wrap64 (x5 + 1)) ≤ (x0.size : Int) then ((remontoirref02_Parse.f k (x0.extract ((wrap64 (x5 + 1)) : Int).toNat x0.size)).bind fun bt215 => (if bt215.2 = 0 then (if bt215.1 = 0 then (some (x215000, x215001, 6)) else (some (x6, bt215.1, 0))) else (some (x215000, x215001, bt215.2)))) else (none)) else (none)))
end
def remontoirref03_Parse.f (k : Nat) (a0 : ByteArray) : Option (Int × Int × Int) := if (a0.size : Int) < 1 then (remontoirref03_Parse.j0 k a0 true 0 0) else (if 0 < (a0.size : Int) then (remontoirref03_Parse.j0 k a0 ((bt a0 0) != 82) 0 0) else (none))
theorem remontoirref03_Parse.mono_l : ∀ k, (∀ y0 y1 y2 y3, LeO (remontoirref03_Parse.j0 k y0 y1 y2 y3) (remontoirref03_Parse.j0 (k + 1) y0 y1 y2 y3)) ∧ (∀ y0 y1 y2 y3, LeO (remontoirref03_Parse.j1 k y0 y1 y2 y3) (remontoirref03_Parse.j1 (k + 1) y0 y1 y2 y3)) ∧ (∀ y0 y1 y2 y3 y4, LeO (remontoirref03_Parse.l0 k y0 y1 y2 y3 y4) (remontoirref03_Parse.l0 (k + 1) y0 y1 y2 y3 y4)) ∧ (∀ y0 y1 y2 y3 y4 y5, LeO (remontoirref03_Parse.j3 k y0 y1 y2 y3 y4 y5) (remontoirref03_Parse.j3 (k + 1) y0 y1 y2 y3 y4 y5)) ∧ (∀ y0 y1 y2 y3 y4 y5, LeO (remontoirref03_Parse.j4 k y0 y1 y2 y3 y4 y5) (remontoirref03_Parse.j4 (k + 1) y0 y1 y2 y3 y4 y5))
 | 0 => ⟨fun _ _ _ _ r h => by simp [remontoirref03_Parse.j0] at h, fun _ _ _ _ r h => by simp [remontoirref03_Parse.j1] at h, fun _ _ _ _ _ r h => by simp [remontoirref03_Parse.l0] at h, fun _ _ _ _ _ _ r h => by simp [remontoirref03_Parse.j3] at h, fun _ _ _ _ _ _ r h => by simp [remontoirref03_Parse.j4] at h⟩
 | k + 1 => by
  obtain ⟨ih0, ih1, ih2, ih3, ih4⟩ := remontoirref03_Parse.mono_l k
  refine ⟨?_, ?_, ?_, ?_, ?_⟩
  ·intro y0 y1 y2 y3
   unfold remontoirref03_Parse.j0
   repeat' first
   | (with_reducible exact ih0 _ _ _ _)
   | (with_reducible exact ih1 _ _ _ _)
   | (with_reducible exact ih2 _ _ _ _ _)
   | (with_reducible exact ih3 _ _ _ _ _ _)
   | (with_reducible exact ih4 _ _ _ _ _ _)
   | (with_reducible exact remontoirref02_Parse.mono _ _)
   | (with_reducible exact LeO.refl _)
   | (with_reducible exact LeO.none _)
   | (with_reducible refine LeO.ite ?_ ?_)
   | (with_reducible refine LeO.bind ?_ (fun _ => ?_))
   | exact ih0 _ _ _ _
   | exact ih1 _ _ _ _
   | exact ih2 _ _ _ _ _
   | exact ih3 _ _ _ _ _ _
   | exact ih4 _ _ _ _ _ _
   | exact remontoirref02_Parse.mono _ _
   | exact LeO.none _
   | refine LeO.ite ?_ ?_
   | refine LeO.bind ?_ (fun _ => ?_)
  ·intro y0 y1 y2 y3
   unfold remontoirref03_Parse.j1
   repeat' first
   | (with_reducible exact ih0 _ _ _ _)
   | (with_reducible exact ih1 _ _ _ _)
   | (with_reducible exact ih2 _ _ _ _ _)
   | (with_reducible exact ih3 _ _ _ _ _ _)
   | (with_reducible exact ih4 _ _ _ _ _ _)
   | (with_reducible exact remontoirref02_Parse.mono _ _)
   | (with_reducible exact LeO.refl _)
   | (with_reducible exact LeO.none _)
   | (with_reducible refine LeO.ite ?_ ?_)
   | (with_reducible refine LeO.bind ?_ (fun _ => ?_))
   | exact ih0 _ _ _ _
   | exact ih1 _ _ _ _
   | exact ih2 _ _ _ _ _
   | exact ih3 _ _ _ _ _ _
   | exact ih4 _ _ _ _ _ _
   | exact remontoirref02_Parse.mono _ _
   | exact LeO.none _
   | refine LeO.ite ?_ ?_
   | refine LeO.bind ?_ (fun _ => ?_)
  ·intro y0 y1 y2 y3 y4
   unfold remontoirref03_Parse.l0
   repeat' first
   | (with_reducible exact ih0 _ _ _ _)
   | (with_reducible exact ih1 _ _ _ _)
   | (with_reducible exact ih2 _ _ _ _ _)
   | (with_reducible exact ih3 _ _ _ _ _ _)
   | (with_reducible exact ih4 _ _ _ _ _ _)
   | (with_reducible exact remontoirref02_Parse.mono _ _)
   | (with_reducible exact LeO.refl _)
   | (with_reducible exact LeO.none _)
   | (with_reducible refine LeO.ite ?_ ?_)
   | (with_reducible refine LeO.bind ?_ (fun _ => ?_))
   | exact ih0 _ _ _ _
   | exact ih1 _ _ _ _
   | exact ih2 _ _ _ _ _
   | exact ih3 _ _ _ _ _ _
   | exact ih4 _ _ _ _ _ _
   | exact remontoirref02_Parse.mono _ _
   | exact LeO.none _
   | refine LeO.ite ?_ ?_
   | refine LeO.bind ?_ (fun _ => ?_)
  ·intro y0 y1 y2 y3 y4 y5
   unfold remontoirref03_Parse.j3
   repeat' first
   | (with_reducible exact ih0 _ _ _ _)
   | (with_reducible exact ih1 _ _ _ _)
   | (with_reducible exact ih2 _ _ _ _ _)
   | (with_reducible exact ih3 _ _ _ _ _ _)
   | (with_reducible exact ih4 _ _ _ _ _ _)
   | (with_reducible exact remontoirref02_Parse.mono _ _)
   | (with_reducible exact LeO.refl _)
   | (with_reducible exact LeO.none _)
   | (with_reducible refine LeO.ite ?_ ?_)
   | (with_reducible refine LeO.bind ?_ (fun _ => ?_))
   | exact ih0 _ _ _ _
   | exact ih1 _ _ _ _
   | exact ih2 _ _ _ _ _
   | exact ih3 _ _ _ _ _ _
   | exact ih4 _ _ _ _ _ _
   | exact remontoirref02_Parse.mono _ _
   | exact LeO.none _
   | refine LeO.ite ?_ ?_
   | refine LeO.bind ?_ (fun _ => ?_)
  ·intro y0 y1 y2 y3 y4 y5
   unfold remontoirref03_Parse.j4
   repeat' first
   | (with_reducible exact ih0 _ _ _ _)
   | (with_reducible exact ih1 _ _ _ _)
   | (with_reducible exact ih2 _ _ _ _ _)
   | (with_reducible exact ih3 _ _ _ _ _ _)
   | (with_reducible exact ih4 _ _ _ _ _ _)
   | (with_reducible exact remontoirref02_Parse.mono _ _)
   | (with_reducible exact LeO.refl _)
   | (with_reducible exact LeO.none _)
   | (with_reducible refine LeO.ite ?_ ?_)
   | (with_reducible refine LeO.bind ?_ (fun _ => ?_))
   | exact ih0 _ _ _ _
   | exact ih1 _ _ _ _
   | exact ih2 _ _ _ _ _
   | exact ih3 _ _ _ _ _ _
   | exact ih4 _ _ _ _ _ _
   | exact remontoirref02_Parse.mono _ _
   | exact LeO.none _
   | refine LeO.ite ?_ ?_
   | refine LeO.bind ?_ (fun _ => ?_)
theorem remontoirref03_Parse.mono : ∀ a0 k, LeO (remontoirref03_Parse.f k a0) (remontoirref03_Parse.f (k + 1) a0) := by
  intro a0 k
  obtain ⟨ih0, ih1, ih2, ih3, ih4⟩ := remontoirref03_Parse.mono_l k
  unfold remontoirref03_Parse.f
  repeat' first
      | (with_reducible exact ih0 _ _ _ _)
      | (with_reducible exact ih1 _ _ _ _)
      | (with_reducible exact ih2 _ _ _ _ _)
      | (with_reducible exact ih3 _ _ _ _ _ _)
      | (with_reducible exact ih4 _ _ _ _ _ _)
      | (with_reducible exact remontoirref02_Parse.mono _ _)
      | (with_reducible exact LeO.refl _)
      | (with_reducible exact LeO.none _)
      | (with_reducible refine LeO.ite ?_ ?_)
      | (with_reducible refine LeO.bind ?_ (fun _ => ?_))
      | exact ih0 _ _ _ _
      | exact ih1 _ _ _ _
      | exact ih2 _ _ _ _ _
      | exact ih3 _ _ _ _ _ _
      | exact ih4 _ _ _ _ _ _
      | exact remontoirref02_Parse.mono _ _
      | exact LeO.none _
      | refine LeO.ite ?_ ?_
      | refine LeO.bind ?_ (fun _ => ?_)
set_option maxHeartbeats 8000000 in
set_option maxRecDepth 100000 in
theorem remontoirref03_Parse.calls (k : Nat) (a0 : ByteArray) (r1 : Int) (r2 : Int) (r3 : Int) (w : World) (h : remontoirref03_Parse.f k a0 = some (r1, r2, r3)) :
  Calls Tryz.prog 70 #[.string a0] w fun e w' => e = .returned (.tuple #[.agg #[.int .i64 r1, .int .u64 r2], .int .i64 r3]) ∧ Below w.heap.size w w' := by
 have hu88 := Tryz.underlying88
 have HB := Aside0.mk (Below.refl w.heap.size w)
 have H : (if (a0.size : Int) < 1 then (remontoirref03_Parse.j0 k a0 true 0 0) else (if 0 < (a0.size : Int) then (remontoirref03_Parse.j0 k a0 ((bt a0 0) != 82) 0 0) else (none))) = some (r1, r2, r3) := h
 clear h
 have HC2 := Aside0.mk H
 clear H
 go_enter Tryz.func70, Tryz.ntmps70
 go_upto_region 2 with (first | ((with_reducible refine gate_dst (N := 2) rfl ?_); (try (refine gate_guard (by rfl) ?_; dsimp only)); refine box_event ?hg (N := 2) ?hd (cs := #[.int .i64 0, .int .u64 0]) (t := 88) ?hr ?_; (case hd => rfl); (case hg => rfl); (case hr => first | (go_simp; done) | (go_simp; rfl)); intro gb213 hg w3 hbox hb; have n0_ := Aside0.mk (bsp (by repeat (first | (with_reducible first | exact HB.out | apply bal | apply pbN | apply bd1) | exact HB.out)) hb); have n1_ := Aside0.mk (hbox); have n2_ := Aside0.mk ((by rw [hg]; exact (bsz (by repeat (first | (with_reducible first | exact HB.out | apply bal | apply pbN | apply bd1) | exact HB.out))) : w.heap.size ≤ gb213)); have n3_ := Aside0.mk ((by rw [hg]; exact (bsz (by repeat (first | (with_reducible first | exact HB.out | apply bal | apply pbN | apply bd1) | exact HB.out))) : w.heap.size ≤ gb213)); clear HB; have HB := n0_; have BK213 := n1_; have GW213 := n2_; have GE213 := n3_; clear n0_ n1_ n2_ n3_; clear hb hbox hg) | ((with_reducible refine gate_dst (N := 4) rfl ?_); (try (refine gate_guard (by rfl) ?_; dsimp only)); refine box_event ?hg (N := 4) ?hd (cs := #[.int .i64 0, .int .u64 0]) (t := 88) ?hr ?_; (case hd => rfl); (case hg => rfl); (case hr => first | (go_simp; done) | (go_simp; rfl)); intro gb214 hg w4 hbox hb; have n0_ := Aside0.mk (bbe (g := gb213) (o := .cells #[.int .i64 0, .int .u64 0] 88 (0, 0)) (by (with_reducible repeat (first | refine bkn ?_ _ | refine bkd ?_ | refine bka ?_ _)); exact BK213.out) hb); have n1_ := Aside0.mk (bsp (by repeat (first | (with_reducible first | exact HB.out | apply bal | apply pbN | apply bd1 | refine bst ?_ GE213.out) | exact HB.out)) hb); have n2_ := Aside0.mk (hbox); have n3_ := Aside0.mk ((by rw [hg]; exact (bsz (by repeat (first | (with_reducible first | exact HB.out | apply bal | apply pbN | apply bd1 | refine bst ?_ GE213.out) | exact HB.out))) : w.heap.size ≤ gb214)); have n4_ := Aside0.mk ((by rw [hg]; exact (bsz (by repeat (first | (with_reducible first | exact HB.out | apply bal | apply pbN | apply bd1 | refine bst ?_ GE213.out) | exact HB.out))) : w.heap.size ≤ gb214)); have n5_ := Aside0.mk ((by rw [hg]; exact Nat.ne_of_lt (blk_lt (g := gb213) (o := .cells #[.int .i64 0, .int .u64 0] 88 (0, 0)) (by (with_reducible repeat (first | refine bkn ?_ _ | refine bkd ?_ | refine bka ?_ _)); exact BK213.out)) : gb213 ≠ gb214)); have n6_ := Aside0.mk ((by rw [hg]; exact Nat.ne_of_gt (blk_lt (g := gb213) (o := .cells #[.int .i64 0, .int .u64 0] 88 (0, 0)) (by (with_reducible repeat (first | refine bkn ?_ _ | refine bkd ?_ | refine bka ?_ _)); exact BK213.out)) : gb214 ≠ gb213)); clear BK213; clear HB; have BK213 := n0_; have HB := n1_; have BK214 := n2_; have GW214 := n3_; have GE214 := n4_; have NB213_214 := n5_; have NB214_213 := n6_; clear n0_ n1_ n2_ n3_ n4_ n5_ n6_; clear hb hbox hg; have hnb5 := NB214_213.out; have hnc5 := NB213_214.out; have hcz6_0 : w4.cell? ⟨gb214, 0, none⟩ = some (.int .i64 0) := (bce BK214.out 0).trans rfl; have hcz6_1 : w4.cell? ⟨gb214, 1, none⟩ = some (.int .u64 0) := (bce BK214.out 1).trans rfl; have hfz6_0 := bfz BK214.out 0; have hfz6_1 := bfz BK214.out 1))
 (try simp only [Act.put, List.setIfInBounds_toArray, List.set_cons_zero, List.set_cons_succ])
 go_cut [17] (fun v17 wc => ∃ (kq : Nat) (x17_1 : Bool), v17 = .bool x17_1 ∧ Aside0 (remontoirref03_Parse.j0 kq a0 x17_1 0 0 = some (r1, r2, r3)) ∧ Aside0 (kq ≤ k) ∧ Aside0 (wc.heap[gb213]? = some (.cells #[.int .i64 0, .int .u64 0] 88 (0, 0))) ∧ Aside0 (wc.heap[gb214]? = some (.cells #[.int .i64 0, .int .u64 0] 88 (0, 0))) ∧ Aside0 (Below w.heap.size w wc))
 case first =>
  have H := HC2.out
  clear HC2
  by_cases c7 : (a0.size : Int) < 1
  ·rw [if_pos c7] at H
   have c7b0 : decide ((a0.size : Int) < 1) = true := decide_eq_true c7
   have c7b1 : decide (a0.size < 1) = true := decide_eq_true (by omega)
   clear c7
   (first | rw [c7b0] | (simp only [i64_w, i32_w]; rw [c7b0]) | skip)
   have H' := Aside0.mk H
   clear H
   go_wp2
   go_meet
   case rel => exact ⟨_, (true), (by first | rfl | (simp; done) | (simp [*]; done)), H', ⟨by first | omega | exact Nat.le_refl _⟩, ⟨by (with_reducible repeat (first | refine bkn ?_ _ | refine bkd ?_ | refine bka ?_ _)); refine blk_far ?_ NB213_214.out _; (with_reducible repeat (first | refine bkn ?_ _ | refine bkd ?_ | refine bka ?_ _)); refine blk_far ?_ NB213_214.out _; (with_reducible repeat (first | refine bkn ?_ _ | refine bkd ?_ | refine bka ?_ _)); exact BK213.out⟩, ⟨by (with_reducible repeat (first | refine bkn ?_ _ | refine bkd ?_ | refine bka ?_ _)); refine blk_put (cs := #[.int .i64 0, .int .u64 0]) ?_ 1 _ rfl; (with_reducible repeat (first | refine bkn ?_ _ | refine bkd ?_ | refine bka ?_ _)); refine blk_put (cs := #[.int .i64 0, .int .u64 0]) ?_ 0 _ rfl; (with_reducible repeat (first | refine bkn ?_ _ | refine bkd ?_ | refine bka ?_ _)); exact BK214.out⟩, ⟨by repeat (first | (with_reducible first | exact HB.out | apply bal | apply pbN | apply bd1 | refine bst ?_ GE213.out | refine bst ?_ GE214.out) | exact HB.out)⟩⟩
  ·rw [if_neg c7] at H
   have c7b0 : decide ((a0.size : Int) < 1) = false := decide_eq_false c7
   have c7b1 : decide (a0.size < 1) = false := decide_eq_false (by omega)
   clear c7
   (first | rw [c7b0] | (simp only [i64_w, i32_w]; rw [c7b0]) | skip)
   by_cases c8 : 0 < (a0.size : Int)
   ·rw [if_pos c8] at H
    have c8b0 : decide (0 < (a0.size : Int)) = true := decide_eq_true c8
    have c8b1 : decide (0 < a0.size) = true := decide_eq_true (by omega)
    clear c8
    have H' := Aside0.mk H
    clear H
    have p9 : 0 ≤ (0 : Int) := (by omega)
    have q9 : 0 < a0.size := (by have : (0 : Int) < (a0.size : Int) := of_decide_eq_true (by first | (with_reducible assumption) | assumption); omega)
    have hx9 : ∀ h : 0 < a0.size, ((a0[0]'h).toNat : Int) = bt a0 0 := bt_at a0 0
    clear p9
    have qi9 : (0 < (a0.size : Int)) = True := eq_true (of_decide_eq_true (by first | (with_reducible assumption) | assumption))
    replace q9 := eq_true q9
    go_wp2
    go_meet
    case rel => exact ⟨_, (((bt a0 0) != 82)), (by first | rfl | (simp; done) | (simp [*]; done)), H', ⟨by first | omega | exact Nat.le_refl _⟩, ⟨by (with_reducible repeat (first | refine bkn ?_ _ | refine bkd ?_ | refine bka ?_ _)); refine blk_far ?_ NB213_214.out _; (with_reducible repeat (first | refine bkn ?_ _ | refine bkd ?_ | refine bka ?_ _)); refine blk_far ?_ NB213_214.out _; (with_reducible repeat (first | refine bkn ?_ _ | refine bkd ?_ | refine bka ?_ _)); exact BK213.out⟩, ⟨by (with_reducible repeat (first | refine bkn ?_ _ | refine bkd ?_ | refine bka ?_ _)); refine blk_put (cs := #[.int .i64 0, .int .u64 0]) ?_ 1 _ rfl; (with_reducible repeat (first | refine bkn ?_ _ | refine bkd ?_ | refine bka ?_ _)); refine blk_put (cs := #[.int .i64 0, .int .u64 0]) ?_ 0 _ rfl; (with_reducible repeat (first | refine bkn ?_ _ | refine bkd ?_ | refine bka ?_ _)); exact BK214.out⟩, ⟨by repeat (first | (with_reducible first | exact HB.out | apply bal | apply pbN | apply bd1 | refine bst ?_ GE213.out | refine bst ?_ GE214.out) | exact HB.out)⟩⟩
   ·rw [if_neg c8] at H
    exact absurd H (by simp)
 case rest =>
  clear HC2
  try clear p2
  try clear c5
  try clear c7
  try clear c7b0
  try clear c7b1
  try clear c8
  try clear c8b0
  try clear c8b1
  try clear p9
  try clear q9
  try clear hx9
  try clear qi9
  try clear hcz6_0
  try clear hcz6_1
  try clear hfz6_0
  try clear hfz6_1
  try clear p9
  try clear q9
  obtain ⟨kq, x17_1, rfl, HA, HJ1, BK213, BK214, HB⟩ := hcut
  cases kq with
  | zero => exact absurd HA.out (by simp [remontoirref03_Parse.j0])
  | succ kj1 =>
   have H := HA.out
   clear HA
   simp only [remontoirref03_Parse.j0] at H
   by_cases c10 : x17_1 = true
   ·subst c10
    have H1 : (some (0, 0, 2)) = some (r1, r2, r3) := by rw [if_pos rfl] at H; exact H
    clear H
    have H := H1
    clear H1
    simp only [Option.some.injEq, Prod.mk.injEq] at H
    obtain ⟨rfl, rfl, rfl⟩ := H
    have hnb11 := NB214_213.out
    have hnc11 := NB213_214.out
    have hcz12_0 : wc.cell? ⟨gb214, 0, none⟩ = some (.int .i64 0) := (bce BK214.out 0).trans rfl
    have hcz12_1 : wc.cell? ⟨gb214, 1, none⟩ = some (.int .u64 0) := (bce BK214.out 1).trans rfl
    have hfz12_0 := bfz BK214.out 0
    have hfz12_1 := bfz BK214.out 1
    have hcz13_0 : wc.cell? ⟨gb213, 0, none⟩ = some (.int .i64 0) := (bce BK213.out 0).trans rfl
    have hcz13_1 : wc.cell? ⟨gb213, 1, none⟩ = some (.int .u64 0) := (bce BK213.out 1).trans rfl
    have hfz13_0 := bfz BK213.out 0
    have hfz13_1 := bfz BK213.out 1
    go_wp2
    refine bodyPost_ret (results_ct rfl _ _ gb213 88 #[.int .i64 0, .int .u64 0] (0, 0) _ rfl (by (with_reducible repeat (first | refine bkn ?_ _ | refine bkd ?_ | refine bka ?_ _)); refine blk_put (cs := #[.int .i64 0, .int .u64 0]) ?_ 1 _ rfl; (with_reducible repeat (first | refine bkn ?_ _ | refine bkd ?_ | refine bka ?_ _)); refine blk_put (cs := #[.int .i64 0, .int .u64 0]) ?_ 0 _ rfl; (with_reducible repeat (first | refine bkn ?_ _ | refine bkd ?_ | refine bka ?_ _)); exact BK213.out) Tryz.underlying88 rfl (by kernel_rfl)) rfl ?_
    exact ⟨by first | rfl | (simp [errW_none, errW_some] <;> rfl) | (simp [*, errW_none, errW_some] <;> rfl), by repeat (first | (with_reducible first | exact HB.out | apply bal | apply pbN | apply bd1 | refine bst ?_ GE213.out | refine bst ?_ GE214.out) | exact HB.out)⟩
   ·replace c10 := Bool.eq_false_iff.mpr c10
    subst c10
    have H1 : (if (a0.size : Int) > 1 then (if 1 < (a0.size : Int) then (remontoirref03_Parse.j1 kj1 a0 ((bt a0 1) == 47) 0 0) else (none)) else (remontoirref03_Parse.j1 kj1 a0 false 0 0)) = some (r1, r2, r3) := by rw [if_neg (show ¬ (false = true) by decide)] at H; exact H
    clear H
    have H := H1
    clear H1
    have HC14 := Aside0.mk H
    clear H
    go_upto_region 4 with (fail)
    go_cut [26] (fun v26 wc => ∃ (kq : Nat) (x26_13 : Bool), v26 = .bool x26_13 ∧ Aside0 (remontoirref03_Parse.j1 kq a0 x26_13 0 0 = some (r1, r2, r3)) ∧ Aside0 (kq ≤ kj1) ∧ Aside0 (wc.heap[gb213]? = some (.cells #[.int .i64 0, .int .u64 0] 88 (0, 0))) ∧ Aside0 (wc.heap[gb214]? = some (.cells #[.int .i64 0, .int .u64 0] 88 (0, 0))) ∧ Aside0 (Below w.heap.size w wc))
    case first =>
     have H := HC14.out
     clear HC14
     by_cases c15 : (a0.size : Int) > 1
     ·rw [if_pos c15] at H
      have c15b0 : decide (1 < (a0.size : Int)) = true := decide_eq_true c15
      have c15b1 : decide (1 < a0.size) = true := decide_eq_true (by omega)
      clear c15
      (first | rw [c15b0] | (simp only [i64_w, i32_w]; rw [c15b0]) | skip)
      by_cases c16 : 1 < (a0.size : Int)
      ·rw [if_pos c16] at H
       have c16b0 : decide (1 < (a0.size : Int)) = true := decide_eq_true c16
       have c16b1 : decide (1 < a0.size) = true := decide_eq_true (by omega)
       clear c16
       have H' := Aside0.mk H
       clear H
       have p17 : 0 ≤ (1 : Int) := (by omega)
       have q17 : 1 < a0.size := (by have : (1 : Int) < (a0.size : Int) := of_decide_eq_true (by first | (with_reducible assumption) | assumption); omega)
       have hx17 : ∀ h : 1 < a0.size, ((a0[1]'h).toNat : Int) = bt a0 1 := bt_at a0 1
       clear p17
       have qi17 : (1 < (a0.size : Int)) = True := eq_true (of_decide_eq_true (by first | (with_reducible assumption) | assumption))
       replace q17 := eq_true q17
       go_wp2
       go_meet
       case rel => exact ⟨_, (((bt a0 1) == 47)), (by first | rfl | (simp; done) | (simp [*]; done)), H', ⟨by have := HJ1.out; first | omega | exact Nat.le_refl _⟩, ⟨by (with_reducible repeat (first | refine bkn ?_ _ | refine bkd ?_ | refine bka ?_ _)); exact BK213.out⟩, ⟨by (with_reducible repeat (first | refine bkn ?_ _ | refine bkd ?_ | refine bka ?_ _)); exact BK214.out⟩, ⟨by repeat (first | (with_reducible first | exact HB.out | apply bal | apply pbN | apply bd1 | refine bst ?_ GE213.out | refine bst ?_ GE214.out) | exact HB.out)⟩⟩
      ·rw [if_neg c16] at H
       exact absurd H (by simp)
     ·rw [if_neg c15] at H
      have c15b0 : decide (1 < (a0.size : Int)) = false := decide_eq_false c15
      have c15b1 : decide (1 < a0.size) = false := decide_eq_false (by omega)
      clear c15
      (first | rw [c15b0] | (simp only [i64_w, i32_w]; rw [c15b0]) | skip)
      have H' := Aside0.mk H
      clear H
      go_wp2
      go_meet
      case rel => exact ⟨_, (false), (by first | rfl | (simp; done) | (simp [*]; done)), H', ⟨by have := HJ1.out; first | omega | exact Nat.le_refl _⟩, ⟨by (with_reducible repeat (first | refine bkn ?_ _ | refine bkd ?_ | refine bka ?_ _)); exact BK213.out⟩, ⟨by (with_reducible repeat (first | refine bkn ?_ _ | refine bkd ?_ | refine bka ?_ _)); exact BK214.out⟩, ⟨by repeat (first | (with_reducible first | exact HB.out | apply bal | apply pbN | apply bd1 | refine bst ?_ GE213.out | refine bst ?_ GE214.out) | exact HB.out)⟩⟩
    case rest =>
     clear HC14
     try clear c1
     try clear p1
     try clear q1
     try clear hx1
     try clear qi1
     try clear p2
     try clear c5
     try clear c7
     try clear c7b0
     try clear c7b1
     try clear c8
     try clear c8b0
     try clear c8b1
     try clear p9
     try clear q9
     try clear hx9
     try clear qi9
     try clear c10
     try clear c11
     try clear c15
     try clear c15b0
     try clear c15b1
     try clear c16
     try clear c16b0
     try clear c16b1
     try clear p17
     try clear q17
     try clear hx17
     try clear qi17
     try clear hcz12_0
     try clear hcz12_1
     try clear hcz13_0
     try clear hcz13_1
     try clear hcz6_0
     try clear hcz6_1
     try clear hfz12_0
     try clear hfz12_1
     try clear hfz13_0
     try clear hfz13_1
     try clear hfz6_0
     try clear hfz6_1
     try clear p17
     try clear p2
     try clear p9
     try clear q17
     try clear q9
     obtain ⟨kq, x26_13, rfl, HA, HJ13, BK213, BK214, HB⟩ := hcut
     cases kq with
     | zero => exact absurd HA.out (by simp [remontoirref03_Parse.j1])
     | succ kj13 =>
      have H := HA.out
      clear HA
      simp only [remontoirref03_Parse.j1] at H
      by_cases c18 : x26_13 = true
      ·subst c18
       have H1 : (some (0, 0, 5)) = some (r1, r2, r3) := by rw [if_pos rfl] at H; exact H
       clear H
       have H := H1
       clear H1
       simp only [Option.some.injEq, Prod.mk.injEq] at H
       obtain ⟨rfl, rfl, rfl⟩ := H
       have hnb19 := NB214_213.out
       have hnc19 := NB213_214.out
       have hcz20_0 : wc.cell? ⟨gb214, 0, none⟩ = some (.int .i64 0) := (bce BK214.out 0).trans rfl
       have hcz20_1 : wc.cell? ⟨gb214, 1, none⟩ = some (.int .u64 0) := (bce BK214.out 1).trans rfl
       have hfz20_0 := bfz BK214.out 0
       have hfz20_1 := bfz BK214.out 1
       have hcz21_0 : wc.cell? ⟨gb213, 0, none⟩ = some (.int .i64 0) := (bce BK213.out 0).trans rfl
       have hcz21_1 : wc.cell? ⟨gb213, 1, none⟩ = some (.int .u64 0) := (bce BK213.out 1).trans rfl
       have hfz21_0 := bfz BK213.out 0
       have hfz21_1 := bfz BK213.out 1
       go_wp2
       refine bodyPost_ret (results_ct rfl _ _ gb213 88 #[.int .i64 0, .int .u64 0] (0, 0) _ rfl (by (with_reducible repeat (first | refine bkn ?_ _ | refine bkd ?_ | refine bka ?_ _)); refine blk_put (cs := #[.int .i64 0, .int .u64 0]) ?_ 1 _ rfl; (with_reducible repeat (first | refine bkn ?_ _ | refine bkd ?_ | refine bka ?_ _)); refine blk_put (cs := #[.int .i64 0, .int .u64 0]) ?_ 0 _ rfl; (with_reducible repeat (first | refine bkn ?_ _ | refine bkd ?_ | refine bka ?_ _)); exact BK213.out) Tryz.underlying88 rfl (by kernel_rfl)) rfl ?_
       exact ⟨by first | rfl | (simp [errW_none, errW_some] <;> rfl) | (simp [*, errW_none, errW_some] <;> rfl), by repeat (first | (with_reducible first | exact HB.out | apply bal | apply pbN | apply bd1 | refine bst ?_ GE213.out | refine bst ?_ GE214.out) | exact HB.out)⟩
      ·replace c18 := Bool.eq_false_iff.mpr c18
       subst c18
       have H1 : (remontoirref03_Parse.l0 kj13 a0 1 0 0 0) = some (r1, r2, r3) := by rw [if_neg (show ¬ (false = true) by decide)] at H; exact H
       clear H
       have H := H1
       clear H1
       have H' := Aside0.mk H
       clear H
       go_wp2
       go_loopg [5, 6] kj13 (fun kq v5 v6 w' => ∃ (x5_3 : Int) (x6_3 : Int), v5 = .int .i64 x5_3 ∧ v6 = .int .i64 x6_3 ∧ Aside0 (remontoirref03_Parse.l0 kq a0 x5_3 x6_3 0 0 = some (r1, r2, r3)) ∧ Aside0 (kq ≤ kj13) ∧ Aside0 (w'.heap[gb213]? = some (.cells #[.int .i64 0, .int .u64 0] 88 (0, 0))) ∧ Aside0 (w'.heap[gb214]? = some (.cells #[.int .i64 0, .int .u64 0] 88 (0, 0))) ∧ Aside0 (Below w.heap.size w w'))
       case atStart => exact ⟨(1), (0), (by first | rfl | (simp; done) | (simp [*]; done)), (by first | rfl | (simp; done) | (simp [*]; done)), H', ⟨Nat.le_refl _⟩, ⟨by (with_reducible repeat (first | refine bkn ?_ _ | refine bkd ?_ | refine bka ?_ _)); exact BK213.out⟩, ⟨by (with_reducible repeat (first | refine bkn ?_ _ | refine bkd ?_ | refine bka ?_ _)); exact BK214.out⟩, ⟨by repeat (first | (with_reducible first | exact HB.out | apply bal | apply pbN | apply bd1 | refine bst ?_ GE213.out | refine bst ?_ GE214.out) | exact HB.out)⟩⟩
       case round =>
        clear H'
        try clear c1
        try clear p1
        try clear q1
        try clear hx1
        try clear qi1
        try clear p2
        try clear c5
        try clear c7
        try clear c7b0
        try clear c7b1
        try clear c8
        try clear c8b0
        try clear c8b1
        try clear p9
        try clear q9
        try clear hx9
        try clear qi9
        try clear c10
        try clear c11
        try clear c15
        try clear c15b0
        try clear c15b1
        try clear c16
        try clear c16b0
        try clear c16b1
        try clear p17
        try clear q17
        try clear hx17
        try clear qi17
        try clear c18
        try clear c19
        try clear hcz12_0
        try clear hcz12_1
        try clear hcz13_0
        try clear hcz13_1
        try clear hcz20_0
        try clear hcz20_1
        try clear hcz21_0
        try clear hcz21_1
        try clear hcz6_0
        try clear hcz6_1
        try clear hfz12_0
        try clear hfz12_1
        try clear hfz13_0
        try clear hfz13_1
        try clear hfz20_0
        try clear hfz20_1
        try clear hfz21_0
        try clear hfz21_1
        try clear hfz6_0
        try clear hfz6_1
        try clear p1
        try clear p17
        try clear p2
        try clear p9
        try clear q1
        try clear q17
        try clear q9
        obtain ⟨x5_3, x6_3, rfl, rfl, HA, HK3, BK213, BK214, HB⟩ := hrel
        cases gk with
        | zero => exact absurd HA.out (by simp [remontoirref03_Parse.l0])
        | succ k3 =>
         have H := HA.out
         clear HA
         simp only [remontoirref03_Parse.l0] at H
         have HC22 := Aside0.mk H
         clear H
         go_upto_region 7 with (fail)
         go_cut [43] (fun v43 wc => ∃ (kq : Nat) (x43_21 : Bool), v43 = .bool x43_21 ∧ Aside0 (remontoirref03_Parse.j3 kq a0 x5_3 x6_3 x43_21 0 0 = some (r1, r2, r3)) ∧ Aside0 (kq ≤ k3) ∧ Aside0 (wc.heap[gb213]? = some (.cells #[.int .i64 0, .int .u64 0] 88 (0, 0))) ∧ Aside0 (wc.heap[gb214]? = some (.cells #[.int .i64 0, .int .u64 0] 88 (0, 0))) ∧ Aside0 (Below w.heap.size w wc))
         case first =>
          have H := HC22.out
          clear HC22
          by_cases c23 : x5_3 < (a0.size : Int)
          ·rw [if_pos c23] at H
           have c23b0 : decide (x5_3 < (a0.size : Int)) = true := decide_eq_true c23
           clear c23
           (first | rw [c23b0] | (simp only [i64_w, i32_w]; rw [c23b0]) | skip)
           by_cases c24 : 0 ≤ x5_3
           ·rw [if_pos c24] at H
            have c24b0 : decide (0 ≤ x5_3) = true := decide_eq_true c24
            clear c24
            by_cases c26 : (bt a0 x5_3) ≥ 48
            ·rw [if_pos c26] at H
             have c26b0 : decide (48 ≤ (bt a0 x5_3)) = true := decide_eq_true c26
             clear c26
             have H' := Aside0.mk H
             clear H
             have p25 : 0 ≤ (x5_3 : Int) := of_decide_eq_true (by first | (with_reducible assumption) | assumption)
             have q25 : x5_3 < (a0.size : Int) := of_decide_eq_true (by first | (with_reducible assumption) | assumption)
             have hx25 := bt_at a0 x5_3
             replace p25 := eq_true p25
             replace q25 := eq_true q25
             have p27 : 0 ≤ (x5_3 : Int) := of_decide_eq_true (by first | (with_reducible assumption) | assumption)
             have q27 : x5_3 < (a0.size : Int) := of_decide_eq_true (by first | (with_reducible assumption) | assumption)
             have hx27 := bt_at a0 x5_3
             replace p27 := eq_true p27
             replace q27 := eq_true q27
             go_wp2
             go_meet
             case rel => exact ⟨_, (decide ((bt a0 x5_3) ≤ 57)), (by first | rfl | (simp; done) | (simp [*]; done)), H', ⟨by have := HJ1.out; have := HJ13.out; have := HK3.out; first | omega | exact Nat.le_refl _⟩, ⟨by (with_reducible repeat (first | refine bkn ?_ _ | refine bkd ?_ | refine bka ?_ _)); exact BK213.out⟩, ⟨by (with_reducible repeat (first | refine bkn ?_ _ | refine bkd ?_ | refine bka ?_ _)); exact BK214.out⟩, ⟨by repeat (first | (with_reducible first | exact HB.out | apply bal | apply pbN | apply bd1 | refine bst ?_ GE213.out | refine bst ?_ GE214.out) | exact HB.out)⟩⟩
            ·rw [if_neg c26] at H
             have c26b0 : decide (48 ≤ (bt a0 x5_3)) = false := decide_eq_false c26
             clear c26
             have H' := Aside0.mk H
             clear H
             have p25 : 0 ≤ (x5_3 : Int) := of_decide_eq_true (by first | (with_reducible assumption) | assumption)
             have q25 : x5_3 < (a0.size : Int) := of_decide_eq_true (by first | (with_reducible assumption) | assumption)
             have hx25 := bt_at a0 x5_3
             replace p25 := eq_true p25
             replace q25 := eq_true q25
             go_wp2
             go_meet
             case rel => exact ⟨_, (false), (by first | rfl | (simp; done) | (simp [*]; done)), H', ⟨by have := HJ1.out; have := HJ13.out; have := HK3.out; first | omega | exact Nat.le_refl _⟩, ⟨by (with_reducible repeat (first | refine bkn ?_ _ | refine bkd ?_ | refine bka ?_ _)); exact BK213.out⟩, ⟨by (with_reducible repeat (first | refine bkn ?_ _ | refine bkd ?_ | refine bka ?_ _)); exact BK214.out⟩, ⟨by repeat (first | (with_reducible first | exact HB.out | apply bal | apply pbN | apply bd1 | refine bst ?_ GE213.out | refine bst ?_ GE214.out) | exact HB.out)⟩⟩
           ·rw [if_neg c24] at H
            exact absurd H (by simp)
          ·rw [if_neg c23] at H
           have c23b0 : decide (x5_3 < (a0.size : Int)) = false := decide_eq_false c23
           clear c23
           (first | rw [c23b0] | (simp only [i64_w, i32_w]; rw [c23b0]) | skip)
           have H' := Aside0.mk H
           clear H
           go_wp2
           go_meet
           case rel => exact ⟨_, (false), (by first | rfl | (simp; done) | (simp [*]; done)), H', ⟨by have := HJ1.out; have := HJ13.out; have := HK3.out; first | omega | exact Nat.le_refl _⟩, ⟨by (with_reducible repeat (first | refine bkn ?_ _ | refine bkd ?_ | refine bka ?_ _)); exact BK213.out⟩, ⟨by (with_reducible repeat (first | refine bkn ?_ _ | refine bkd ?_ | refine bka ?_ _)); exact BK214.out⟩, ⟨by repeat (first | (with_reducible first | exact HB.out | apply bal | apply pbN | apply bd1 | refine bst ?_ GE213.out | refine bst ?_ GE214.out) | exact HB.out)⟩⟩
         case rest =>
          clear HC22
          try clear c1
          try clear p1
          try clear q1
          try clear hx1
          try clear qi1
          try clear c2
          try clear p2
          try clear q2
          try clear hx2
          try clear c5
          try clear c7
          try clear c7b0
          try clear c7b1
          try clear c8
          try clear c8b0
          try clear c8b1
          try clear p9
          try clear q9
          try clear hx9
          try clear qi9
          try clear c10
          try clear c11
          try clear c15
          try clear c15b0
          try clear c15b1
          try clear c16
          try clear c16b0
          try clear c16b1
          try clear p17
          try clear q17
          try clear hx17
          try clear qi17
          try clear c18
          try clear c19
          try clear c23
          try clear c23b0
          try clear c24
          try clear c24b0
          try clear p25
          try clear q25
          try clear hx25
          try clear c26
          try clear c26b0
          try clear p27
          try clear q27
          try clear hx27
          try clear hcz12_0
          try clear hcz12_1
          try clear hcz13_0
          try clear hcz13_1
          try clear hcz20_0
          try clear hcz20_1
          try clear hcz21_0
          try clear hcz21_1
          try clear hcz6_0
          try clear hcz6_1
          try clear hfz12_0
          try clear hfz12_1
          try clear hfz13_0
          try clear hfz13_1
          try clear hfz20_0
          try clear hfz20_1
          try clear hfz21_0
          try clear hfz21_1
          try clear hfz6_0
          try clear hfz6_1
          try clear p1
          try clear p17
          try clear p2
          try clear p25
          try clear p27
          try clear p9
          try clear q1
          try clear q17
          try clear q25
          try clear q27
          try clear q9
          obtain ⟨kq, x43_21, rfl, HA, HJ21, BK213, BK214, HB⟩ := hcut
          cases kq with
          | zero => exact absurd HA.out (by simp [remontoirref03_Parse.j3])
          | succ kj21 =>
           have H := HA.out
           clear HA
           simp only [remontoirref03_Parse.j3] at H
           by_cases c28 : x43_21 = true
           ·subst c28
            have H1 : (if x5_3 < 9 then (if 0 ≤ x5_3 then (if x5_3 < (a0.size : Int) then (remontoirref03_Parse.l0 kj21 a0 (wrap64 (x5_3 + 1)) (wrap64 ((wrap64 (10 * x6_3)) + (((bt a0 x5_3) - 48) % 256))) 0 0) else (none)) else (none)) else (remontoirref03_Parse.l0 kj21 a0 (wrap64 (x5_3 + 1)) x6_3 0 0)) = some (r1, r2, r3) := by rw [if_pos rfl] at H; exact H
            clear H
            have H := H1
            clear H1
            by_cases c29 : x5_3 < 9
            ·rw [if_pos c29] at H
             have c29b0 : decide (x5_3 < 9) = true := decide_eq_true c29
             clear c29
             by_cases c30 : 0 ≤ x5_3
             ·rw [if_pos c30] at H
              have c30b0 : decide (0 ≤ x5_3) = true := decide_eq_true c30
              clear c30
              by_cases c31 : x5_3 < (a0.size : Int)
              ·rw [if_pos c31] at H
               have c31b0 : decide (x5_3 < (a0.size : Int)) = true := decide_eq_true c31
               clear c31
               have H' := Aside0.mk H
               clear H
               have p32 : 0 ≤ (x5_3 : Int) := of_decide_eq_true (by first | (with_reducible assumption) | assumption)
               have q32 : x5_3 < (a0.size : Int) := of_decide_eq_true (by first | (with_reducible assumption) | assumption)
               have hx32 := bt_at a0 x5_3
               replace p32 := eq_true p32
               replace q32 := eq_true q32
               go_wp2
               go_roundg kj21
               case measure => have := HJ1.out; have := HJ13.out; have := HK3.out; have := HJ21.out; omega
               case rel => exact ⟨(wrap64 (x5_3 + 1)), (wrap64 ((wrap64 (10 * x6_3)) + (((bt a0 x5_3) - 48) % 256))), (by first | rfl | (simp; done) | (simp [*]; done)), (by first | rfl | (simp; done) | (simp [*]; done)), H', ⟨by have := HJ1.out; have := HJ13.out; have := HK3.out; have := HJ21.out; omega⟩, ⟨by (with_reducible repeat (first | refine bkn ?_ _ | refine bkd ?_ | refine bka ?_ _)); exact BK213.out⟩, ⟨by (with_reducible repeat (first | refine bkn ?_ _ | refine bkd ?_ | refine bka ?_ _)); exact BK214.out⟩, ⟨by repeat (first | (with_reducible first | exact HB.out | apply bal | apply pbN | apply bd1 | refine bst ?_ GE213.out | refine bst ?_ GE214.out) | exact HB.out)⟩⟩
              ·rw [if_neg c31] at H
               exact absurd H (by simp)
             ·rw [if_neg c30] at H
              exact absurd H (by simp)
            ·rw [if_neg c29] at H
             have c29b0 : decide (x5_3 < 9) = false := decide_eq_false c29
             clear c29
             have H' := Aside0.mk H
             clear H
             go_wp2
             go_roundg kj21
             case measure => have := HJ1.out; have := HJ13.out; have := HK3.out; have := HJ21.out; omega
             case rel => exact ⟨(wrap64 (x5_3 + 1)), (x6_3), (by first | rfl | (simp; done) | (simp [*]; done)), (by first | rfl | (simp; done) | (simp [*]; done)), H', ⟨by have := HJ1.out; have := HJ13.out; have := HK3.out; have := HJ21.out; omega⟩, ⟨by (with_reducible repeat (first | refine bkn ?_ _ | refine bkd ?_ | refine bka ?_ _)); exact BK213.out⟩, ⟨by (with_reducible repeat (first | refine bkn ?_ _ | refine bkd ?_ | refine bka ?_ _)); exact BK214.out⟩, ⟨by repeat (first | (with_reducible first | exact HB.out | apply bal | apply pbN | apply bd1 | refine bst ?_ GE213.out | refine bst ?_ GE214.out) | exact HB.out)⟩⟩
           ·replace c28 := Bool.eq_false_iff.mpr c28
            subst c28
            have H1 : (if x5_3 = 1 then (remontoirref03_Parse.j4 kj21 a0 x5_3 x6_3 true 0 0) else (if x5_3 > 8 then (remontoirref03_Parse.j4 kj21 a0 x5_3 x6_3 true 0 0) else (if 1 < (a0.size : Int) then (if (bt a0 1) = 48 then (remontoirref03_Parse.j4 kj21 a0 x5_3 x6_3 true 0 0) else (if x5_3 = (a0.size : Int) then (remontoirref03_Parse.j4 kj21 a0 x5_3 x6_3 true 0 0) else (if 0 ≤ x5_3 then (if x5_3 < (a0.size : Int) then (remontoirref03_Parse.j4 kj21 a0 x5_3 x6_3 ((bt a0 x5_3) != 47) 0 0) else (none)) else (none)))) else (none)))) = some (r1, r2, r3) := by rw [if_neg (show ¬ (false = true) by decide)] at H; exact H
            clear H
            have H := H1
            clear H1
            have HC33 := Aside0.mk H
            clear H
            go_upto_region 11 with (fail)
            go_cut [78] (fun v78 wc => ∃ (kq : Nat) (x78_32 : Bool), v78 = .bool x78_32 ∧ Aside0 (remontoirref03_Parse.j4 kq a0 x5_3 x6_3 x78_32 0 0 = some (r1, r2, r3)) ∧ Aside0 (kq ≤ kj21) ∧ Aside0 (wc.heap[gb213]? = some (.cells #[.int .i64 0, .int .u64 0] 88 (0, 0))) ∧ Aside0 (wc.heap[gb214]? = some (.cells #[.int .i64 0, .int .u64 0] 88 (0, 0))) ∧ Aside0 (Below w.heap.size w wc))
            case first =>
             have H := HC33.out
             clear HC33
             by_cases c34 : x5_3 = 1
             ·rw [if_pos c34] at H
              have c34b0 : (x5_3 == 1) = true := beq_iff_eq.mpr c34
              have c34b1 : (x5_3 != 1) = false := bne_eq_false_iff_eq.mpr c34
              clear c34
              (first | rw [c34b0] | (simp only [i64_w, i32_w]; rw [c34b0]) | skip)
              have H' := Aside0.mk H
              clear H
              go_wp2
              go_meet
              case rel => exact ⟨_, (true), (by first | rfl | (simp; done) | (simp [*]; done)), H', ⟨by have := HJ1.out; have := HJ13.out; have := HK3.out; have := HJ21.out; first | omega | exact Nat.le_refl _⟩, ⟨by (with_reducible repeat (first | refine bkn ?_ _ | refine bkd ?_ | refine bka ?_ _)); exact BK213.out⟩, ⟨by (with_reducible repeat (first | refine bkn ?_ _ | refine bkd ?_ | refine bka ?_ _)); exact BK214.out⟩, ⟨by repeat (first | (with_reducible first | exact HB.out | apply bal | apply pbN | apply bd1 | refine bst ?_ GE213.out | refine bst ?_ GE214.out) | exact HB.out)⟩⟩
             ·rw [if_neg c34] at H
              have c34b0 : (x5_3 == 1) = false := beq_eq_false_iff_ne.mpr c34
              have c34b1 : (x5_3 != 1) = true := bne_iff_ne.mpr c34
              (first | rw [c34b0] | (simp only [i64_w, i32_w]; rw [c34b0]) | skip)
              by_cases c35 : x5_3 > 8
              ·rw [if_pos c35] at H
               have c35b0 : decide (8 < x5_3) = true := decide_eq_true c35
               clear c35
               have H' := Aside0.mk H
               clear H
               go_wp2
               go_meet
               case rel => exact ⟨_, (true), (by first | rfl | (simp; done) | (simp [*]; done)), H', ⟨by have := HJ1.out; have := HJ13.out; have := HK3.out; have := HJ21.out; first | omega | exact Nat.le_refl _⟩, ⟨by (with_reducible repeat (first | refine bkn ?_ _ | refine bkd ?_ | refine bka ?_ _)); exact BK213.out⟩, ⟨by (with_reducible repeat (first | refine bkn ?_ _ | refine bkd ?_ | refine bka ?_ _)); exact BK214.out⟩, ⟨by repeat (first | (with_reducible first | exact HB.out | apply bal | apply pbN | apply bd1 | refine bst ?_ GE213.out | refine bst ?_ GE214.out) | exact HB.out)⟩⟩
              ·rw [if_neg c35] at H
               have c35b0 : decide (8 < x5_3) = false := decide_eq_false c35
               clear c35
               by_cases c36 : 1 < (a0.size : Int)
               ·rw [if_pos c36] at H
                have c36b0 : decide (1 < (a0.size : Int)) = true := decide_eq_true c36
                have c36b1 : decide (1 < a0.size) = true := decide_eq_true (by omega)
                clear c36
                by_cases c38 : (bt a0 1) = 48
                ·rw [if_pos c38] at H
                 have c38b0 : ((bt a0 1) == 48) = true := beq_iff_eq.mpr c38
                 have c38b1 : ((bt a0 1) != 48) = false := bne_eq_false_iff_eq.mpr c38
                 clear c38
                 have H' := Aside0.mk H
                 clear H
                 have p37 : 0 ≤ (1 : Int) := (by omega)
                 have q37 : 1 < a0.size := (by have : (1 : Int) < (a0.size : Int) := of_decide_eq_true (by first | (with_reducible assumption) | assumption); omega)
                 have hx37 : ∀ h : 1 < a0.size, ((a0[1]'h).toNat : Int) = bt a0 1 := bt_at a0 1
                 clear p37
                 have qi37 : (1 < (a0.size : Int)) = True := eq_true (of_decide_eq_true (by first | (with_reducible assumption) | assumption))
                 replace q37 := eq_true q37
                 go_wp2
                 go_meet
                 case rel => exact ⟨_, (true), (by first | rfl | (simp; done) | (simp [*]; done)), H', ⟨by have := HJ1.out; have := HJ13.out; have := HK3.out; have := HJ21.out; first | omega | exact Nat.le_refl _⟩, ⟨by (with_reducible repeat (first | refine bkn ?_ _ | refine bkd ?_ | refine bka ?_ _)); exact BK213.out⟩, ⟨by (with_reducible repeat (first | refine bkn ?_ _ | refine bkd ?_ | refine bka ?_ _)); exact BK214.out⟩, ⟨by repeat (first | (with_reducible first | exact HB.out | apply bal | apply pbN | apply bd1 | refine bst ?_ GE213.out | refine bst ?_ GE214.out) | exact HB.out)⟩⟩
                ·rw [if_neg c38] at H
                 have c38b0 : ((bt a0 1) == 48) = false := beq_eq_false_iff_ne.mpr c38
                 have c38b1 : ((bt a0 1) != 48) = true := bne_iff_ne.mpr c38
                 by_cases c39 : x5_3 = (a0.size : Int)
                 ·rw [if_pos c39] at H
                  have c39b0 : (x5_3 == (a0.size : Int)) = true := beq_iff_eq.mpr c39
                  have c39b1 : (x5_3 != (a0.size : Int)) = false := bne_eq_false_iff_eq.mpr c39
                  clear c39
                  have H' := Aside0.mk H
                  clear H
                  have p37 : 0 ≤ (1 : Int) := (by omega)
                  have q37 : 1 < a0.size := (by have : (1 : Int) < (a0.size : Int) := of_decide_eq_true (by first | (with_reducible assumption) | assumption); omega)
                  have hx37 : ∀ h : 1 < a0.size, ((a0[1]'h).toNat : Int) = bt a0 1 := bt_at a0 1
                  clear p37
                  have qi37 : (1 < (a0.size : Int)) = True := eq_true (of_decide_eq_true (by first | (with_reducible assumption) | assumption))
                  replace q37 := eq_true q37
                  go_wp2
                  go_meet
                  case rel => exact ⟨_, (true), (by first | rfl | (simp; done) | (simp [*]; done)), H', ⟨by have := HJ1.out; have := HJ13.out; have := HK3.out; have := HJ21.out; first | omega | exact Nat.le_refl _⟩, ⟨by (with_reducible repeat (first | refine bkn ?_ _ | refine bkd ?_ | refine bka ?_ _)); exact BK213.out⟩, ⟨by (with_reducible repeat (first | refine bkn ?_ _ | refine bkd ?_ | refine bka ?_ _)); exact BK214.out⟩, ⟨by repeat (first | (with_reducible first | exact HB.out | apply bal | apply pbN | apply bd1 | refine bst ?_ GE213.out | refine bst ?_ GE214.out) | exact HB.out)⟩⟩
                 ·rw [if_neg c39] at H
                  have c39b0 : (x5_3 == (a0.size : Int)) = false := beq_eq_false_iff_ne.mpr c39
                  have c39b1 : (x5_3 != (a0.size : Int)) = true := bne_iff_ne.mpr c39
                  by_cases c40 : 0 ≤ x5_3
                  ·rw [if_pos c40] at H
                   have c40b0 : decide (0 ≤ x5_3) = true := decide_eq_true c40
                   clear c40
                   by_cases c41 : x5_3 < (a0.size : Int)
                   ·rw [if_pos c41] at H
                    have c41b0 : decide (x5_3 < (a0.size : Int)) = true := decide_eq_true c41
                    clear c41
                    have H' := Aside0.mk H
                    clear H
                    have p37 : 0 ≤ (1 : Int) := (by omega)
                    have q37 : 1 < a0.size := (by have : (1 : Int) < (a0.size : Int) := of_decide_eq_true (by first | (with_reducible assumption) | assumption); omega)
                    have hx37 : ∀ h : 1 < a0.size, ((a0[1]'h).toNat : Int) = bt a0 1 := bt_at a0 1
                    clear p37
                    have qi37 : (1 < (a0.size : Int)) = True := eq_true (of_decide_eq_true (by first | (with_reducible assumption) | assumption))
                    replace q37 := eq_true q37
                    have p42 : 0 ≤ (x5_3 : Int) := of_decide_eq_true (by first | (with_reducible assumption) | assumption)
                    have q42 : x5_3 < (a0.size : Int) := of_decide_eq_true (by first | (with_reducible assumption) | assumption)
                    have hx42 := bt_at a0 x5_3
                    replace p42 := eq_true p42
                    replace q42 := eq_true q42
                    go_wp2
                    go_meet
                    case rel => exact ⟨_, (((bt a0 x5_3) != 47)), (by first | rfl | (simp; done) | (simp [*]; done)), H', ⟨by have := HJ1.out; have := HJ13.out; have := HK3.out; have := HJ21.out; first | omega | exact Nat.le_refl _⟩, ⟨by (with_reducible repeat (first | refine bkn ?_ _ | refine bkd ?_ | refine bka ?_ _)); exact BK213.out⟩, ⟨by (with_reducible repeat (first | refine bkn ?_ _ | refine bkd ?_ | refine bka ?_ _)); exact BK214.out⟩, ⟨by repeat (first | (with_reducible first | exact HB.out | apply bal | apply pbN | apply bd1 | refine bst ?_ GE213.out | refine bst ?_ GE214.out) | exact HB.out)⟩⟩
                   ·rw [if_neg c41] at H
                    exact absurd H (by simp)
                  ·rw [if_neg c40] at H
                   exact absurd H (by simp)
               ·rw [if_neg c36] at H
                exact absurd H (by simp)
            case rest =>
             clear HC33
             try clear c1
             try clear p1
             try clear q1
             try clear hx1
             try clear qi1
             try clear c2
             try clear p2
             try clear q2
             try clear hx2
             try clear c3
             try clear p3
             try clear q3
             try clear hx3
             try clear qi3
             try clear c4
             try clear p4
             try clear q4
             try clear hx4
             try clear c5
             try clear p6
             try clear c7
             try clear c7b0
             try clear c7b1
             try clear c8
             try clear c8b0
             try clear c8b1
             try clear p9
             try clear q9
             try clear hx9
             try clear qi9
             try clear c10
             try clear c11
             try clear c15
             try clear c15b0
             try clear c15b1
             try clear c16
             try clear c16b0
             try clear c16b1
             try clear p17
             try clear q17
             try clear hx17
             try clear qi17
             try clear c18
             try clear c19
             try clear c23
             try clear c23b0
             try clear c24
             try clear c24b0
             try clear p25
             try clear q25
             try clear hx25
             try clear c26
             try clear c26b0
             try clear p27
             try clear q27
             try clear hx27
             try clear c28
             try clear c29
             try clear c29b0
             try clear c30
             try clear c30b0
             try clear c31
             try clear c31b0
             try clear p32
             try clear q32
             try clear hx32
             try clear c34
             try clear c34b0
             try clear c34b1
             try clear c35
             try clear c35b0
             try clear c36
             try clear c36b0
             try clear c36b1
             try clear p37
             try clear q37
             try clear hx37
             try clear qi37
             try clear c38
             try clear c38b0
             try clear c38b1
             try clear c39
             try clear c39b0
             try clear c39b1
             try clear c40
             try clear c40b0
             try clear c41
             try clear c41b0
             try clear p42
             try clear q42
             try clear hx42
             try clear hcz12_0
             try clear hcz12_1
             try clear hcz13_0
             try clear hcz13_1
             try clear hcz20_0
             try clear hcz20_1
             try clear hcz21_0
             try clear hcz21_1
             try clear hcz6_0
             try clear hcz6_1
             try clear hfz12_0
             try clear hfz12_1
             try clear hfz13_0
             try clear hfz13_1
             try clear hfz20_0
             try clear hfz20_1
             try clear hfz21_0
             try clear hfz21_1
             try clear hfz6_0
             try clear hfz6_1
             try clear p1
             try clear p17
             try clear p2
             try clear p25
             try clear p27
             try clear p32
             try clear p37
             try clear p42
             try clear p9
             try clear q1
             try clear q17
             try clear q2
             try clear q25
             try clear q27
             try clear q32
             try clear q37
             try clear q42
             try clear q9
             obtain ⟨kq, x78_32, rfl, HA, HJ32, BK213, BK214, HB⟩ := hcut
             cases kq with
             | zero => exact absurd HA.out (by simp [remontoirref03_Parse.j4])
             | succ kj32 =>
              have H := HA.out
              clear HA
              simp only [remontoirref03_Parse.j4] at H
              by_cases c43 : x78_32 = true
              ·subst c43
               have H1 : (some (0, 0, 2)) = some (r1, r2, r3) := by rw [if_pos rfl] at H; exact H
               clear H
               have H := H1
               clear H1
               simp only [Option.some.injEq, Prod.mk.injEq] at H
               obtain ⟨rfl, rfl, rfl⟩ := H
               have hnb44 := NB214_213.out
               have hnc44 := NB213_214.out
               have hcz45_0 : wc.cell? ⟨gb214, 0, none⟩ = some (.int .i64 0) := (bce BK214.out 0).trans rfl
               have hcz45_1 : wc.cell? ⟨gb214, 1, none⟩ = some (.int .u64 0) := (bce BK214.out 1).trans rfl
               have hfz45_0 := bfz BK214.out 0
               have hfz45_1 := bfz BK214.out 1
               have hcz46_0 : wc.cell? ⟨gb213, 0, none⟩ = some (.int .i64 0) := (bce BK213.out 0).trans rfl
               have hcz46_1 : wc.cell? ⟨gb213, 1, none⟩ = some (.int .u64 0) := (bce BK213.out 1).trans rfl
               have hfz46_0 := bfz BK213.out 0
               have hfz46_1 := bfz BK213.out 1
               go_wp2
               refine bodyPost_ret (results_ct rfl _ _ gb213 88 #[.int .i64 0, .int .u64 0] (0, 0) _ rfl (by (with_reducible repeat (first | refine bkn ?_ _ | refine bkd ?_ | refine bka ?_ _)); refine blk_put (cs := #[.int .i64 0, .int .u64 0]) ?_ 1 _ rfl; (with_reducible repeat (first | refine bkn ?_ _ | refine bkd ?_ | refine bka ?_ _)); refine blk_put (cs := #[.int .i64 0, .int .u64 0]) ?_ 0 _ rfl; (with_reducible repeat (first | refine bkn ?_ _ | refine bkd ?_ | refine bka ?_ _)); exact BK213.out) Tryz.underlying88 rfl (by kernel_rfl)) rfl ?_
               exact ⟨by first | rfl | (simp [errW_none, errW_some] <;> rfl) | (simp [*, errW_none, errW_some] <;> rfl), by repeat (first | (with_reducible first | exact HB.out | apply bal | apply pbN | apply bd1 | refine bst ?_ GE213.out | refine bst ?_ GE214.out) | exact HB.out)⟩
              ·replace c43 := Bool.eq_false_iff.mpr c43
               subst c43
               have H1 : (if x6_3 > 1000000 then (some (0, 0, 3)) else (if 0 ≤ (wrap64 (x5_3 + 1)) then (if (wrap64 (x5_3 + 1)) ≤ (a0.size : Int) then ((remontoirref02_Parse.f kj32 (a0.extract ((wrap64 (x5_3 + 1)) : Int).toNat a0.size)).bind fun bt215 => (if bt215.2 = 0 then (if bt215.1 = 0 then (some (0, 0, 6)) else (some (x6_3, bt215.1, 0))) else (some (0, 0, bt215.2)))) else (none)) else (none))) = some (r1, r2, r3) := by rw [if_neg (show ¬ (false = true) by decide)] at H; exact H
               clear H
               have H := H1
               clear H1
               by_cases c47 : x6_3 > 1000000
               ·rw [if_pos c47] at H
                have c47b0 : decide (1000000 < x6_3) = true := decide_eq_true c47
                clear c47
                simp only [Option.some.injEq, Prod.mk.injEq] at H
                obtain ⟨rfl, rfl, rfl⟩ := H
                have hnb48 := NB214_213.out
                have hnc48 := NB213_214.out
                have hcz49_0 : wc.cell? ⟨gb214, 0, none⟩ = some (.int .i64 0) := (bce BK214.out 0).trans rfl
                have hcz49_1 : wc.cell? ⟨gb214, 1, none⟩ = some (.int .u64 0) := (bce BK214.out 1).trans rfl
                have hfz49_0 := bfz BK214.out 0
                have hfz49_1 := bfz BK214.out 1
                have hcz50_0 : wc.cell? ⟨gb213, 0, none⟩ = some (.int .i64 0) := (bce BK213.out 0).trans rfl
                have hcz50_1 : wc.cell? ⟨gb213, 1, none⟩ = some (.int .u64 0) := (bce BK213.out 1).trans rfl
                have hfz50_0 := bfz BK213.out 0
                have hfz50_1 := bfz BK213.out 1
                go_wp2
                refine bodyPost_ret (results_ct rfl _ _ gb213 88 #[.int .i64 0, .int .u64 0] (0, 0) _ rfl (by (with_reducible repeat (first | refine bkn ?_ _ | refine bkd ?_ | refine bka ?_ _)); refine blk_put (cs := #[.int .i64 0, .int .u64 0]) ?_ 1 _ rfl; (with_reducible repeat (first | refine bkn ?_ _ | refine bkd ?_ | refine bka ?_ _)); refine blk_put (cs := #[.int .i64 0, .int .u64 0]) ?_ 0 _ rfl; (with_reducible repeat (first | refine bkn ?_ _ | refine bkd ?_ | refine bka ?_ _)); exact BK213.out) Tryz.underlying88 rfl (by kernel_rfl)) rfl ?_
                exact ⟨by first | rfl | (simp [errW_none, errW_some] <;> rfl) | (simp [*, errW_none, errW_some] <;> rfl), by repeat (first | (with_reducible first | exact HB.out | apply bal | apply pbN | apply bd1 | refine bst ?_ GE213.out | refine bst ?_ GE214.out) | exact HB.out)⟩
               ·rw [if_neg c47] at H
                have c47b0 : decide (1000000 < x6_3) = false := decide_eq_false c47
                clear c47
                obtain ⟨ji51, hji51⟩ : ∃ j_ : Int, (wrap64 (x5_3 + 1)) = j_ := ⟨_, rfl⟩
                replace H : (if 0 ≤ (ji51) then (if (ji51) ≤ (a0.size : Int) then ((remontoirref02_Parse.f kj32 (a0.extract ((ji51) : Int).toNat a0.size)).bind fun bt215 => (if bt215.2 = 0 then (if bt215.1 = 0 then (some (0, 0, 6)) else (some (x6_3, bt215.1, 0))) else (some (0, 0, bt215.2)))) else (none)) else (none)) = some (r1, r2, r3) := by first | (rw [hji51] at H; exact H) | (simp only [hji51] at H ⊢; exact H)
                have hji51w : (IntKind.i64.wrap (x5_3 + 1)) = ji51 := (i64_w _).trans hji51
                by_cases c52 : 0 ≤ (ji51)
                ·rw [if_pos c52] at H
                 have c52b0 := eq_true c52
                 have c52b1 : decide (0 ≤ (ji51)) = true := decide_eq_true c52
                 clear c52
                 by_cases c53 : (ji51) ≤ (a0.size : Int)
                 ·rw [if_pos c53] at H
                  have c53b0 := eq_true c53
                  have c53b1 : decide ((ji51) ≤ (a0.size : Int)) = true := decide_eq_true c53
                  clear c53
                  replace H := Option.bind_eq_some_iff.mp H
                  obtain ⟨⟨t215, t216⟩, A540, H⟩ := H
                  replace H : (if t216 = 0 then (if t215 = 0 then (some (0, 0, 6)) else (some (x6_3, t215, 0))) else (some (0, 0, t216))) = some (r1, r2, r3) := H
                  have A54 := Aside0.mk A540
                  clear A540
                  by_cases c55 : t216 = 0
                  ·rw [if_pos c55] at H
                   have c55b0 : (t216 == 0) = true := beq_iff_eq.mpr c55
                   have c55b1 : (t216 != 0) = false := bne_eq_false_iff_eq.mpr c55
                   clear c55
                   by_cases c56 : t215 = 0
                   ·rw [if_pos c56] at H
                    have c56b0 : (t215 == 0) = true := beq_iff_eq.mpr c56
                    have c56b1 : (t215 != 0) = false := bne_eq_false_iff_eq.mpr c56
                    clear c56
                    simp only [Option.some.injEq, Prod.mk.injEq] at H
                    obtain ⟨rfl, rfl, rfl⟩ := H
                    go_wp2_with (first | ((with_reducible refine gate_callee (f := 119) rfl ?_); refine goesL_ (some 88) rfl rfl Tryz.func119 (by kernel_rfl) rfl #[.string (a0.extract ((ji51) : Int).toNat a0.size)] rfl (by (try simp only [List.map_toArray, List.map_cons, List.map_nil]); first | done | (simp only [hji51]; rfl) | rfl | (simp only [List.length_drop, List.length_take]; rfl)) ?_; (with_reducible refine (remontoirref02_Parse.calls kj32 (a0.extract ((ji51) : Int).toNat a0.size) t215 t216 _ A54.out).mono ?_); rintro e w57 ⟨rfl, hb⟩; refine ⟨_, rfl, ?_⟩; have n0_ := Aside0.mk (bbe (g := gb213) (o := .cells #[.int .i64 0, .int .u64 0] 88 (0, 0)) (by (with_reducible repeat (first | refine bkn ?_ _ | refine bkd ?_ | refine bka ?_ _)); exact BK213.out) hb); have n1_ := Aside0.mk (bbe (g := gb214) (o := .cells #[.int .i64 0, .int .u64 0] 88 (0, 0)) (by (with_reducible repeat (first | refine bkn ?_ _ | refine bkd ?_ | refine bka ?_ _)); exact BK214.out) hb); have n2_ := Aside0.mk (bsp (by repeat (first | (with_reducible first | exact HB.out | apply bal | apply pbN | apply bd1 | refine bst ?_ GE213.out | refine bst ?_ GE214.out) | exact HB.out)) hb); clear BK213; clear BK214; clear HB; have BK213 := n0_; have BK214 := n1_; have HB := n2_; clear n0_ n1_ n2_; (try clear hb); (try clear hb2); (try clear hk); (try clear hi); have hnb58 := NB214_213.out; have hnc58 := NB213_214.out; have hcz59_0 : w57.cell? ⟨gb214, 0, none⟩ = some (.int .i64 0) := (bce BK214.out 0).trans rfl; have hcz59_1 : w57.cell? ⟨gb214, 1, none⟩ = some (.int .u64 0) := (bce BK214.out 1).trans rfl; have hfz59_0 := bfz BK214.out 0; have hfz59_1 := bfz BK214.out 1; have hcz60_0 : w57.cell? ⟨gb213, 0, none⟩ = some (.int .i64 0) := (bce BK213.out 0).trans rfl; have hcz60_1 : w57.cell? ⟨gb213, 1, none⟩ = some (.int .u64 0) := (bce BK213.out 1).trans rfl; have hfz60_0 := bfz BK213.out 0; have hfz60_1 := bfz BK213.out 1))
                    refine bodyPost_ret (results_ct rfl _ _ gb213 88 #[.int .i64 0, .int .u64 0] (0, 0) _ rfl (by (with_reducible repeat (first | refine bkn ?_ _ | refine bkd ?_ | refine bka ?_ _)); refine blk_put (cs := #[.int .i64 0, .int .u64 0]) ?_ 1 _ rfl; (with_reducible repeat (first | refine bkn ?_ _ | refine bkd ?_ | refine bka ?_ _)); refine blk_put (cs := #[.int .i64 0, .int .u64 0]) ?_ 0 _ rfl; (with_reducible repeat (first | refine bkn ?_ _ | refine bkd ?_ | refine bka ?_ _)); exact BK213.out) Tryz.underlying88 rfl (by kernel_rfl)) rfl ?_
                    exact ⟨by first | rfl | (simp [errW_none, errW_some] <;> rfl) | (simp only [← hji51]; first | rfl | (simp [errW_none, errW_some] <;> rfl)) | (simp [*, errW_none, errW_some] <;> rfl), by repeat (first | (with_reducible first | exact HB.out | apply bal | apply pbN | apply bd1 | refine bst ?_ GE213.out | refine bst ?_ GE214.out) | exact HB.out)⟩
                   ·rw [if_neg c56] at H
                    have c56b0 : (t215 == 0) = false := beq_eq_false_iff_ne.mpr c56
                    have c56b1 : (t215 != 0) = true := bne_iff_ne.mpr c56
                    simp only [Option.some.injEq, Prod.mk.injEq] at H
                    obtain ⟨rfl, rfl, rfl⟩ := H
                    go_wp2_with (first | ((with_reducible refine gate_callee (f := 119) rfl ?_); refine goesL_ (some 88) rfl rfl Tryz.func119 (by kernel_rfl) rfl #[.string (a0.extract ((ji51) : Int).toNat a0.size)] rfl (by (try simp only [List.map_toArray, List.map_cons, List.map_nil]); first | done | (simp only [hji51]; rfl) | rfl | (simp only [List.length_drop, List.length_take]; rfl)) ?_; (with_reducible refine (remontoirref02_Parse.calls kj32 (a0.extract ((ji51) : Int).toNat a0.size) t215 t216 _ A54.out).mono ?_); rintro e w61 ⟨rfl, hb⟩; refine ⟨_, rfl, ?_⟩; have n0_ := Aside0.mk (bbe (g := gb213) (o := .cells #[.int .i64 0, .int .u64 0] 88 (0, 0)) (by (with_reducible repeat (first | refine bkn ?_ _ | refine bkd ?_ | refine bka ?_ _)); exact BK213.out) hb); have n1_ := Aside0.mk (bbe (g := gb214) (o := .cells #[.int .i64 0, .int .u64 0] 88 (0, 0)) (by (with_reducible repeat (first | refine bkn ?_ _ | refine bkd ?_ | refine bka ?_ _)); exact BK214.out) hb); have n2_ := Aside0.mk (bsp (by repeat (first | (with_reducible first | exact HB.out | apply bal | apply pbN | apply bd1 | refine bst ?_ GE213.out | refine bst ?_ GE214.out) | exact HB.out)) hb); clear BK213; clear BK214; clear HB; have BK213 := n0_; have BK214 := n1_; have HB := n2_; clear n0_ n1_ n2_; (try clear hb); (try clear hb2); (try clear hk); (try clear hi); have hnb62 := NB213_214.out; have hnc62 := NB214_213.out; have hcz63_0 : w61.cell? ⟨gb213, 0, none⟩ = some (.int .i64 0) := (bce BK213.out 0).trans rfl; have hcz63_1 : w61.cell? ⟨gb213, 1, none⟩ = some (.int .u64 0) := (bce BK213.out 1).trans rfl; have hfz63_0 := bfz BK213.out 0; have hfz63_1 := bfz BK213.out 1))
                    refine bodyPost_ret (results_ct rfl _ _ gb213 88 #[.int .i64 x6_3, .int .u64 t215] (0, 0) _ rfl (by (with_reducible repeat (first | refine bkn ?_ _ | refine bkd ?_ | refine bka ?_ _)); refine blk_put (cs := #[.int .i64 x6_3, .int .u64 0]) ?_ 1 _ rfl; (with_reducible repeat (first | refine bkn ?_ _ | refine bkd ?_ | refine bka ?_ _)); refine blk_put (cs := #[.int .i64 0, .int .u64 0]) ?_ 0 _ rfl; (with_reducible repeat (first | refine bkn ?_ _ | refine bkd ?_ | refine bka ?_ _)); exact BK213.out) Tryz.underlying88 rfl (by kernel_rfl)) rfl ?_
                    exact ⟨by first | rfl | (simp [errW_none, errW_some] <;> rfl) | (simp only [← hji51]; first | rfl | (simp [errW_none, errW_some] <;> rfl)) | (simp [*, errW_none, errW_some] <;> rfl), by repeat (first | (with_reducible first | exact HB.out | apply bal | apply pbN | apply bd1 | refine bst ?_ GE213.out | refine bst ?_ GE214.out) | exact HB.out)⟩
                  ·rw [if_neg c55] at H
                   have c55b0 : (t216 == 0) = false := beq_eq_false_iff_ne.mpr c55
                   have c55b1 : (t216 != 0) = true := bne_iff_ne.mpr c55
                   simp only [Option.some.injEq, Prod.mk.injEq] at H
                   obtain ⟨rfl, rfl, rfl⟩ := H
                   go_wp2_with (first | ((with_reducible refine gate_callee (f := 119) rfl ?_); refine goesL_ (some 88) rfl rfl Tryz.func119 (by kernel_rfl) rfl #[.string (a0.extract ((ji51) : Int).toNat a0.size)] rfl (by (try simp only [List.map_toArray, List.map_cons, List.map_nil]); first | done | (simp only [hji51]; rfl) | rfl | (simp only [List.length_drop, List.length_take]; rfl)) ?_; (with_reducible refine (remontoirref02_Parse.calls kj32 (a0.extract ((ji51) : Int).toNat a0.size) t215 t216 _ A54.out).mono ?_); rintro e w64 ⟨rfl, hb⟩; refine ⟨_, rfl, ?_⟩; have n0_ := Aside0.mk (bbe (g := gb213) (o := .cells #[.int .i64 0, .int .u64 0] 88 (0, 0)) (by (with_reducible repeat (first | refine bkn ?_ _ | refine bkd ?_ | refine bka ?_ _)); exact BK213.out) hb); have n1_ := Aside0.mk (bbe (g := gb214) (o := .cells #[.int .i64 0, .int .u64 0] 88 (0, 0)) (by (with_reducible repeat (first | refine bkn ?_ _ | refine bkd ?_ | refine bka ?_ _)); exact BK214.out) hb); have n2_ := Aside0.mk (bsp (by repeat (first | (with_reducible first | exact HB.out | apply bal | apply pbN | apply bd1 | refine bst ?_ GE213.out | refine bst ?_ GE214.out) | exact HB.out)) hb); clear BK213; clear BK214; clear HB; have BK213 := n0_; have BK214 := n1_; have HB := n2_; clear n0_ n1_ n2_; (try clear hb); (try clear hb2); (try clear hk); (try clear hi); have hnb65 := NB214_213.out; have hnc65 := NB213_214.out; have hcz66_0 : w64.cell? ⟨gb214, 0, none⟩ = some (.int .i64 0) := (bce BK214.out 0).trans rfl; have hcz66_1 : w64.cell? ⟨gb214, 1, none⟩ = some (.int .u64 0) := (bce BK214.out 1).trans rfl; have hfz66_0 := bfz BK214.out 0; have hfz66_1 := bfz BK214.out 1; have hcz67_0 : w64.cell? ⟨gb213, 0, none⟩ = some (.int .i64 0) := (bce BK213.out 0).trans rfl; have hcz67_1 : w64.cell? ⟨gb213, 1, none⟩ = some (.int .u64 0) := (bce BK213.out 1).trans rfl; have hfz67_0 := bfz BK213.out 0; have hfz67_1 := bfz BK213.out 1))
                   refine bodyPost_ret (results_ct rfl _ _ gb213 88 #[.int .i64 0, .int .u64 0] (0, 0) _ rfl (by (with_reducible repeat (first | refine bkn ?_ _ | refine bkd ?_ | refine bka ?_ _)); refine blk_put (cs := #[.int .i64 0, .int .u64 0]) ?_ 1 _ rfl; (with_reducible repeat (first | refine bkn ?_ _ | refine bkd ?_ | refine bka ?_ _)); refine blk_put (cs := #[.int .i64 0, .int .u64 0]) ?_ 0 _ rfl; (with_reducible repeat (first | refine bkn ?_ _ | refine bkd ?_ | refine bka ?_ _)); exact BK213.out) Tryz.underlying88 rfl (by kernel_rfl)) rfl ?_
                   exact ⟨by first | rfl | (simp [errW_none, errW_some] <;> rfl) | (simp only [← hji51]; first | rfl | (simp [errW_none, errW_some] <;> rfl)) | (simp [*, errW_none, errW_some] <;> rfl), by repeat (first | (with_reducible first | exact HB.out | apply bal | apply pbN | apply bd1 | refine bst ?_ GE213.out | refine bst ?_ GE214.out) | exact HB.out)⟩
                 ·rw [if_neg c53] at H
                  exact absurd H (by simp)
                ·rw [if_neg c52] at H
                 exact absurd H (by simp)

end Go.Proofs.YtdfkbiffdcfnpaaGreatDoor.H
