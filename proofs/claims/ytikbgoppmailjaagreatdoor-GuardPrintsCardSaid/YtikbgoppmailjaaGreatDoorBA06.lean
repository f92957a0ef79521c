/- Parts of the proof of LawGuardPrints: words, contracts of the functions, plain laws. -/
import Derived.Test.YtikbgoppmailjaaGreatDoorBA02
import Derived.Test.YtikbgoppmailjaaGreatDoorBA05
-- Written by hp.py (a program of this session, over the kit's print.py), with hand-made contracts beside it.
namespace Go.Proofs.YtikbgoppmailjaaGreatDoor.H
open Go.RowKit Go.Proofs.YtikbgoppmailjaaGreatDoorW.PrintWords Go.Proofs.YtikbgoppmailjaaGreatDoorW.PrintLast Go.Proofs.YtikbgoppmailjaaGreatDoorW.PrintMore
attribute [local go_sem] max2_int min2_int max_two min_two max_three min_three max_four min_four   -- for this text's walks alone
set_option linter.unusedVariables false
set_option linter.unusedSimpArgs false

/-! ### remontoirref14_Good: function 12 -/
mutual
def remontoirref14_Good.l0 : Nat → List (S39) → List Bool → Int → Option (Bool)
 | 0, _, _, _ => none
 | k + 1, x0, x3, x4 => if x4 < (x0.length : Int) then (if 0 ≤ x4 then (if ((rd_T39 x0 x4).f0) = 1 then (remontoirref14_Good.j1 k x0 x3 x4 ((rd_T39 x0 x4).f0) (x3.length : Int) true) else (remontoirref14_Good.j1 k x0 x3 x4 ((rd_T39 x0 x4).f0) (x3.length : Int) (((rd_T39 x0 x4).f0) == 2))) else (none)) else (if (x3.length : Int) = 1 then (if 0 < (x3.length : Int) then (some (rdOf false x3 0)) else (none)) else (some false))
def remontoirref14_Good.j1 : Nat → List (S39) → List Bool → Int → Int → Int → Bool → Option (Bool)
 | 0, _, _, _, _, _, _ => none
 | k + 1, x0, x3, x4, x5, x6, x20 => if x20 = true then (if 0 ≤ x4 then (if x4 < (x0.length : Int) then ((remontoirref13_Good.f ((rd_T39 x0 x4).f0) ((rd_T39 x0 x4).f1)).bind fun t173 => (if t173 = true then (if x3.length < 140737488355328 then (remontoirref14_Good.l0 k x0 (x3 ++ [false]) (wrap64 (x4 + 1))) else (none)) else (some false))) else (none)) else (none)) else (if 0 ≤ x4 then (if x4 < (x0.length : Int) then (if ((rd_T39 x0 x4).f1) = 0 then (if x5 = 19 then (if x6 < 1 then (some false) else (if 0 ≤ (wrap64 (x6 - 1)) then (if (wrap64 (x6 - 1)) < (x3.length : Int) then (if rdOf false x3 (wrap64 (x6 - 1)) = true then (some false) else (remontoirref14_Good.l0 k x0 x3 (wrap64 (x4 + 1)))) else (none)) else (none))) else (if x5 = 14 then (if x6 < 1 then (some false) else (if 0 ≤ (wrap64 (x6 - 1)) then (if (wrap64 (x6 - 1)) < (x3.length : Int) then (if (rdOf false x3 (wrap64 (x6 - 1)) = true) then (remontoirref14_Good.l0 k x0 x3 (wrap64 (x4 + 1))) else (some false)) else (none)) else (none))) else (if x5 = 3 then (remontoirref14_Good.j2 k x0 x3 x4 x5 x6 true) else (if x5 = 4 then (remontoirref14_Good.j2 k x0 x3 x4 x5 x6 true) else (remontoirref14_Good.j2 k x0 x3 x4 x5 x6 (x5 == 5)))))) else (some false)) else (none)) else (none))
def remontoirref14_Good.j2 : Nat → List (S39) → List Bool → Int → Int → Int → Bool → Option (Bool)
 | 0, _, _, _, _, _, _ => none
 | k + 1, x0, x3, x4, x5, x6, x68 => if x68 = true then (if x6 < 2 then (some false) else (if 0 ≤ (wrap64 (x6 - 1)) then (if (wrap64 (x6 - 1)) < (x3.length : Int) then (if rdOf false x3 (wrap64 (x6 - 1)) = true then (some false) else (if 0 ≤ (wrap64 (x6 - 2)) then (if (wrap64 (x6 - 2)) < (x3.length : Int) then (if rdOf false x3 (wrap64 (x6 - 2)) = true then (some false) else (if (wrap64 (x6 - 1)) ≤ (x3.length : Int) then (remontoirref14_Good.l0 k x0 (x3.take ((wrap64 (x6 - 1)) : Int).toNat) (wrap64 (x4 + 1))) else (none))) else (none)) else (none))) else (none)) else (none))) else (if x5 ≥ 6 then (remontoirref14_Good.j3 k x0 x3 x4 x5 x6 (decide (x5 ≤ 11))) else (remontoirref14_Good.j3 k x0 x3 x4 x5 x6 false))
def remontoirref14_Good.j3 : Nat → List (S39) → List Bool → Int → Int → Int → Bool → Option (Bool)
 | 0, _, _, _, _, _, _ => none
 | k + 1, x0, x3, x4, x5, x6, x99 => if x99 = true then (if x6 < 2 then (some false) else (if 0 ≤ (wrap64 (x6 - 1)) then (if (wrap64 (x6 - 1)) < (x3.length : Int) then (if rdOf false x3 (wrap64 (x6 - 1)) = true then (some false) else (if 0 ≤ (wrap64 (x6 - 2)) then (if (wrap64 (x6 - 2)) < (x3.length : Int) then (if rdOf false x3 (wrap64 (x6 - 2)) = true then (some false) else (if (wrap64 (x6 - 2)) ≤ (x3.length : Int) then ((some (x3.take ((wrap64 (x6 - 2)) : Int).toNat : List Bool)).bind fun y187 => (if y187.length < 140737488355328 then (remontoirref14_Good.l0 k x0 (y187 ++ [true]) (wrap64 (x4 + 1))) else (none))) else (none))) else (none)) else (none))) else (none)) else (none))) else (if x5 = 12 then (remontoirref14_Good.j4 k x0 x3 x4 x6 true) else (remontoirref14_Good.j4 k x0 x3 x4 x6 (x5 == 13)))
def remontoirref14_Good.j4 : Nat → List (S39) → List Bool → Int → Int → Bool → Option (Bool)
 | 0, _, _, _, _, _ => none
 | k + 1, x0, x3, x4, x6, x128 => if x128 = true then (if x6 < 2 then (some false) else (if 0 ≤ (wrap64 (x6 - 1)) then (if (wrap64 (x6 - 1)) < (x3.length : Int) then (if (rdOf false x3 (wrap64 (x6 - 1)) = true) then (if 0 ≤ (wrap64 (x6 - 2)) then (if (wrap64 (x6 - 2)) < (x3.length : Int) then (if (rdOf false x3 (wrap64 (x6 - 2)) = true) then (if (wrap64 (x6 - 1)) ≤ (x3.length : Int) then (remontoirref14_Good.l0 k x0 (x3.take ((wrap64 (x6 - 1)) : Int).toNat) (wrap64 (x4 + 1))) else (none)) else (some false)) else (none)) else (none)) else (some false)) else (none)) else (none))) else (some false)
end
def remontoirref14_Good.f (k : Nat) (l0 : List (S39)) : Option (Bool) := remontoirref14_Good.l0 k l0 ([] : List Bool) 0
theorem remontoirref14_Good.mono_l : ∀ k, (∀ y0 y1 y2, LeO (remontoirref14_Good.l0 k y0 y1 y2) (remontoirref14_Good.l0 (k + 1) y0 y1 y2)) ∧ (∀ y0 y1 y2 y3 y4 y5, LeO (remontoirref14_Good.j1 k y0 y1 y2 y3 y4 y5) (remontoirref14_Good.j1 (k + 1) y0 y1 y2 y3 y4 y5)) ∧ (∀ y0 y1 y2 y3 y4 y5, LeO (remontoirref14_Good.j2 k y0 y1 y2 y3 y4 y5) (remontoirref14_Good.j2 (k + 1) y0 y1 y2 y3 y4 y5)) ∧ (∀ y0 y1 y2 y3 y4 y5, LeO (remontoirref14_Good.j3 k y0 y1 y2 y3 y4 y5) (remontoirref14_Good.j3 (k + 1) y0 y1 y2 y3 y4 y5)) ∧ (∀ y0 y1 y2 y3 y4, LeO (remontoirref14_Good.j4 k y0 y1 y2 y3 y4) (remontoirref14_Good.j4 (k + 1) y0 y1 y2 y3 y4))
 | 0 => ⟨fun _ _ _ r h => by simp [remontoirref14_Good.l0] at h, fun _ _ _ _ _ _ r h => by simp [remontoirref14_Good.j1] at h, fun _ _ _ _ _ _ r h => by simp [remontoirref14_Good.j2] at h, fun _ _ _ _ _ _ r h => by simp [remontoirref14_Good.j3] at h, fun _ _ _ _ _ r h => by simp [remontoirref14_Good.j4] at h⟩
 | k + 1 => by
  obtain ⟨ih0, ih1, ih2, ih3, ih4⟩ := remontoirref14_Good.mono_l k
  refine ⟨?_, ?_, ?_, ?_, ?_⟩
  ·intro y0 y1 y2
   unfold remontoirref14_Good.l0
   repeat' first
   | (with_reducible exact ih0 _ _ _)
   | (with_reducible exact ih1 _ _ _ _ _ _)
   | (with_reducible exact ih2 _ _ _ _ _ _)
   | (with_reducible exact ih3 _ _ _ _ _ _)
   | (with_reducible exact ih4 _ _ _ _ _)
   | (with_reducible exact LeO.refl _)
   | (with_reducible exact LeO.none _)
   | (with_reducible refine LeO.ite ?_ ?_)
   | (with_reducible refine LeO.bind ?_ (fun _ => ?_))
   | exact ih0 _ _ _
   | exact ih1 _ _ _ _ _ _
   | exact ih2 _ _ _ _ _ _
   | exact ih3 _ _ _ _ _ _
   | exact ih4 _ _ _ _ _
   | exact LeO.none _
   | refine LeO.ite ?_ ?_
   | refine LeO.bind ?_ (fun _ => ?_)
  ·intro y0 y1 y2 y3 y4 y5
   unfold remontoirref14_Good.j1
   repeat' first
   | (with_reducible exact ih0 _ _ _)
   | (with_reducible exact ih1 _ _ _ _ _ _)
   | (with_reducible exact ih2 _ _ _ _ _ _)
   | (with_reducible exact ih3 _ _ _ _ _ _)
   | (with_reducible exact ih4 _ _ _ _ _)
   | (with_reducible exact LeO.refl _)
   | (with_reducible exact LeO.none _)
   | (with_reducible refine LeO.ite ?_ ?_)
   | (with_reducible refine LeO.bind ?_ (fun _ => ?_))
   | exact ih0 _ _ _
   | exact ih1 _ _ _ _ _ _
   | exact ih2 _ _ _ _ _ _
   | exact ih3 _ _ _ _ _ _
   | exact ih4 _ _ _ _ _
   | exact LeO.none _
   | refine LeO.ite ?_ ?_
   | refine LeO.bind ?_ (fun _ => ?_)
  ·intro y0 y1 y2 y3 y4 y5
   unfold remontoirref14_Good.j2
   repeat' first
   | (with_reducible exact ih0 _ _ _)
   | (with_reducible exact ih1 _ _ _ _ _ _)
   | (with_reducible exact ih2 _ _ _ _ _ _)
   | (with_reducible exact ih3 _ _ _ _ _ _)
   | (with_reducible exact ih4 _ _ _ _ _)
   | (with_reducible exact LeO.refl _)
   | (with_reducible exact LeO.none _)
   | (with_reducible refine LeO.ite ?_ ?_)
   | (with_reducible refine LeO.bind ?_ (fun _ => ?_))
   | exact ih0 _ _ _
   | exact ih1 _ _ _ _ _ _
   | exact ih2 _ _ _ _ _ _
   | exact ih3 _ _ _ _ _ _
   | exact ih4 _ _ _ _ _
   | exact LeO.none _
   | refine LeO.ite ?_ ?_
   | refine LeO.bind ?_ (fun _ => ?_)
  ·intro y0 y1 y2 y3 y4 y5
   unfold remontoirref14_Good.j3
   repeat' first
   | (with_reducible exact ih0 _ _ _)
   | (with_reducible exact ih1 _ _ _ _ _ _)
   | (with_reducible exact ih2 _ _ _ _ _ _)
   | (with_reducible exact ih3 _ _ _ _ _ _)
   | (with_reducible exact ih4 _ _ _ _ _)
   | (with_reducible exact LeO.refl _)
   | (with_reducible exact LeO.none _)
   | (with_reducible refine LeO.ite ?_ ?_)
   | (with_reducible refine LeO.bind ?_ (fun _ => ?_))
   | exact ih0 _ _ _
   | exact ih1 _ _ _ _ _ _
   | exact ih2 _ _ _ _ _ _
   | exact ih3 _ _ _ _ _ _
   | exact ih4 _ _ _ _ _
   | exact LeO.none _
   | refine LeO.ite ?_ ?_
   | refine LeO.bind ?_ (fun _ => ?_)
  ·intro y0 y1 y2 y3 y4
   unfold remontoirref14_Good.j4
   repeat' first
   | (with_reducible exact ih0 _ _ _)
   | (with_reducible exact ih1 _ _ _ _ _ _)
   | (with_reducible exact ih2 _ _ _ _ _ _)
   | (with_reducible exact ih3 _ _ _ _ _ _)
   | (with_reducible exact ih4 _ _ _ _ _)
   | (with_reducible exact LeO.refl _)
   | (with_reducible exact LeO.none _)
   | (with_reducible refine LeO.ite ?_ ?_)
   | (with_reducible refine LeO.bind ?_ (fun _ => ?_))
   | exact ih0 _ _ _
   | exact ih1 _ _ _ _ _ _
   | exact ih2 _ _ _ _ _ _
   | exact ih3 _ _ _ _ _ _
   | exact ih4 _ _ _ _ _
   | exact LeO.none _
   | refine LeO.ite ?_ ?_
   | refine LeO.bind ?_ (fun _ => ?_)
theorem remontoirref14_Good.mono : ∀ a0 k, LeO (remontoirref14_Good.f k a0) (remontoirref14_Good.f (k + 1) a0) := by
  intro a0 k
  obtain ⟨ih0, ih1, ih2, ih3, ih4⟩ := remontoirref14_Good.mono_l k
  unfold remontoirref14_Good.f
  repeat' first
      | (with_reducible exact ih0 _ _ _)
      | (with_reducible exact ih1 _ _ _ _ _ _)
      | (with_reducible exact ih2 _ _ _ _ _ _)
      | (with_reducible exact ih3 _ _ _ _ _ _)
      | (with_reducible exact ih4 _ _ _ _ _)
      | (with_reducible exact LeO.refl _)
      | (with_reducible exact LeO.none _)
      | (with_reducible refine LeO.ite ?_ ?_)
      | (with_reducible refine LeO.bind ?_ (fun _ => ?_))
      | exact ih0 _ _ _
      | exact ih1 _ _ _ _ _ _
      | exact ih2 _ _ _ _ _ _
      | exact ih3 _ _ _ _ _ _
      | exact ih4 _ _ _ _ _
      | exact LeO.none _
      | refine LeO.ite ?_ ?_
      | refine LeO.bind ?_ (fun _ => ?_)
set_option maxHeartbeats 8000000 in
set_option maxRecDepth 100000 in
theorem remontoirref14_Good.calls (k : Nat) (A0 : Option Addr) (c0 : Nat) (l0 : List (S39)) (r : Bool) (w : World) (hr0 : Kd.C k39 w A0 l0.length l0) (hc0 : l0.length ≤ c0) (h : remontoirref14_Good.f k l0 = some r) :
  Calls Tryz.prog 12 #[.slice A0 l0.length c0] w fun e w' => e = .returned (.bool r) ∧ Below w.heap.size w w' := by
 have hu39 := Tryz.underlying39
 have HR0 := Aside0.mk hr0
 have HC0 := Aside0.mk hc0
 clear hr0 hc0
 have HB := Aside0.mk (Below.refl w.heap.size w)
 have H : (remontoirref14_Good.l0 k l0 ([] : List Bool) 0) = some r := h
 clear h
 have H' := Aside0.mk H
 clear H
 go_enter Tryz.func12, Tryz.ntmps12
 go_wp2
 go_loopg [3, 4] k (fun kq v3 v4 w' => ∃ (x3_1 : List Bool) (x4_1 : Int), v4 = .int .i64 x4_1 ∧ Aside0 (remontoirref14_Good.l0 kq l0 x3_1 x4_1 = some r) ∧ Aside0 (kq ≤ k) ∧ Aside0 (Kd.R Kd.bool 4 w' w.heap.size (fun _ => True) v3 x3_1) ∧ Aside0 (Below w.heap.size w w'))
 case atStart => exact ⟨(([] : List Bool)), (0), (by first | rfl | (simp; done) | (simp [*]; done)), H', ⟨Nat.le_refl _⟩, ⟨by first | exact Kd.R_nil _ _ _ _ _ | exact Kd.N_nil _ _ _ _ _ | exact Kd.V_nil _ _ _ _ _ | exact Kd.Q_nil _ _ _ _ _ | exact Kd.S_nil _ _ _ _ _⟩, ⟨by repeat (first | (with_reducible first | exact HB.out | apply bal | apply pbN | apply bd1) | exact HB.out)⟩⟩
 case round =>
  clear H'
  try clear c1
  obtain ⟨x3_1, x4_1, rfl, HA, HK1, HO_3, HB⟩ := hrel
  cases gk with
  | zero => exact absurd HA.out (by simp [remontoirref14_Good.l0])
  | succ k1 =>
   have H := HA.out
   clear HA
   simp only [remontoirref14_Good.l0] at H
   by_cases c2 : x4_1 < (l0.length : Int)
   ·rw [if_pos c2] at H
    have c2b0 : decide (x4_1 < (l0.length : Int)) = true := decide_eq_true c2
    clear c2
    by_cases c3 : 0 ≤ x4_1
    ·rw [if_pos c3] at H
     have c3b0 : decide (0 ≤ x4_1) = true := decide_eq_true c3
     clear c3
     have HC4 := Aside0.mk H
     clear H
     have p171 : 0 ≤ (x4_1 : Int) := of_decide_eq_true (by first | (with_reducible assumption) | assumption)
     have q171 : x4_1 < (l0.length : Int) := of_decide_eq_true (by first | (with_reducible assumption) | assumption)
     obtain ⟨ad171, e171, hx171_0, hx171_1⟩ := at_T39 HR0.out x4_1 p171 q171
     cases e171
     replace hx171_0 := (HB.out.cell (World.block_lt_of_cell? w _ hx171_0)).trans hx171_0
     replace hx171_1 := (HB.out.cell (World.block_lt_of_cell? w _ hx171_1)).trans hx171_1
     replace p171 := eq_true p171
     replace q171 := eq_true q171
     obtain ⟨Ao5, co5, eo5⟩ := Kd.R_slice HO_3.out
     subst eo5
     go_upto_region 7 with (fail)
     go_cut [20] (fun v20 wc => ∃ (kq : Nat) (x20_3 : Bool), v20 = .bool x20_3 ∧ Aside0 (remontoirref14_Good.j1 kq l0 x3_1 x4_1 ((rd_T39 l0 x4_1).f0) (x3_1.length : Int) x20_3 = some r) ∧ Aside0 (kq ≤ k1) ∧ Aside0 (Kd.R Kd.bool 4 wc w.heap.size (fun _ => True) (.slice Ao5 x3_1.length co5) x3_1) ∧ Aside0 (Below w.heap.size w wc))
     case first =>
      have H := HC4.out
      clear HC4
      by_cases c6 : ((rd_T39 l0 x4_1).f0) = 1
      ·rw [if_pos c6] at H
       have c6b0 : (((rd_T39 l0 x4_1).f0) == 1) = true := beq_iff_eq.mpr c6
       have c6b1 : (((rd_T39 l0 x4_1).f0) != 1) = false := bne_eq_false_iff_eq.mpr c6
       clear c6
       (first | rw [c6b0] | (simp only [i64_w, i32_w]; rw [c6b0]) | skip)
       have H' := Aside0.mk H
       clear H
       go_wp2
       go_meet
       case rel => exact ⟨_, (true), (by first | rfl | (simp; done) | (simp [*]; done)), H', ⟨by have := HK1.out; first | omega | exact Nat.le_refl _⟩, ⟨by (with_reducible repeat (first | apply Kd.R_alloc | apply Kd.R_drewN | apply Kd.R_drew)); exact HO_3.out⟩, ⟨by repeat (first | (with_reducible first | exact HB.out | apply bal | apply pbN | apply bd1) | exact HB.out)⟩⟩
      ·rw [if_neg c6] at H
       have c6b0 : (((rd_T39 l0 x4_1).f0) == 1) = false := beq_eq_false_iff_ne.mpr c6
       have c6b1 : (((rd_T39 l0 x4_1).f0) != 1) = true := bne_iff_ne.mpr c6
       (first | rw [c6b0] | (simp only [i64_w, i32_w]; rw [c6b0]) | skip)
       have H' := Aside0.mk H
       clear H
       go_wp2
       go_meet
       case rel => exact ⟨_, ((((rd_T39 l0 x4_1).f0) == 2)), (by first | rfl | (simp; done) | (simp [*]; done)), H', ⟨by have := HK1.out; first | omega | exact Nat.le_refl _⟩, ⟨by (with_reducible repeat (first | apply Kd.R_alloc | apply Kd.R_drewN | apply Kd.R_drew)); exact HO_3.out⟩, ⟨by repeat (first | (with_reducible first | exact HB.out | apply bal | apply pbN | apply bd1) | exact HB.out)⟩⟩
     case rest =>
      clear HC4
      try clear c1
      try clear p1
      try clear q1
      try clear hx1
      try clear c2
      try clear c2b0
      try clear p2
      try clear c3
      try clear c3b0
      try clear c6
      try clear c6b0
      try clear c6b1
      try clear hx171_0
      try clear hx171_1
      try clear p171
      try clear q171
      obtain ⟨kq, x20_3, rfl, HA, HJ3, HO_3, HB⟩ := hcut
      cases kq with
      | zero => exact absurd HA.out (by simp [remontoirref14_Good.j1])
      | succ kj3 =>
       have H := HA.out
       clear HA
       simp only [remontoirref14_Good.j1] at H
       by_cases c7 : x20_3 = true
       ·subst c7
        have H1 : (if 0 ≤ x4_1 then (if x4_1 < (l0.length : Int) then ((remontoirref13_Good.f ((rd_T39 l0 x4_1).f0) ((rd_T39 l0 x4_1).f1)).bind fun t173 => (if t173 = true then (if x3_1.length < 140737488355328 then (remontoirref14_Good.l0 kj3 l0 (x3_1 ++ [false]) (wrap64 (x4_1 + 1))) else (none)) else (some false))) else (none)) else (none)) = some r := by rw [if_pos rfl] at H; exact H
        clear H
        have H := H1
        clear H1
        by_cases c8 : 0 ≤ x4_1
        ·rw [if_pos c8] at H
         have c8b0 : decide (0 ≤ x4_1) = true := decide_eq_true c8
         clear c8
         by_cases c9 : x4_1 < (l0.length : Int)
         ·rw [if_pos c9] at H
          have c9b0 : decide (x4_1 < (l0.length : Int)) = true := decide_eq_true c9
          clear c9
          replace H := Option.bind_eq_some_iff.mp H
          obtain ⟨t173, A100, H⟩ := H
          replace H : (if t173 = true then (if x3_1.length < 140737488355328 then (remontoirref14_Good.l0 kj3 l0 (x3_1 ++ [false]) (wrap64 (x4_1 + 1))) else (none)) else (some false)) = some r := H
          have A10 := Aside0.mk A100
          clear A100
          by_cases c11 : t173 = true
          ·subst c11
           have H1 : (if x3_1.length < 140737488355328 then (remontoirref14_Good.l0 kj3 l0 (x3_1 ++ [false]) (wrap64 (x4_1 + 1))) else (none)) = some r := by rw [if_pos rfl] at H; exact H
           clear H
           have H := H1
           clear H1
           by_cases c12 : x3_1.length < 140737488355328
           ·rw [if_pos c12] at H
            have LMc12 := Aside0.mk c12
            clear c12
            obtain ⟨y174, hy174⟩ : ∃ y_ : List Bool, y_ = (x3_1 ++ [false]) := ⟨_, rfl⟩
            replace H : (remontoirref14_Good.l0 kj3 l0 y174 (wrap64 (x4_1 + 1))) = some r := by first | (rw [hy174]; with_reducible exact H) | (have H2_ := (Option.bind_some _ _).symm.trans H; rw [hy174]; with_reducible exact H2_) | (have H2_ := (Option.bind_some _ _).symm.trans H; with_reducible exact H2_) | with_reducible exact H | (rw [hy174]; exact H) | exact H
            have Ny174 := Aside0.mk hy174
            clear hy174
            have H' := Aside0.mk H
            clear H
            have p172 : 0 ≤ (x4_1 : Int) := of_decide_eq_true (by first | (with_reducible assumption) | assumption)
            have q172 : x4_1 < (l0.length : Int) := of_decide_eq_true (by first | (with_reducible assumption) | assumption)
            obtain ⟨ad172, e172, hx172_0, hx172_1⟩ := at_T39 HR0.out x4_1 p172 q172
            obtain rfl : ad171 = ad172 := (by injection e172)
            replace hx172_0 := (HB.out.cell (World.block_lt_of_cell? w _ hx172_0)).trans hx172_0
            replace hx172_1 := (HB.out.cell (World.block_lt_of_cell? w _ hx172_1)).trans hx172_1
            replace p172 := eq_true p172
            replace q172 := eq_true q172
            go_wp2_with (first | ((with_reducible refine gate_callee (f := 27) rfl ?_); refine goesL_ (some 31) rfl rfl Tryz.func27 (by kernel_rfl) rfl #[.agg #[.int .i64 ((rd_T39 l0 x4_1).f0), .int .i64 ((rd_T39 l0 x4_1).f1)]] rfl (by (try simp only [List.map_toArray, List.map_cons, List.map_nil]); first | done | rfl | (simp only [List.length_drop, List.length_take]; rfl)) ?_; (with_reducible refine (remontoirref13_Good.calls ((rd_T39 l0 x4_1).f0) ((rd_T39 l0 x4_1).f1) true _ A10.out).mono ?_); rintro e w13 ⟨rfl, hb⟩; refine ⟨_, rfl, ?_⟩; have n0_ := Aside0.mk (Kd.R_below (by (with_reducible repeat (first | apply Kd.R_alloc | apply Kd.R_drewN | apply Kd.R_drew)); exact HO_3.out) hb); have n1_ := Aside0.mk (bsp (by repeat (first | (with_reducible first | exact HB.out | apply bal | apply pbN | apply bd1) | exact HB.out)) hb); clear HO_3; clear HB; have HO_3 := n0_; have HB := n1_; clear n0_ n1_; (try clear hb); (try clear hb2); (try clear hk); (try clear hi)) | ((with_reducible refine gate_builtin (b := .append) (xs := #[.tmp 33, .tmp 34]) rfl ?_); at_builtin; refine Kd.R_append Kd.bool (w0 := w) w.heap.size rfl (.tmp 33) (.tmp 34) 57 4 (.bool false) 1 rfl Tryz.underlying57 info4 rfl (by decide) (by omega) (.slice Ao5 x3_1.length co5) x3_1 false [.bool false] (fun _ => True) (fun _ => False) rfl rfl ?aP (fun _ hk => hk.elim) ?aF ?aO ?aB ?aS ?aL ?_; (case aP => exact rfl); (case aB => exact (by repeat (first | (with_reducible first | exact HB.out | apply bal | apply pbN | apply bd1) | exact HB.out))); (case aF => exact (fun _ _ => trivial)); (case aO => exact (by (with_reducible repeat (first | apply Kd.R_alloc | apply Kd.R_drewN | apply Kd.R_drew)); exact HO_3.out)); (case aS => exact (bsz (by repeat (first | (with_reducible first | exact HB.out | apply bal | apply pbN | apply bd1) | exact HB.out)))); (case aL => have := LMc12.out; omega); intro v175 w14 ho hb hg hat; rw [← Ny174.out] at ho; have n0_ := Aside0.mk (hb); have n1_ := Aside0.mk (ho); clear HB; clear HO_3; have HB := n0_; have HO176 := n1_; clear n0_ n1_; clear ho hb hg hat))
            go_roundg kj3
            case measure => have := HK1.out; have := HJ3.out; omega
            case rel => exact ⟨(y174), (wrap64 (x4_1 + 1)), (by first | rfl | (simp; done) | (simp [*]; done)), H', ⟨by have := HK1.out; have := HJ3.out; omega⟩, ⟨by (with_reducible repeat (first | apply Kd.R_alloc | apply Kd.R_drewN | apply Kd.R_drew)); exact HO176.out⟩, ⟨by repeat (first | (with_reducible first | exact HB.out | apply bal | apply pbN | apply bd1) | exact HB.out)⟩⟩
           ·rw [if_neg c12] at H
            exact absurd H (by simp)
          ·replace c11 := Bool.eq_false_iff.mpr c11
           subst c11
           have H1 : (some false) = some r := by rw [if_neg (show ¬ (false = true) by decide)] at H; exact H
           clear H
           have H := H1
           clear H1
           obtain rfl := Option.some.inj H
           have p172 : 0 ≤ (x4_1 : Int) := of_decide_eq_true (by first | (with_reducible assumption) | assumption)
           have q172 : x4_1 < (l0.length : Int) := of_decide_eq_true (by first | (with_reducible assumption) | assumption)
           obtain ⟨ad172, e172, hx172_0, hx172_1⟩ := at_T39 HR0.out x4_1 p172 q172
           obtain rfl : ad171 = ad172 := (by injection e172)
           replace hx172_0 := (HB.out.cell (World.block_lt_of_cell? w _ hx172_0)).trans hx172_0
           replace hx172_1 := (HB.out.cell (World.block_lt_of_cell? w _ hx172_1)).trans hx172_1
           replace p172 := eq_true p172
           replace q172 := eq_true q172
           go_wp2_with (first | ((with_reducible refine gate_callee (f := 27) rfl ?_); refine goesL_ (some 31) rfl rfl Tryz.func27 (by kernel_rfl) rfl #[.agg #[.int .i64 ((rd_T39 l0 x4_1).f0), .int .i64 ((rd_T39 l0 x4_1).f1)]] rfl (by (try simp only [List.map_toArray, List.map_cons, List.map_nil]); first | done | rfl | (simp only [List.length_drop, List.length_take]; rfl)) ?_; (with_reducible refine (remontoirref13_Good.calls ((rd_T39 l0 x4_1).f0) ((rd_T39 l0 x4_1).f1) false _ A10.out).mono ?_); rintro e w15 ⟨rfl, hb⟩; refine ⟨_, rfl, ?_⟩; have n0_ := Aside0.mk (Kd.R_below (by (with_reducible repeat (first | apply Kd.R_alloc | apply Kd.R_drewN | apply Kd.R_drew)); exact HO_3.out) hb); have n1_ := Aside0.mk (bsp (by repeat (first | (with_reducible first | exact HB.out | apply bal | apply pbN | apply bd1) | exact HB.out)) hb); clear HO_3; clear HB; have HO_3 := n0_; have HB := n1_; clear n0_ n1_; (try clear hb); (try clear hb2); (try clear hk); (try clear hi)))
           go_ret
           exact ⟨by first | rfl | (simp [errW_none, errW_some] <;> rfl) | (simp [*, errW_none, errW_some] <;> rfl), by repeat (first | (with_reducible first | exact HB.out | apply bal | apply pbN | apply bd1) | exact HB.out)⟩
         ·rw [if_neg c9] at H
          exact absurd H (by simp)
        ·rw [if_neg c8] at H
         exact absurd H (by simp)
       ·replace c7 := Bool.eq_false_iff.mpr c7
        subst c7
        have H1 : (if 0 ≤ x4_1 then (if x4_1 < (l0.length : Int) then (if ((rd_T39 l0 x4_1).f1) = 0 then (if ((rd_T39 l0 x4_1).f0) = 19 then (if (x3_1.length : Int) < 1 then (some false) else (if 0 ≤ (wrap64 ((x3_1.length : Int) - 1)) then (if (wrap64 ((x3_1.length : Int) - 1)) < (x3_1.length : Int) then (if rdOf false x3_1 (wrap64 ((x3_1.length : Int) - 1)) = true then (some false) else (remontoirref14_Good.l0 kj3 l0 x3_1 (wrap64 (x4_1 + 1)))) else (none)) else (none))) else (if ((rd_T39 l0 x4_1).f0) = 14 then (if (x3_1.length : Int) < 1 then (some false) else (if 0 ≤ (wrap64 ((x3_1.length : Int) - 1)) then (if (wrap64 ((x3_1.length : Int) - 1)) < (x3_1.length : Int) then (if (rdOf false x3_1 (wrap64 ((x3_1.length : Int) - 1)) = true) then (remontoirref14_Good.l0 kj3 l0 x3_1 (wrap64 (x4_1 + 1))) else (some false)) else (none)) else (none))) else (if ((rd_T39 l0 x4_1).f0) = 3 then (remontoirref14_Good.j2 kj3 l0 x3_1 x4_1 ((rd_T39 l0 x4_1).f0) (x3_1.length : Int) true) else (if ((rd_T39 l0 x4_1).f0) = 4 then (remontoirref14_Good.j2 kj3 l0 x3_1 x4_1 ((rd_T39 l0 x4_1).f0) (x3_1.length : Int) true) else (remontoirref14_Good.j2 kj3 l0 x3_1 x4_1 ((rd_T39 l0 x4_1).f0) (x3_1.length : Int) (((rd_T39 l0 x4_1).f0) == 5)))))) else (some false)) else (none)) else (none)) = some r := by rw [if_neg (show ¬ (false = true) by decide)] at H; exact H
        clear H
        have H := H1
        clear H1
        by_cases c16 : 0 ≤ x4_1
        ·rw [if_pos c16] at H
         have c16b0 : decide (0 ≤ x4_1) = true := decide_eq_true c16
         clear c16
         by_cases c17 : x4_1 < (l0.length : Int)
         ·rw [if_pos c17] at H
          have c17b0 : decide (x4_1 < (l0.length : Int)) = true := decide_eq_true c17
          clear c17
          by_cases c18 : ((rd_T39 l0 x4_1).f1) = 0
          ·rw [if_pos c18] at H
           have c18b0 : (((rd_T39 l0 x4_1).f1) == 0) = true := beq_iff_eq.mpr c18
           have c18b1 : (((rd_T39 l0 x4_1).f1) != 0) = false := bne_eq_false_iff_eq.mpr c18
           clear c18
           by_cases c19 : ((rd_T39 l0 x4_1).f0) = 19
           ·rw [if_pos c19] at H
            have c19b0 : (((rd_T39 l0 x4_1).f0) == 19) = true := beq_iff_eq.mpr c19
            have c19b1 : (((rd_T39 l0 x4_1).f0) != 19) = false := bne_eq_false_iff_eq.mpr c19
            clear c19
            by_cases c20 : (x3_1.length : Int) < 1
            ·rw [if_pos c20] at H
             have c20b0 : decide ((x3_1.length : Int) < 1) = true := decide_eq_true c20
             have c20b1 : decide (x3_1.length < 1) = true := decide_eq_true (by omega)
             clear c20
             obtain rfl := Option.some.inj H
             have p177 : 0 ≤ (x4_1 : Int) := of_decide_eq_true (by first | (with_reducible assumption) | assumption)
             have q177 : x4_1 < (l0.length : Int) := of_decide_eq_true (by first | (with_reducible assumption) | assumption)
             obtain ⟨ad177, e177, hx177_0, hx177_1⟩ := at_T39 HR0.out x4_1 p177 q177
             obtain rfl : ad171 = ad177 := (by injection e177)
             replace hx177_0 := (HB.out.cell (World.block_lt_of_cell? w _ hx177_0)).trans hx177_0
             replace hx177_1 := (HB.out.cell (World.block_lt_of_cell? w _ hx177_1)).trans hx177_1
             replace p177 := eq_true p177
             replace q177 := eq_true q177
             go_wp2
             go_ret
             exact ⟨by first | rfl | (simp [errW_none, errW_some] <;> rfl) | (simp [*, errW_none, errW_some] <;> rfl), by repeat (first | (with_reducible first | exact HB.out | apply bal | apply pbN | apply bd1) | exact HB.out)⟩
            ·rw [if_neg c20] at H
             have c20b0 : decide ((x3_1.length : Int) < 1) = false := decide_eq_false c20
             have c20b1 : decide (x3_1.length < 1) = false := decide_eq_false (by omega)
             clear c20
             obtain ⟨ji21, hji21⟩ : ∃ j_ : Int, (wrap64 ((x3_1.length : Int) - 1)) = j_ := ⟨_, rfl⟩
             replace H : (if 0 ≤ (ji21) then (if (ji21) < (x3_1.length : Int) then (if rdOf false x3_1 (ji21) = true then (some false) else (remontoirref14_Good.l0 kj3 l0 x3_1 (wrap64 (x4_1 + 1)))) else (none)) else (none)) = some r := by first | (rw [hji21] at H; exact H) | (simp only [hji21] at H ⊢; exact H)
             have hji21w : (IntKind.i64.wrap ((x3_1.length : Int) - 1)) = ji21 := (i64_w _).trans hji21
             by_cases c22 : 0 ≤ (ji21)
             ·rw [if_pos c22] at H
              have c22b0 : decide (0 ≤ (ji21)) = true := decide_eq_true c22
              clear c22
              by_cases c23 : (ji21) < (x3_1.length : Int)
              ·rw [if_pos c23] at H
               have c23b0 : decide ((ji21) < (x3_1.length : Int)) = true := decide_eq_true c23
               clear c23
               obtain ⟨bq24, hbq24⟩ : ∃ b_ : Bool, b_ = (rdOf false x3_1 (ji21)) := ⟨_, rfl⟩
               replace H : (if bq24 = true then (some false) else (remontoirref14_Good.l0 kj3 l0 x3_1 (wrap64 (x4_1 + 1)))) = some r := by rw [← hbq24] at H; exact H
               have Nbq24 := Aside0.mk hbq24
               clear hbq24
               by_cases c25 : bq24 = true
               ·subst c25
                have H1 : (some false) = some r := by rw [if_pos rfl] at H; exact H
                clear H
                have H := H1
                clear H1
                obtain rfl := Option.some.inj H
                have p177 : 0 ≤ (x4_1 : Int) := of_decide_eq_true (by first | (with_reducible assumption) | assumption)
                have q177 : x4_1 < (l0.length : Int) := of_decide_eq_true (by first | (with_reducible assumption) | assumption)
                obtain ⟨ad177, e177, hx177_0, hx177_1⟩ := at_T39 HR0.out x4_1 p177 q177
                obtain rfl : ad171 = ad177 := (by injection e177)
                replace hx177_0 := (HB.out.cell (World.block_lt_of_cell? w _ hx177_0)).trans hx177_0
                replace hx177_1 := (HB.out.cell (World.block_lt_of_cell? w _ hx177_1)).trans hx177_1
                replace p177 := eq_true p177
                replace q177 := eq_true q177
                have p178 : 0 ≤ ((ji21) : Int) := of_decide_eq_true (by first | (with_reducible assumption) | assumption)
                have q178 : (ji21) < (x3_1.length : Int) := of_decide_eq_true (by first | (with_reducible assumption) | assumption)
                obtain ⟨ad178, e178, hx178_0⟩ := Kd.at_bool (Kd.R_reads' HO_3.out).2.2 (ji21) p178 q178
                (try rw [← Nbq24.out] at hx178_0)
                cases e178
                replace p178 := eq_true p178
                replace q178 := eq_true q178
                go_wp2
                go_ret
                exact ⟨by first | rfl | (simp [errW_none, errW_some] <;> rfl) | (simp only [← hji21]; first | rfl | (simp [errW_none, errW_some] <;> rfl)) | (simp [*, errW_none, errW_some] <;> rfl), by repeat (first | (with_reducible first | exact HB.out | apply bal | apply pbN | apply bd1) | exact HB.out)⟩
               ·replace c25 := Bool.eq_false_iff.mpr c25
                subst c25
                have H1 : (remontoirref14_Good.l0 kj3 l0 x3_1 (wrap64 (x4_1 + 1))) = some r := by rw [if_neg (show ¬ (false = true) by decide)] at H; exact H
                clear H
                have H := H1
                clear H1
                have H' := Aside0.mk H
                clear H
                have p177 : 0 ≤ (x4_1 : Int) := of_decide_eq_true (by first | (with_reducible assumption) | assumption)
                have q177 : x4_1 < (l0.length : Int) := of_decide_eq_true (by first | (with_reducible assumption) | assumption)
                obtain ⟨ad177, e177, hx177_0, hx177_1⟩ := at_T39 HR0.out x4_1 p177 q177
                obtain rfl : ad171 = ad177 := (by injection e177)
                replace hx177_0 := (HB.out.cell (World.block_lt_of_cell? w _ hx177_0)).trans hx177_0
                replace hx177_1 := (HB.out.cell (World.block_lt_of_cell? w _ hx177_1)).trans hx177_1
                replace p177 := eq_true p177
                replace q177 := eq_true q177
                have p178 : 0 ≤ ((ji21) : Int) := of_decide_eq_true (by first | (with_reducible assumption) | assumption)
                have q178 : (ji21) < (x3_1.length : Int) := of_decide_eq_true (by first | (with_reducible assumption) | assumption)
                obtain ⟨ad178, e178, hx178_0⟩ := Kd.at_bool (Kd.R_reads' HO_3.out).2.2 (ji21) p178 q178
                (try rw [← Nbq24.out] at hx178_0)
                cases e178
                replace p178 := eq_true p178
                replace q178 := eq_true q178
                go_wp2
                go_roundg kj3
                case measure => have := HK1.out; have := HJ3.out; omega
                case rel => exact ⟨(x3_1), (wrap64 (x4_1 + 1)), (by first | rfl | (simp; done) | (simp [*]; done)), H', ⟨by have := HK1.out; have := HJ3.out; omega⟩, ⟨by (with_reducible repeat (first | apply Kd.R_alloc | apply Kd.R_drewN | apply Kd.R_drew)); exact HO_3.out⟩, ⟨by repeat (first | (with_reducible first | exact HB.out | apply bal | apply pbN | apply bd1) | exact HB.out)⟩⟩
              ·rw [if_neg c23] at H
               exact absurd H (by simp)
             ·rw [if_neg c22] at H
              exact absurd H (by simp)
           ·rw [if_neg c19] at H
            have c19b0 : (((rd_T39 l0 x4_1).f0) == 19) = false := beq_eq_false_iff_ne.mpr c19
            have c19b1 : (((rd_T39 l0 x4_1).f0) != 19) = true := bne_iff_ne.mpr c19
            by_cases c26 : ((rd_T39 l0 x4_1).f0) = 14
            ·rw [if_pos c26] at H
             have c26b0 : (((rd_T39 l0 x4_1).f0) == 14) = true := beq_iff_eq.mpr c26
             have c26b1 : (((rd_T39 l0 x4_1).f0) != 14) = false := bne_eq_false_iff_eq.mpr c26
             clear c26
             by_cases c27 : (x3_1.length : Int) < 1
             ·rw [if_pos c27] at H
              have c27b0 : decide ((x3_1.length : Int) < 1) = true := decide_eq_true c27
              have c27b1 : decide (x3_1.length < 1) = true := decide_eq_true (by omega)
              clear c27
              obtain rfl := Option.some.inj H
              have p177 : 0 ≤ (x4_1 : Int) := of_decide_eq_true (by first | (with_reducible assumption) | assumption)
              have q177 : x4_1 < (l0.length : Int) := of_decide_eq_true (by first | (with_reducible assumption) | assumption)
              obtain ⟨ad177, e177, hx177_0, hx177_1⟩ := at_T39 HR0.out x4_1 p177 q177
              obtain rfl : ad171 = ad177 := (by injection e177)
              replace hx177_0 := (HB.out.cell (World.block_lt_of_cell? w _ hx177_0)).trans hx177_0
              replace hx177_1 := (HB.out.cell (World.block_lt_of_cell? w _ hx177_1)).trans hx177_1
              replace p177 := eq_true p177
              replace q177 := eq_true q177
              go_wp2
              go_ret
              exact ⟨by first | rfl | (simp [errW_none, errW_some] <;> rfl) | (simp [*, errW_none, errW_some] <;> rfl), by repeat (first | (with_reducible first | exact HB.out | apply bal | apply pbN | apply bd1) | exact HB.out)⟩
             ·rw [if_neg c27] at H
              have c27b0 : decide ((x3_1.length : Int) < 1) = false := decide_eq_false c27
              have c27b1 : decide (x3_1.length < 1) = false := decide_eq_false (by omega)
              clear c27
              obtain ⟨ji28, hji28⟩ : ∃ j_ : Int, (wrap64 ((x3_1.length : Int) - 1)) = j_ := ⟨_, rfl⟩
              replace H : (if 0 ≤ (ji28) then (if (ji28) < (x3_1.length : Int) then (if (rdOf false x3_1 (ji28) = true) then (remontoirref14_Good.l0 kj3 l0 x3_1 (wrap64 (x4_1 + 1))) else (some false)) else (none)) else (none)) = some r := by first | (rw [hji28] at H; exact H) | (simp only [hji28] at H ⊢; exact H)
              have hji28w : (IntKind.i64.wrap ((x3_1.length : Int) - 1)) = ji28 := (i64_w _).trans hji28
              by_cases c29 : 0 ≤ (ji28)
              ·rw [if_pos c29] at H
               have c29b0 : decide (0 ≤ (ji28)) = true := decide_eq_true c29
               clear c29
               by_cases c30 : (ji28) < (x3_1.length : Int)
               ·rw [if_pos c30] at H
                have c30b0 : decide ((ji28) < (x3_1.length : Int)) = true := decide_eq_true c30
                clear c30
                obtain ⟨bq31, hbq31⟩ : ∃ b_ : Bool, b_ = (rdOf false x3_1 (ji28)) := ⟨_, rfl⟩
                replace H : (if (bq31 = true) then (remontoirref14_Good.l0 kj3 l0 x3_1 (wrap64 (x4_1 + 1))) else (some false)) = some r := by rw [← hbq31] at H; exact H
                have Nbq31 := Aside0.mk hbq31
                clear hbq31
                by_cases c32 : (bq31 = true)
                ·subst c32
                 have H1 : (remontoirref14_Good.l0 kj3 l0 x3_1 (wrap64 (x4_1 + 1))) = some r := by rw [if_pos rfl] at H; exact H
                 clear H
                 have H := H1
                 clear H1
                 have H' := Aside0.mk H
                 clear H
                 have p177 : 0 ≤ (x4_1 : Int) := of_decide_eq_true (by first | (with_reducible assumption) | assumption)
                 have q177 : x4_1 < (l0.length : Int) := of_decide_eq_true (by first | (with_reducible assumption) | assumption)
                 obtain ⟨ad177, e177, hx177_0, hx177_1⟩ := at_T39 HR0.out x4_1 p177 q177
                 obtain rfl : ad171 = ad177 := (by injection e177)
                 replace hx177_0 := (HB.out.cell (World.block_lt_of_cell? w _ hx177_0)).trans hx177_0
                 replace hx177_1 := (HB.out.cell (World.block_lt_of_cell? w _ hx177_1)).trans hx177_1
                 replace p177 := eq_true p177
                 replace q177 := eq_true q177
                 have p179 : 0 ≤ ((ji28) : Int) := of_decide_eq_true (by first | (with_reducible assumption) | assumption)
                 have q179 : (ji28) < (x3_1.length : Int) := of_decide_eq_true (by first | (with_reducible assumption) | assumption)
                 obtain ⟨ad179, e179, hx179_0⟩ := Kd.at_bool (Kd.R_reads' HO_3.out).2.2 (ji28) p179 q179
                 (try rw [← Nbq31.out] at hx179_0)
                 cases e179
                 replace p179 := eq_true p179
                 replace q179 := eq_true q179
                 go_wp2
                 go_roundg kj3
                 case measure => have := HK1.out; have := HJ3.out; omega
                 case rel => exact ⟨(x3_1), (wrap64 (x4_1 + 1)), (by first | rfl | (simp; done) | (simp [*]; done)), H', ⟨by have := HK1.out; have := HJ3.out; omega⟩, ⟨by (with_reducible repeat (first | apply Kd.R_alloc | apply Kd.R_drewN | apply Kd.R_drew)); exact HO_3.out⟩, ⟨by repeat (first | (with_reducible first | exact HB.out | apply bal | apply pbN | apply bd1) | exact HB.out)⟩⟩
                ·replace c32 := Bool.eq_false_iff.mpr c32
                 subst c32
                 have H1 : (some false) = some r := by rw [if_neg (show ¬ (false = true) by decide)] at H; exact H
                 clear H
                 have H := H1
                 clear H1
                 obtain rfl := Option.some.inj H
                 have p177 : 0 ≤ (x4_1 : Int) := of_decide_eq_true (by first | (with_reducible assumption) | assumption)
                 have q177 : x4_1 < (l0.length : Int) := of_decide_eq_true (by first | (with_reducible assumption) | assumption)
                 obtain ⟨ad177, e177, hx177_0, hx177_1⟩ := at_T39 HR0.out x4_1 p177 q177
                 obtain rfl : ad171 = ad177 := (by injection e177)
                 replace hx177_0 := (HB.out.cell (World.block_lt_of_cell? w _ hx177_0)).trans hx177_0
                 replace hx177_1 := (HB.out.cell (World.block_lt_of_cell? w _ hx177_1)).trans hx177_1
                 replace p177 := eq_true p177
                 replace q177 := eq_true q177
                 have p179 : 0 ≤ ((ji28) : Int) := of_decide_eq_true (by first | (with_reducible assumption) | assumption)
                 have q179 : (ji28) < (x3_1.length : Int) := of_decide_eq_true (by first | (with_reducible assumption) | assumption)
                 obtain ⟨ad179, e179, hx179_0⟩ := Kd.at_bool (Kd.R_reads' HO_3.out).2.2 (ji28) p179 q179
                 (try rw [← Nbq31.out] at hx179_0)
                 cases e179
                 replace p179 := eq_true p179
                 replace q179 := eq_true q179
                 go_wp2
                 go_ret
                 exact ⟨by first | rfl | (simp [errW_none, errW_some] <;> rfl) | (simp only [← hji28]; first | rfl | (simp [errW_none, errW_some] <;> rfl)) | (simp [*, errW_none, errW_some] <;> rfl), by repeat (first | (with_reducible first | exact HB.out | apply bal | apply pbN | apply bd1) | exact HB.out)⟩
               ·rw [if_neg c30] at H
                exact absurd H (by simp)
              ·rw [if_neg c29] at H
               exact absurd H (by simp)
            ·rw [if_neg c26] at H
             have c26b0 : (((rd_T39 l0 x4_1).f0) == 14) = false := beq_eq_false_iff_ne.mpr c26
             have c26b1 : (((rd_T39 l0 x4_1).f0) != 14) = true := bne_iff_ne.mpr c26
             have HC33 := Aside0.mk H
             clear H
             have p177 : 0 ≤ (x4_1 : Int) := of_decide_eq_true (by first | (with_reducible assumption) | assumption)
             have q177 : x4_1 < (l0.length : Int) := of_decide_eq_true (by first | (with_reducible assumption) | assumption)
             obtain ⟨ad177, e177, hx177_0, hx177_1⟩ := at_T39 HR0.out x4_1 p177 q177
             obtain rfl : ad171 = ad177 := (by injection e177)
             replace hx177_0 := (HB.out.cell (World.block_lt_of_cell? w _ hx177_0)).trans hx177_0
             replace hx177_1 := (HB.out.cell (World.block_lt_of_cell? w _ hx177_1)).trans hx177_1
             replace p177 := eq_true p177
             replace q177 := eq_true q177
             go_upto_region 19 with (fail)
             go_cut [68] (fun v68 wc => ∃ (kq : Nat) (x68_32 : Bool), v68 = .bool x68_32 ∧ Aside0 (remontoirref14_Good.j2 kq l0 x3_1 x4_1 ((rd_T39 l0 x4_1).f0) (x3_1.length : Int) x68_32 = some r) ∧ Aside0 (kq ≤ kj3) ∧ Aside0 (Kd.R Kd.bool 4 wc w.heap.size (fun _ => True) (.slice Ao5 x3_1.length co5) x3_1) ∧ Aside0 (Below w.heap.size w wc))
             case first =>
              have H := HC33.out
              clear HC33
              by_cases c34 : ((rd_T39 l0 x4_1).f0) = 3
              ·rw [if_pos c34] at H
               have c34b0 : (((rd_T39 l0 x4_1).f0) == 3) = true := beq_iff_eq.mpr c34
               have c34b1 : (((rd_T39 l0 x4_1).f0) != 3) = false := bne_eq_false_iff_eq.mpr c34
               clear c34
               (first | rw [c34b0] | (simp only [i64_w, i32_w]; rw [c34b0]) | skip)
               have H' := Aside0.mk H
               clear H
               go_wp2
               go_meet
               case rel => exact ⟨_, (true), (by first | rfl | (simp; done) | (simp [*]; done)), H', ⟨by have := HK1.out; have := HJ3.out; first | omega | exact Nat.le_refl _⟩, ⟨by (with_reducible repeat (first | apply Kd.R_alloc | apply Kd.R_drewN | apply Kd.R_drew)); exact HO_3.out⟩, ⟨by repeat (first | (with_reducible first | exact HB.out | apply bal | apply pbN | apply bd1) | exact HB.out)⟩⟩
              ·rw [if_neg c34] at H
               have c34b0 : (((rd_T39 l0 x4_1).f0) == 3) = false := beq_eq_false_iff_ne.mpr c34
               have c34b1 : (((rd_T39 l0 x4_1).f0) != 3) = true := bne_iff_ne.mpr c34
               (first | rw [c34b0] | (simp only [i64_w, i32_w]; rw [c34b0]) | skip)
               by_cases c35 : ((rd_T39 l0 x4_1).f0) = 4
               ·rw [if_pos c35] at H
                have c35b0 : (((rd_T39 l0 x4_1).f0) == 4) = true := beq_iff_eq.mpr c35
                have c35b1 : (((rd_T39 l0 x4_1).f0) != 4) = false := bne_eq_false_iff_eq.mpr c35
                clear c35
                have H' := Aside0.mk H
                clear H
                go_wp2
                go_meet
                case rel => exact ⟨_, (true), (by first | rfl | (simp; done) | (simp [*]; done)), H', ⟨by have := HK1.out; have := HJ3.out; first | omega | exact Nat.le_refl _⟩, ⟨by (with_reducible repeat (first | apply Kd.R_alloc | apply Kd.R_drewN | apply Kd.R_drew)); exact HO_3.out⟩, ⟨by repeat (first | (with_reducible first | exact HB.out | apply bal | apply pbN | apply bd1) | exact HB.out)⟩⟩
               ·rw [if_neg c35] at H
                have c35b0 : (((rd_T39 l0 x4_1).f0) == 4) = false := beq_eq_false_iff_ne.mpr c35
                have c35b1 : (((rd_T39 l0 x4_1).f0) != 4) = true := bne_iff_ne.mpr c35
                have H' := Aside0.mk H
                clear H
                go_wp2
                go_meet
                case rel => exact ⟨_, ((((rd_T39 l0 x4_1).f0) == 5)), (by first | rfl | (simp; done) | (simp [*]; done)), H', ⟨by have := HK1.out; have := HJ3.out; first | omega | exact Nat.le_refl _⟩, ⟨by (with_reducible repeat (first | apply Kd.R_alloc | apply Kd.R_drewN | apply Kd.R_drew)); exact HO_3.out⟩, ⟨by repeat (first | (with_reducible first | exact HB.out | apply bal | apply pbN | apply bd1) | exact HB.out)⟩⟩
             case rest =>
              clear HC33
              try clear c1
              try clear p1
              try clear q1
              try clear hx1
              try clear c2
              try clear c2b0
              try clear p2
              try clear q2
              try clear c3
              try clear c3b0
              try clear q3
              try clear c6
              try clear c6b0
              try clear c6b1
              try clear p6
              try clear c7
              try clear c8
              try clear c8b0
              try clear c9
              try clear c9b0
              try clear c11
              try clear c12
              try clear c16
              try clear c16b0
              try clear c17
              try clear c17b0
              try clear p17
              try clear q17
              try clear hx17
              try clear c18
              try clear c18b0
              try clear c18b1
              try clear c19
              try clear c19b0
              try clear c19b1
              try clear c20
              try clear c20b0
              try clear c20b1
              try clear c22
              try clear c22b0
              try clear c23
              try clear c23b0
              try clear q24
              try clear c25
              try clear c26
              try clear c26b0
              try clear c26b1
              try clear c27
              try clear c27b0
              try clear c27b1
              try clear c29
              try clear c29b0
              try clear c30
              try clear c30b0
              try clear q31
              try clear c32
              try clear c34
              try clear c34b0
              try clear c34b1
              try clear c35
              try clear c35b0
              try clear c35b1
              try clear hx171_0
              try clear hx171_1
              try clear hx172_0
              try clear hx172_1
              try clear hx177_0
              try clear hx177_1
              try clear hx178_0
              try clear hx179_0
              try clear p1
              try clear p171
              try clear p172
              try clear p177
              try clear p178
              try clear p179
              try clear p2
              try clear q1
              try clear q171
              try clear q172
              try clear q177
              try clear q178
              try clear q179
              obtain ⟨kq, x68_32, rfl, HA, HJ32, HO_3, HB⟩ := hcut
              cases kq with
              | zero => exact absurd HA.out (by simp [remontoirref14_Good.j2])
              | succ kj32 =>
               have H := HA.out
               clear HA
               simp only [remontoirref14_Good.j2] at H
               by_cases c36 : x68_32 = true
               ·subst c36
                have H1 : (if (x3_1.length : Int) < 2 then (some false) else (if 0 ≤ (wrap64 ((x3_1.length : Int) - 1)) then (if (wrap64 ((x3_1.length : Int) - 1)) < (x3_1.length : Int) then (if rdOf false x3_1 (wrap64 ((x3_1.length : Int) - 1)) = true then (some false) else (if 0 ≤ (wrap64 ((x3_1.length : Int) - 2)) then (if (wrap64 ((x3_1.length : Int) - 2)) < (x3_1.length : Int) then (if rdOf false x3_1 (wrap64 ((x3_1.length : Int) - 2)) = true then (some false) else (if (wrap64 ((x3_1.length : Int) - 1)) ≤ (x3_1.length : Int) then (remontoirref14_Good.l0 kj32 l0 (x3_1.take ((wrap64 ((x3_1.length : Int) - 1)) : Int).toNat) (wrap64 (x4_1 + 1))) else (none))) else (none)) else (none))) else (none)) else (none))) = some r := by rw [if_pos rfl] at H; exact H
                clear H
                have H := H1
                clear H1
                by_cases c37 : (x3_1.length : Int) < 2
                ·rw [if_pos c37] at H
                 have c37b0 : decide ((x3_1.length : Int) < 2) = true := decide_eq_true c37
                 have c37b1 : decide (x3_1.length < 2) = true := decide_eq_true (by omega)
                 clear c37
                 obtain rfl := Option.some.inj H
                 go_wp2
                 go_ret
                 exact ⟨by first | rfl | (simp [errW_none, errW_some] <;> rfl) | (simp [*, errW_none, errW_some] <;> rfl), by repeat (first | (with_reducible first | exact HB.out | apply bal | apply pbN | apply bd1) | exact HB.out)⟩
                ·rw [if_neg c37] at H
                 have c37b0 : decide ((x3_1.length : Int) < 2) = false := decide_eq_false c37
                 have c37b1 : decide (x3_1.length < 2) = false := decide_eq_false (by omega)
                 clear c37
                 obtain ⟨ji38, hji38⟩ : ∃ j_ : Int, (wrap64 ((x3_1.length : Int) - 1)) = j_ := ⟨_, rfl⟩
                 replace H : (if 0 ≤ (ji38) then (if (ji38) < (x3_1.length : Int) then (if rdOf false x3_1 (ji38) = true then (some false) else (if 0 ≤ (wrap64 ((x3_1.length : Int) - 2)) then (if (wrap64 ((x3_1.length : Int) - 2)) < (x3_1.length : Int) then (if rdOf false x3_1 (wrap64 ((x3_1.length : Int) - 2)) = true then (some false) else (if (ji38) ≤ (x3_1.length : Int) then (remontoirref14_Good.l0 kj32 l0 (x3_1.take ((ji38) : Int).toNat) (wrap64 (x4_1 + 1))) else (none))) else (none)) else (none))) else (none)) else (none)) = some r := by first | (rw [hji38] at H; exact H) | (simp only [hji38] at H ⊢; exact H)
                 have hji38w : (IntKind.i64.wrap ((x3_1.length : Int) - 1)) = ji38 := (i64_w _).trans hji38
                 by_cases c39 : 0 ≤ (ji38)
                 ·rw [if_pos c39] at H
                  have c39b0 : decide (0 ≤ (ji38)) = true := decide_eq_true c39
                  clear c39
                  by_cases c40 : (ji38) < (x3_1.length : Int)
                  ·rw [if_pos c40] at H
                   have c40b0 : decide ((ji38) < (x3_1.length : Int)) = true := decide_eq_true c40
                   clear c40
                   obtain ⟨bq41, hbq41⟩ : ∃ b_ : Bool, b_ = (rdOf false x3_1 (ji38)) := ⟨_, rfl⟩
                   replace H : (if bq41 = true then (some false) else (if 0 ≤ (wrap64 ((x3_1.length : Int) - 2)) then (if (wrap64 ((x3_1.length : Int) - 2)) < (x3_1.length : Int) then (if rdOf false x3_1 (wrap64 ((x3_1.length : Int) - 2)) = true then (some false) else (if (ji38) ≤ (x3_1.length : Int) then (remontoirref14_Good.l0 kj32 l0 (x3_1.take ((ji38) : Int).toNat) (wrap64 (x4_1 + 1))) else (none))) else (none)) else (none))) = some r := by rw [← hbq41] at H; exact H
                   have Nbq41 := Aside0.mk hbq41
                   clear hbq41
                   by_cases c42 : bq41 = true
                   ·subst c42
                    have H1 : (some false) = some r := by rw [if_pos rfl] at H; exact H
                    clear H
                    have H := H1
                    clear H1
                    obtain rfl := Option.some.inj H
                    have p180 : 0 ≤ ((ji38) : Int) := of_decide_eq_true (by first | (with_reducible assumption) | assumption)
                    have q180 : (ji38) < (x3_1.length : Int) := of_decide_eq_true (by first | (with_reducible assumption) | assumption)
                    obtain ⟨ad180, e180, hx180_0⟩ := Kd.at_bool (Kd.R_reads' HO_3.out).2.2 (ji38) p180 q180
                    (try rw [← Nbq41.out] at hx180_0)
                    cases e180
                    replace p180 := eq_true p180
                    replace q180 := eq_true q180
                    go_wp2
                    go_ret
                    exact ⟨by first | rfl | (simp [errW_none, errW_some] <;> rfl) | (simp only [← hji38]; first | rfl | (simp [errW_none, errW_some] <;> rfl)) | (simp [*, errW_none, errW_some] <;> rfl), by repeat (first | (with_reducible first | exact HB.out | apply bal | apply pbN | apply bd1) | exact HB.out)⟩
                   ·replace c42 := Bool.eq_false_iff.mpr c42
                    subst c42
                    have H1 : (if 0 ≤ (wrap64 ((x3_1.length : Int) - 2)) then (if (wrap64 ((x3_1.length : Int) - 2)) < (x3_1.length : Int) then (if rdOf false x3_1 (wrap64 ((x3_1.length : Int) - 2)) = true then (some false) else (if (ji38) ≤ (x3_1.length : Int) then (remontoirref14_Good.l0 kj32 l0 (x3_1.take ((ji38) : Int).toNat) (wrap64 (x4_1 + 1))) else (none))) else (none)) else (none)) = some r := by rw [if_neg (show ¬ (false = true) by decide)] at H; exact H
                    clear H
                    have H := H1
                    clear H1
                    obtain ⟨ji43, hji43⟩ : ∃ j_ : Int, (wrap64 ((x3_1.length : Int) - 2)) = j_ := ⟨_, rfl⟩
                    replace H : (if 0 ≤ (ji43) then (if (ji43) < (x3_1.length : Int) then (if rdOf false x3_1 (ji43) = true then (some false) else (if (ji38) ≤ (x3_1.length : Int) then (remontoirref14_Good.l0 kj32 l0 (x3_1.take ((ji38) : Int).toNat) (wrap64 (x4_1 + 1))) else (none))) else (none)) else (none)) = some r := by first | (rw [hji43] at H; exact H) | (simp only [hji43] at H ⊢; exact H)
                    have hji43w : (IntKind.i64.wrap ((x3_1.length : Int) - 2)) = ji43 := (i64_w _).trans hji43
                    by_cases c44 : 0 ≤ (ji43)
                    ·rw [if_pos c44] at H
                     have c44b0 : decide (0 ≤ (ji43)) = true := decide_eq_true c44
                     clear c44
                     by_cases c45 : (ji43) < (x3_1.length : Int)
                     ·rw [if_pos c45] at H
                      have c45b0 : decide ((ji43) < (x3_1.length : Int)) = true := decide_eq_true c45
                      clear c45
                      obtain ⟨bq46, hbq46⟩ : ∃ b_ : Bool, b_ = (rdOf false x3_1 (ji43)) := ⟨_, rfl⟩
                      replace H : (if bq46 = true then (some false) else (if (ji38) ≤ (x3_1.length : Int) then (remontoirref14_Good.l0 kj32 l0 (x3_1.take ((ji38) : Int).toNat) (wrap64 (x4_1 + 1))) else (none))) = some r := by rw [← hbq46] at H; exact H
                      have Nbq46 := Aside0.mk hbq46
                      clear hbq46
                      by_cases c47 : bq46 = true
                      ·subst c47
                       have H1 : (some false) = some r := by rw [if_pos rfl] at H; exact H
                       clear H
                       have H := H1
                       clear H1
                       obtain rfl := Option.some.inj H
                       have p180 : 0 ≤ ((ji38) : Int) := of_decide_eq_true (by first | (with_reducible assumption) | assumption)
                       have q180 : (ji38) < (x3_1.length : Int) := of_decide_eq_true (by first | (with_reducible assumption) | assumption)
                       obtain ⟨ad180, e180, hx180_0⟩ := Kd.at_bool (Kd.R_reads' HO_3.out).2.2 (ji38) p180 q180
                       (try rw [← Nbq41.out] at hx180_0)
                       (try rw [← Nbq46.out] at hx180_0)
                       cases e180
                       replace p180 := eq_true p180
                       replace q180 := eq_true q180
                       have p181 : 0 ≤ ((ji43) : Int) := of_decide_eq_true (by first | (with_reducible assumption) | assumption)
                       have q181 : (ji43) < (x3_1.length : Int) := of_decide_eq_true (by first | (with_reducible assumption) | assumption)
                       obtain ⟨ad181, e181, hx181_0⟩ := Kd.at_bool (Kd.R_reads' HO_3.out).2.2 (ji43) p181 q181
                       (try rw [← Nbq41.out] at hx181_0)
                       (try rw [← Nbq46.out] at hx181_0)
                       obtain rfl : ad180 = ad181 := (by injection e181)
                       replace p181 := eq_true p181
                       replace q181 := eq_true q181
                       go_wp2
                       go_ret
                       exact ⟨by first | rfl | (simp [errW_none, errW_some] <;> rfl) | (simp only [← hji38, ← hji43]; first | rfl | (simp [errW_none, errW_some] <;> rfl)) | (simp [*, errW_none, errW_some] <;> rfl), by repeat (first | (with_reducible first | exact HB.out | apply bal | apply pbN | apply bd1) | exact HB.out)⟩
                      ·replace c47 := Bool.eq_false_iff.mpr c47
                       subst c47
                       have H1 : (if (ji38) ≤ (x3_1.length : Int) then (remontoirref14_Good.l0 kj32 l0 (x3_1.take ((ji38) : Int).toNat) (wrap64 (x4_1 + 1))) else (none)) = some r := by rw [if_neg (show ¬ (false = true) by decide)] at H; exact H
                       clear H
                       have H := H1
                       clear H1
                       by_cases c48 : (ji38) ≤ (x3_1.length : Int)
                       ·rw [if_pos c48] at H
                        have c48b0 := eq_true c48
                        have c48b1 : decide ((ji38) ≤ (x3_1.length : Int)) = true := decide_eq_true c48
                        clear c48
                        obtain ⟨y182, hy182⟩ : ∃ y_ : List Bool, y_ = (x3_1.take ((ji38) : Int).toNat) := ⟨_, rfl⟩
                        replace H : (remontoirref14_Good.l0 kj32 l0 y182 (wrap64 (x4_1 + 1))) = some r := by first | (rw [hy182]; with_reducible exact H) | (have H2_ := (Option.bind_some _ _).symm.trans H; rw [hy182]; with_reducible exact H2_) | (have H2_ := (Option.bind_some _ _).symm.trans H; with_reducible exact H2_) | with_reducible exact H | (rw [hy182]; exact H) | exact H
                        have Ny182 := Aside0.mk hy182
                        clear hy182
                        have H' := Aside0.mk H
                        clear H
                        have p180 : 0 ≤ ((ji38) : Int) := of_decide_eq_true (by first | (with_reducible assumption) | assumption)
                        have q180 : (ji38) < (x3_1.length : Int) := of_decide_eq_true (by first | (with_reducible assumption) | assumption)
                        obtain ⟨ad180, e180, hx180_0⟩ := Kd.at_bool (Kd.R_reads' HO_3.out).2.2 (ji38) p180 q180
                        (try rw [← Nbq41.out] at hx180_0)
                        (try rw [← Nbq46.out] at hx180_0)
                        cases e180
                        replace p180 := eq_true p180
                        replace q180 := eq_true q180
                        have p181 : 0 ≤ ((ji43) : Int) := of_decide_eq_true (by first | (with_reducible assumption) | assumption)
                        have q181 : (ji43) < (x3_1.length : Int) := of_decide_eq_true (by first | (with_reducible assumption) | assumption)
                        obtain ⟨ad181, e181, hx181_0⟩ := Kd.at_bool (Kd.R_reads' HO_3.out).2.2 (ji43) p181 q181
                        (try rw [← Nbq41.out] at hx181_0)
                        (try rw [← Nbq46.out] at hx181_0)
                        obtain rfl : ad180 = ad181 := (by injection e181)
                        replace p181 := eq_true p181
                        replace q181 := eq_true q181
                        have q49 : ((ji38) : Int) ≤ ((x3_1.length : Int) : Int) := of_decide_eq_true (by first | (with_reducible assumption) | assumption)
                        obtain ⟨i049, hi049, _, hsz49, _⟩ := info_parts info4
                        have hcut49 := cut_to (P := Tryz.prog) 57 4 .i64 Tryz.underlying57 hi049 (some ad180) x3_1.length co5 (ji38) (of_decide_eq_true (by first | (with_reducible assumption) | assumption)) q49 (Kd.R_reads' HO_3.out).2.1
                        have hr49 := Kd.R_take (m := ((ji38) : Int).toNat) HO_3.out (by omega)
                        have hy49 : y182.length = ((ji38) : Int).toNat := (by rw [Ny182.out, List.length_take]; omega)
                        rw [← Ny182.out] at hr49
                        rw [← hy49] at hr49 hcut49
                        clear hy49 hi049 hsz49 HO_3
                        have HO184 := Aside0.mk hr49
                        clear hr49
                        replace q49 := eq_true q49
                        go_wp2
                        go_roundg kj32
                        case measure => have := HK1.out; have := HJ3.out; have := HJ32.out; omega
                        case rel => exact ⟨(y182), (wrap64 (x4_1 + 1)), (by first | rfl | (simp; done) | (simp [*]; done)), H', ⟨by have := HK1.out; have := HJ3.out; have := HJ32.out; omega⟩, ⟨by (with_reducible repeat (first | apply Kd.R_alloc | apply Kd.R_drewN | apply Kd.R_drew)); exact HO184.out⟩, ⟨by repeat (first | (with_reducible first | exact HB.out | apply bal | apply pbN | apply bd1) | exact HB.out)⟩⟩
                       ·rw [if_neg c48] at H
                        exact absurd H (by simp)
                     ·rw [if_neg c45] at H
                      exact absurd H (by simp)
                    ·rw [if_neg c44] at H
                     exact absurd H (by simp)
                  ·rw [if_neg c40] at H
                   exact absurd H (by simp)
                 ·rw [if_neg c39] at H
                  exact absurd H (by simp)
               ·replace c36 := Bool.eq_false_iff.mpr c36
                subst c36
                have H1 : (if ((rd_T39 l0 x4_1).f0) ≥ 6 then (remontoirref14_Good.j3 kj32 l0 x3_1 x4_1 ((rd_T39 l0 x4_1).f0) (x3_1.length : Int) (decide (((rd_T39 l0 x4_1).f0) ≤ 11))) else (remontoirref14_Good.j3 kj32 l0 x3_1 x4_1 ((rd_T39 l0 x4_1).f0) (x3_1.length : Int) false)) = some r := by rw [if_neg (show ¬ (false = true) by decide)] at H; exact H
                clear H
                have H := H1
                clear H1
                have HC50 := Aside0.mk H
                clear H
                go_upto_region 23 with (fail)
                go_cut [99] (fun v99 wc => ∃ (kq : Nat) (x99_49 : Bool), v99 = .bool x99_49 ∧ Aside0 (remontoirref14_Good.j3 kq l0 x3_1 x4_1 ((rd_T39 l0 x4_1).f0) (x3_1.length : Int) x99_49 = some r) ∧ Aside0 (kq ≤ kj32) ∧ Aside0 (Kd.R Kd.bool 4 wc w.heap.size (fun _ => True) (.slice Ao5 x3_1.length co5) x3_1) ∧ Aside0 (Below w.heap.size w wc))
                case first =>
                 have H := HC50.out
                 clear HC50
                 by_cases c51 : ((rd_T39 l0 x4_1).f0) ≥ 6
                 ·rw [if_pos c51] at H
                  have c51b0 : decide (6 ≤ ((rd_T39 l0 x4_1).f0)) = true := decide_eq_true c51
                  clear c51
                  (first | rw [c51b0] | (simp only [i64_w, i32_w]; rw [c51b0]) | skip)
                  have H' := Aside0.mk H
                  clear H
                  go_wp2
                  go_meet
                  case rel => exact ⟨_, (decide (((rd_T39 l0 x4_1).f0) ≤ 11)), (by first | rfl | (simp; done) | (simp [*]; done)), H', ⟨by have := HK1.out; have := HJ3.out; have := HJ32.out; first | omega | exact Nat.le_refl _⟩, ⟨by (with_reducible repeat (first | apply Kd.R_alloc | apply Kd.R_drewN | apply Kd.R_drew)); exact HO_3.out⟩, ⟨by repeat (first | (with_reducible first | exact HB.out | apply bal | apply pbN | apply bd1) | exact HB.out)⟩⟩
                 ·rw [if_neg c51] at H
                  have c51b0 : decide (6 ≤ ((rd_T39 l0 x4_1).f0)) = false := decide_eq_false c51
                  clear c51
                  (first | rw [c51b0] | (simp only [i64_w, i32_w]; rw [c51b0]) | skip)
                  have H' := Aside0.mk H
                  clear H
                  go_wp2
                  go_meet
                  case rel => exact ⟨_, (false), (by first | rfl | (simp; done) | (simp [*]; done)), H', ⟨by have := HK1.out; have := HJ3.out; have := HJ32.out; first | omega | exact Nat.le_refl _⟩, ⟨by (with_reducible repeat (first | apply Kd.R_alloc | apply Kd.R_drewN | apply Kd.R_drew)); exact HO_3.out⟩, ⟨by repeat (first | (with_reducible first | exact HB.out | apply bal | apply pbN | apply bd1) | exact HB.out)⟩⟩
                case rest =>
                 clear HC50
                 try clear c1
                 try clear p1
                 try clear q1
                 try clear hx1
                 try clear c2
                 try clear c2b0
                 try clear p2
                 try clear q2
                 try clear c3
                 try clear c3b0
                 try clear q3
                 try clear c4
                 try clear q4
                 try clear c5
                 try clear c6
                 try clear c6b0
                 try clear c6b1
                 try clear p6
                 try clear c7
                 try clear c8
                 try clear c8b0
                 try clear c9
                 try clear c9b0
                 try clear c11
                 try clear c12
                 try clear c16
                 try clear c16b0
                 try clear c17
                 try clear c17b0
                 try clear p17
                 try clear q17
                 try clear hx17
                 try clear c18
                 try clear c18b0
                 try clear c18b1
                 try clear p18
                 try clear q18
                 try clear hx18
                 try clear c19
                 try clear c19b0
                 try clear c19b1
                 try clear c20
                 try clear c20b0
                 try clear c20b1
                 try clear c22
                 try clear c22b0
                 try clear c23
                 try clear c23b0
                 try clear q24
                 try clear c25
                 try clear c26
                 try clear c26b0
                 try clear c26b1
                 try clear c27
                 try clear c27b0
                 try clear c27b1
                 try clear c29
                 try clear c29b0
                 try clear c30
                 try clear c30b0
                 try clear q31
                 try clear c32
                 try clear c34
                 try clear c34b0
                 try clear c34b1
                 try clear c35
                 try clear c35b0
                 try clear c35b1
                 try clear c36
                 try clear c37
                 try clear c37b0
                 try clear c37b1
                 try clear c39
                 try clear c39b0
                 try clear c40
                 try clear c40b0
                 try clear q41
                 try clear c42
                 try clear c44
                 try clear c44b0
                 try clear c45
                 try clear c45b0
                 try clear q46
                 try clear c47
                 try clear c48
                 try clear c48b0
                 try clear c48b1
                 try clear q49
                 try clear c51
                 try clear c51b0
                 try clear hx171_0
                 try clear hx171_1
                 try clear hx172_0
                 try clear hx172_1
                 try clear hx177_0
                 try clear hx177_1
                 try clear hx178_0
                 try clear hx179_0
                 try clear hx180_0
                 try clear hx181_0
                 try clear p1
                 try clear p17
                 try clear p171
                 try clear p172
                 try clear p177
                 try clear p178
                 try clear p179
                 try clear p180
                 try clear p181
                 try clear p2
                 try clear p6
                 try clear q1
                 try clear q17
                 try clear q171
                 try clear q172
                 try clear q177
                 try clear q178
                 try clear q179
                 try clear q180
                 try clear q181
                 try clear q2
                 try clear q24
                 try clear q3
                 try clear q31
                 try clear q49
                 obtain ⟨kq, x99_49, rfl, HA, HJ49, HO_3, HB⟩ := hcut
                 cases kq with
                 | zero => exact absurd HA.out (by simp [remontoirref14_Good.j3])
                 | succ kj49 =>
                  have H := HA.out
                  clear HA
                  simp only [remontoirref14_Good.j3] at H
                  by_cases c52 : x99_49 = true
                  ·subst c52
                   have H1 : (if (x3_1.length : Int) < 2 then (some false) else (if 0 ≤ (wrap64 ((x3_1.length : Int) - 1)) then (if (wrap64 ((x3_1.length : Int) - 1)) < (x3_1.length : Int) then (if rdOf false x3_1 (wrap64 ((x3_1.length : Int) - 1)) = true then (some false) else (if 0 ≤ (wrap64 ((x3_1.length : Int) - 2)) then (if (wrap64 ((x3_1.length : Int) - 2)) < (x3_1.length : Int) then (if rdOf false x3_1 (wrap64 ((x3_1.length : Int) - 2)) = true then (some false) else (if (wrap64 ((x3_1.length : Int) - 2)) ≤ (x3_1.length : Int) then ((some (x3_1.take ((wrap64 ((x3_1.length : Int) - 2)) : Int).toNat : List Bool)).bind fun y187 => (if y187.length < 140737488355328 then (remontoirref14_Good.l0 kj49 l0 (y187 ++ [true]) (wrap64 (x4_1 + 1))) else (none))) else (none))) else (none)) else (none))) else (none)) else (none))) = some r := by rw [if_pos rfl] at H; exact H
                   clear H
                   have H := H1
                   clear H1
                   by_cases c53 : (x3_1.length : Int) < 2
                   ·rw [if_pos c53] at H
                    have c53b0 : decide ((x3_1.length : Int) < 2) = true := decide_eq_true c53
                    have c53b1 : decide (x3_1.length < 2) = true := decide_eq_true (by omega)
                    clear c53
                    obtain rfl := Option.some.inj H
                    go_wp2
                    go_ret
                    exact ⟨by first | rfl | (simp [errW_none, errW_some] <;> rfl) | (simp [*, errW_none, errW_some] <;> rfl), by repeat (first | (with_reducible first | exact HB.out | apply bal | apply pbN | apply bd1) | exact HB.out)⟩
                   ·rw [if_neg c53] at H
                    have c53b0 : decide ((x3_1.length : Int) < 2) = false := decide_eq_false c53
                    have c53b1 : decide (x3_1.length < 2) = false := decide_eq_false (by omega)
                    clear c53
                    obtain ⟨ji54, hji54⟩ : ∃ j_ : Int, (wrap64 ((x3_1.length : Int) - 1)) = j_ := ⟨_, rfl⟩
                    replace H : (if 0 ≤ (ji54) then (if (ji54) < (x3_1.length : Int) then (if rdOf false x3_1 (ji54) = true then (some false) else (if 0 ≤ (wrap64 ((x3_1.length : Int) - 2)) then (if (wrap64 ((x3_1.length : Int) - 2)) < (x3_1.length : Int) then (if rdOf false x3_1 (wrap64 ((x3_1.length : Int) - 2)) = true then (some false) else (if (wrap64 ((x3_1.length : Int) - 2)) ≤ (x3_1.length : Int) then ((some (x3_1.take ((wrap64 ((x3_1.length : Int) - 2)) : Int).toNat : List Bool)).bind fun y187 => (if y187.length < 140737488355328 then (remontoirref14_Good.l0 kj49 l0 (y187 ++ [true]) (wrap64 (x4_1 + 1))) else (none))) else (none))) else (none)) else (none))) else (none)) else (none)) = some r := by first | (rw [hji54] at H; exact H) | (simp only [hji54] at H ⊢; exact H)
                    have hji54w : (IntKind.i64.wrap ((x3_1.length : Int) - 1)) = ji54 := (i64_w _).trans hji54
                    by_cases c55 : 0 ≤ (ji54)
                    ·rw [if_pos c55] at H
                     have c55b0 : decide (0 ≤ (ji54)) = true := decide_eq_true c55
                     clear c55
                     by_cases c56 : (ji54) < (x3_1.length : Int)
                     ·rw [if_pos c56] at H
                      have c56b0 : decide ((ji54) < (x3_1.length : Int)) = true := decide_eq_true c56
                      clear c56
                      obtain ⟨bq57, hbq57⟩ : ∃ b_ : Bool, b_ = (rdOf false x3_1 (ji54)) := ⟨_, rfl⟩
                      replace H : (if bq57 = true then (some false) else (if 0 ≤ (wrap64 ((x3_1.length : Int) - 2)) then (if (wrap64 ((x3_1.length : Int) - 2)) < (x3_1.length : Int) then (if rdOf false x3_1 (wrap64 ((x3_1.length : Int) - 2)) = true then (some false) else (if (wrap64 ((x3_1.length : Int) - 2)) ≤ (x3_1.length : Int) then ((some (x3_1.take ((wrap64 ((x3_1.length : Int) - 2)) : Int).toNat : List Bool)).bind fun y187 => (if y187.length < 140737488355328 then (remontoirref14_Good.l0 kj49 l0 (y187 ++ [true]) (wrap64 (x4_1 + 1))) else (none))) else (none))) else (none)) else (none))) = some r := by rw [← hbq57] at H; exact H
                      have Nbq57 := Aside0.mk hbq57
                      clear hbq57
                      by_cases c58 : bq57 = true
                      ·subst c58
                       have H1 : (some false) = some r := by rw [if_pos rfl] at H; exact H
                       clear H
                       have H := H1
                       clear H1
                       obtain rfl := Option.some.inj H
                       have p185 : 0 ≤ ((ji54) : Int) := of_decide_eq_true (by first | (with_reducible assumption) | assumption)
                       have q185 : (ji54) < (x3_1.length : Int) := of_decide_eq_true (by first | (with_reducible assumption) | assumption)
                       obtain ⟨ad185, e185, hx185_0⟩ := Kd.at_bool (Kd.R_reads' HO_3.out).2.2 (ji54) p185 q185
                       (try rw [← Nbq57.out] at hx185_0)
                       cases e185
                       replace p185 := eq_true p185
                       replace q185 := eq_true q185
                       go_wp2
                       go_ret
                       exact ⟨by first | rfl | (simp [errW_none, errW_some] <;> rfl) | (simp only [← hji54]; first | rfl | (simp [errW_none, errW_some] <;> rfl)) | (simp [*, errW_none, errW_some] <;> rfl), by repeat (first | (with_reducible first | exact HB.out | apply bal | apply pbN | apply bd1) | exact HB.out)⟩
                      ·replace c58 := Bool.eq_false_iff.mpr c58
                       subst c58
                       have H1 : (if 0 ≤ (wrap64 ((x3_1.length : Int) - 2)) then (if (wrap64 ((x3_1.length : Int) - 2)) < (x3_1.length : Int) then (if rdOf false x3_1 (wrap64 ((x3_1.length : Int) - 2)) = true then (some false) else (if (wrap64 ((x3_1.length : Int) - 2)) ≤ (x3_1.length : Int) then ((some (x3_1.take ((wrap64 ((x3_1.length : Int) - 2)) : Int).toNat : List Bool)).bind fun y187 => (if y187.length < 140737488355328 then (remontoirref14_Good.l0 kj49 l0 (y187 ++ [true]) (wrap64 (x4_1 + 1))) else (none))) else (none))) else (none)) else (none)) = some r := by rw [if_neg (show ¬ (false = true) by decide)] at H; exact H
                       clear H
                       have H := H1
                       clear H1
                       obtain ⟨ji59, hji59⟩ : ∃ j_ : Int, (wrap64 ((x3_1.length : Int) - 2)) = j_ := ⟨_, rfl⟩
                       replace H : (if 0 ≤ (ji59) then (if (ji59) < (x3_1.length : Int) then (if rdOf false x3_1 (ji59) = true then (some false) else (if (ji59) ≤ (x3_1.length : Int) then ((some (x3_1.take ((ji59) : Int).toNat : List Bool)).bind fun y187 => (if y187.length < 140737488355328 then (remontoirref14_Good.l0 kj49 l0 (y187 ++ [true]) (wrap64 (x4_1 + 1))) else (none))) else (none))) else (none)) else (none)) = some r := by first | (rw [hji59] at H; exact H) | (simp only [hji59] at H ⊢; exact H)
                       have hji59w : (IntKind.i64.wrap ((x3_1.length : Int) - 2)) = ji59 := (i64_w _).trans hji59
                       by_cases c60 : 0 ≤ (ji59)
                       ·rw [if_pos c60] at H
                        have c60b0 : decide (0 ≤ (ji59)) = true := decide_eq_true c60
                        clear c60
                        by_cases c61 : (ji59) < (x3_1.length : Int)
                        ·rw [if_pos c61] at H
                         have c61b0 : decide ((ji59) < (x3_1.length : Int)) = true := decide_eq_true c61
                         clear c61
                         obtain ⟨bq62, hbq62⟩ : ∃ b_ : Bool, b_ = (rdOf false x3_1 (ji59)) := ⟨_, rfl⟩
                         replace H : (if bq62 = true then (some false) else (if (ji59) ≤ (x3_1.length : Int) then ((some (x3_1.take ((ji59) : Int).toNat : List Bool)).bind fun y187 => (if y187.length < 140737488355328 then (remontoirref14_Good.l0 kj49 l0 (y187 ++ [true]) (wrap64 (x4_1 + 1))) else (none))) else (none))) = some r := by rw [← hbq62] at H; exact H
                         have Nbq62 := Aside0.mk hbq62
                         clear hbq62
                         by_cases c63 : bq62 = true
                         ·subst c63
                          have H1 : (some false) = some r := by rw [if_pos rfl] at H; exact H
                          clear H
                          have H := H1
                          clear H1
                          obtain rfl := Option.some.inj H
                          have p185 : 0 ≤ ((ji54) : Int) := of_decide_eq_true (by first | (with_reducible assumption) | assumption)
                          have q185 : (ji54) < (x3_1.length : Int) := of_decide_eq_true (by first | (with_reducible assumption) | assumption)
                          obtain ⟨ad185, e185, hx185_0⟩ := Kd.at_bool (Kd.R_reads' HO_3.out).2.2 (ji54) p185 q185
                          (try rw [← Nbq57.out] at hx185_0)
                          (try rw [← Nbq62.out] at hx185_0)
                          cases e185
                          replace p185 := eq_true p185
                          replace q185 := eq_true q185
                          have p186 : 0 ≤ ((ji59) : Int) := of_decide_eq_true (by first | (with_reducible assumption) | assumption)
                          have q186 : (ji59) < (x3_1.length : Int) := of_decide_eq_true (by first | (with_reducible assumption) | assumption)
                          obtain ⟨ad186, e186, hx186_0⟩ := Kd.at_bool (Kd.R_reads' HO_3.out).2.2 (ji59) p186 q186
                          (try rw [← Nbq57.out] at hx186_0)
                          (try rw [← Nbq62.out] at hx186_0)
                          obtain rfl : ad185 = ad186 := (by injection e186)
                          replace p186 := eq_true p186
                          replace q186 := eq_true q186
                          go_wp2
                          go_ret
                          exact ⟨by first | rfl | (simp [errW_none, errW_some] <;> rfl) | (simp only [← hji54, ← hji59]; first | rfl | (simp [errW_none, errW_some] <;> rfl)) | (simp [*, errW_none, errW_some] <;> rfl), by repeat (first | (with_reducible first | exact HB.out | apply bal | apply pbN | apply bd1) | exact HB.out)⟩
                         ·replace c63 := Bool.eq_false_iff.mpr c63
                          subst c63
                          have H1 : (if (ji59) ≤ (x3_1.length : Int) then ((some (x3_1.take ((ji59) : Int).toNat : List Bool)).bind fun y187 => (if y187.length < 140737488355328 then (remontoirref14_Good.l0 kj49 l0 (y187 ++ [true]) (wrap64 (x4_1 + 1))) else (none))) else (none)) = some r := by rw [if_neg (show ¬ (false = true) by decide)] at H; exact H
                          clear H
                          have H := H1
                          clear H1
                          by_cases c64 : (ji59) ≤ (x3_1.length : Int)
                          ·rw [if_pos c64] at H
                           have c64b0 := eq_true c64
                           have c64b1 : decide ((ji59) ≤ (x3_1.length : Int)) = true := decide_eq_true c64
                           clear c64
                           obtain ⟨y187, hy187⟩ : ∃ y_ : List Bool, y_ = (x3_1.take ((ji59) : Int).toNat) := ⟨_, rfl⟩
                           replace H : (if y187.length < 140737488355328 then (remontoirref14_Good.l0 kj49 l0 (y187 ++ [true]) (wrap64 (x4_1 + 1))) else (none)) = some r := by first | (rw [hy187]; with_reducible exact H) | (have H2_ := (Option.bind_some _ _).symm.trans H; rw [hy187]; with_reducible exact H2_) | (have H2_ := (Option.bind_some _ _).symm.trans H; with_reducible exact H2_) | with_reducible exact H | (rw [hy187]; exact H) | exact H
                           have Ny187 := Aside0.mk hy187
                           clear hy187
                           by_cases c65 : y187.length < 140737488355328
                           ·rw [if_pos c65] at H
                            have LMc65 := Aside0.mk c65
                            clear c65
                            obtain ⟨y190, hy190⟩ : ∃ y_ : List Bool, y_ = (y187 ++ [true]) := ⟨_, rfl⟩
                            replace H : (remontoirref14_Good.l0 kj49 l0 y190 (wrap64 (x4_1 + 1))) = some r := by first | (rw [hy190]; with_reducible exact H) | (have H2_ := (Option.bind_some _ _).symm.trans H; rw [hy190]; with_reducible exact H2_) | (have H2_ := (Option.bind_some _ _).symm.trans H; with_reducible exact H2_) | with_reducible exact H | (rw [hy190]; exact H) | exact H
                            have Ny190 := Aside0.mk hy190
                            clear hy190
                            have H' := Aside0.mk H
                            clear H
                            have p185 : 0 ≤ ((ji54) : Int) := of_decide_eq_true (by first | (with_reducible assumption) | assumption)
                            have q185 : (ji54) < (x3_1.length : Int) := of_decide_eq_true (by first | (with_reducible assumption) | assumption)
                            obtain ⟨ad185, e185, hx185_0⟩ := Kd.at_bool (Kd.R_reads' HO_3.out).2.2 (ji54) p185 q185
                            (try rw [← Nbq57.out] at hx185_0)
                            (try rw [← Nbq62.out] at hx185_0)
                            cases e185
                            replace p185 := eq_true p185
                            replace q185 := eq_true q185
                            have p186 : 0 ≤ ((ji59) : Int) := of_decide_eq_true (by first | (with_reducible assumption) | assumption)
                            have q186 : (ji59) < (x3_1.length : Int) := of_decide_eq_true (by first | (with_reducible assumption) | assumption)
                            obtain ⟨ad186, e186, hx186_0⟩ := Kd.at_bool (Kd.R_reads' HO_3.out).2.2 (ji59) p186 q186
                            (try rw [← Nbq57.out] at hx186_0)
                            (try rw [← Nbq62.out] at hx186_0)
                            obtain rfl : ad185 = ad186 := (by injection e186)
                            replace p186 := eq_true p186
                            replace q186 := eq_true q186
                            have q66 : ((ji59) : Int) ≤ ((x3_1.length : Int) : Int) := of_decide_eq_true (by first | (with_reducible assumption) | assumption)
                            obtain ⟨i066, hi066, _, hsz66, _⟩ := info_parts info4
                            have hcut66 := cut_to (P := Tryz.prog) 57 4 .i64 Tryz.underlying57 hi066 (some ad185) x3_1.length co5 (ji59) (of_decide_eq_true (by first | (with_reducible assumption) | assumption)) q66 (Kd.R_reads' HO_3.out).2.1
                            have hr66 := Kd.R_take (m := ((ji59) : Int).toNat) HO_3.out (by omega)
                            have hy66 : y187.length = ((ji59) : Int).toNat := (by rw [Ny187.out, List.length_take]; omega)
                            rw [← Ny187.out] at hr66
                            rw [← hy66] at hr66 hcut66
                            clear hy66 hi066 hsz66 HO_3
                            have HO189 := Aside0.mk hr66
                            clear hr66
                            replace q66 := eq_true q66
                            go_wp2_with (first | ((with_reducible refine gate_builtin (b := .append) (xs := #[.tmp 125, .tmp 126]) rfl ?_); at_builtin; refine Kd.R_append Kd.bool (w0 := w) w.heap.size rfl (.tmp 125) (.tmp 126) 57 4 (.bool false) 1 rfl Tryz.underlying57 info4 rfl (by decide) (by omega) (.slice (some ad185) y187.length co5) y187 true [.bool true] (fun _ => True) (fun _ => False) rfl rfl ?aP (fun _ hk => hk.elim) ?aF ?aO ?aB ?aS ?aL ?_; (case aP => exact rfl); (case aB => exact (by repeat (first | (with_reducible first | exact HB.out | apply bal | apply pbN | apply bd1) | exact HB.out))); (case aF => exact (fun _ _ => trivial)); (case aO => exact (by (with_reducible repeat (first | apply Kd.R_alloc | apply Kd.R_drewN | apply Kd.R_drew)); exact HO189.out)); (case aS => exact (bsz (by repeat (first | (with_reducible first | exact HB.out | apply bal | apply pbN | apply bd1) | exact HB.out)))); (case aL => have := LMc65.out; omega); intro v191 w67 ho hb hg hat; rw [← Ny190.out] at ho; have n0_ := Aside0.mk (hb); have n1_ := Aside0.mk (ho); clear HB; clear HO189; have HB := n0_; have HO192 := n1_; clear n0_ n1_; clear ho hb hg hat))
                            go_roundg kj49
                            case measure => have := HK1.out; have := HJ3.out; have := HJ32.out; have := HJ49.out; omega
                            case rel => exact ⟨(y190), (wrap64 (x4_1 + 1)), (by first | rfl | (simp; done) | (simp [*]; done)), H', ⟨by have := HK1.out; have := HJ3.out; have := HJ32.out; have := HJ49.out; omega⟩, ⟨by (with_reducible repeat (first | apply Kd.R_alloc | apply Kd.R_drewN | apply Kd.R_drew)); exact HO192.out⟩, ⟨by repeat (first | (with_reducible first | exact HB.out | apply bal | apply pbN | apply bd1) | exact HB.out)⟩⟩
                           ·rw [if_neg c65] at H
                            exact absurd H (by simp)
                          ·rw [if_neg c64] at H
                           exact absurd H (by simp)
                        ·rw [if_neg c61] at H
                         exact absurd H (by simp)
                       ·rw [if_neg c60] at H
                        exact absurd H (by simp)
                     ·rw [if_neg c56] at H
                      exact absurd H (by simp)
                    ·rw [if_neg c55] at H
                     exact absurd H (by simp)
                  ·replace c52 := Bool.eq_false_iff.mpr c52
                   subst c52
                   have H1 : (if ((rd_T39 l0 x4_1).f0) = 12 then (remontoirref14_Good.j4 kj49 l0 x3_1 x4_1 (x3_1.length : Int) true) else (remontoirref14_Good.j4 kj49 l0 x3_1 x4_1 (x3_1.length : Int) (((rd_T39 l0 x4_1).f0) == 13))) = some r := by rw [if_neg (show ¬ (false = true) by decide)] at H; exact H
                   clear H
                   have H := H1
                   clear H1
                   have HC68 := Aside0.mk H
                   clear H
                   go_upto_region 27 with (fail)
                   go_cut [128] (fun v128 wc => ∃ (kq : Nat) (x128_67 : Bool), v128 = .bool x128_67 ∧ Aside0 (remontoirref14_Good.j4 kq l0 x3_1 x4_1 (x3_1.length : Int) x128_67 = some r) ∧ Aside0 (kq ≤ kj49) ∧ Aside0 (Kd.R Kd.bool 4 wc w.heap.size (fun _ => True) (.slice Ao5 x3_1.length co5) x3_1) ∧ Aside0 (Below w.heap.size w wc))
                   case first =>
                    have H := HC68.out
                    clear HC68
                    by_cases c69 : ((rd_T39 l0 x4_1).f0) = 12
                    ·rw [if_pos c69] at H
                     have c69b0 : (((rd_T39 l0 x4_1).f0) == 12) = true := beq_iff_eq.mpr c69
                     have c69b1 : (((rd_T39 l0 x4_1).f0) != 12) = false := bne_eq_false_iff_eq.mpr c69
                     clear c69
                     (first | rw [c69b0] | (simp only [i64_w, i32_w]; rw [c69b0]) | skip)
                     have H' := Aside0.mk H
                     clear H
                     go_wp2
                     go_meet
                     case rel => exact ⟨_, (true), (by first | rfl | (simp; done) | (simp [*]; done)), H', ⟨by have := HK1.out; have := HJ3.out; have := HJ32.out; have := HJ49.out; first | omega | exact Nat.le_refl _⟩, ⟨by (with_reducible repeat (first | apply Kd.R_alloc | apply Kd.R_drewN | apply Kd.R_drew)); exact HO_3.out⟩, ⟨by repeat (first | (with_reducible first | exact HB.out | apply bal | apply pbN | apply bd1) | exact HB.out)⟩⟩
                    ·rw [if_neg c69] at H
                     have c69b0 : (((rd_T39 l0 x4_1).f0) == 12) = false := beq_eq_false_iff_ne.mpr c69
                     have c69b1 : (((rd_T39 l0 x4_1).f0) != 12) = true := bne_iff_ne.mpr c69
                     (first | rw [c69b0] | (simp only [i64_w, i32_w]; rw [c69b0]) | skip)
                     have H' := Aside0.mk H
                     clear H
                     go_wp2
                     go_meet
                     case rel => exact ⟨_, ((((rd_T39 l0 x4_1).f0) == 13)), (by first | rfl | (simp; done) | (simp [*]; done)), H', ⟨by have := HK1.out; have := HJ3.out; have := HJ32.out; have := HJ49.out; first | omega | exact Nat.le_refl _⟩, ⟨by (with_reducible repeat (first | apply Kd.R_alloc | apply Kd.R_drewN | apply Kd.R_drew)); exact HO_3.out⟩, ⟨by repeat (first | (with_reducible first | exact HB.out | apply bal | apply pbN | apply bd1) | exact HB.out)⟩⟩
                   case rest =>
                    clear HC68
                    try clear c1
                    try clear p1
                    try clear q1
                    try clear hx1
                    try clear c2
                    try clear c2b0
                    try clear p2
                    try clear q2
                    try clear c3
                    try clear c3b0
                    try clear q3
                    try clear c4
                    try clear q4
                    try clear c5
                    try clear q5
                    try clear c6
                    try clear c6b0
                    try clear c6b1
                    try clear p6
                    try clear q6
                    try clear c7
                    try clear c8
                    try clear c8b0
                    try clear c9
                    try clear c9b0
                    try clear c11
                    try clear c12
                    try clear c16
                    try clear c16b0
                    try clear c17
                    try clear c17b0
                    try clear p17
                    try clear q17
                    try clear hx17
                    try clear c18
                    try clear c18b0
                    try clear c18b1
                    try clear p18
                    try clear q18
                    try clear hx18
                    try clear c19
                    try clear c19b0
                    try clear c19b1
                    try clear c20
                    try clear c20b0
                    try clear c20b1
                    try clear c22
                    try clear c22b0
                    try clear c23
                    try clear c23b0
                    try clear q24
                    try clear c25
                    try clear c26
                    try clear c26b0
                    try clear c26b1
                    try clear c27
                    try clear c27b0
                    try clear c27b1
                    try clear c29
                    try clear c29b0
                    try clear c30
                    try clear c30b0
                    try clear q31
                    try clear c32
                    try clear c34
                    try clear c34b0
                    try clear c34b1
                    try clear c35
                    try clear c35b0
                    try clear c35b1
                    try clear c36
                    try clear c37
                    try clear c37b0
                    try clear c37b1
                    try clear c39
                    try clear c39b0
                    try clear c40
                    try clear c40b0
                    try clear q41
                    try clear c42
                    try clear c44
                    try clear c44b0
                    try clear c45
                    try clear c45b0
                    try clear q46
                    try clear c47
                    try clear c48
                    try clear c48b0
                    try clear c48b1
                    try clear q49
                    try clear c51
                    try clear c51b0
                    try clear c52
                    try clear c53
                    try clear c53b0
                    try clear c53b1
                    try clear c55
                    try clear c55b0
                    try clear c56
                    try clear c56b0
                    try clear q57
                    try clear c58
                    try clear c60
                    try clear c60b0
                    try clear c61
                    try clear c61b0
                    try clear q62
                    try clear c63
                    try clear c64
                    try clear c64b0
                    try clear c64b1
                    try clear p64
                    try clear c65
                    try clear q66
                    try clear c69
                    try clear c69b0
                    try clear c69b1
                    try clear hx171_0
                    try clear hx171_1
                    try clear hx172_0
                    try clear hx172_1
                    try clear hx177_0
                    try clear hx177_1
                    try clear hx178_0
                    try clear hx179_0
                    try clear hx180_0
                    try clear hx181_0
                    try clear hx185_0
                    try clear hx186_0
                    try clear p1
                    try clear p17
                    try clear p171
                    try clear p172
                    try clear p177
                    try clear p178
                    try clear p179
                    try clear p18
                    try clear p180
                    try clear p181
                    try clear p185
                    try clear p186
                    try clear p2
                    try clear p6
                    try clear q1
                    try clear q17
                    try clear q171
                    try clear q172
                    try clear q177
                    try clear q178
                    try clear q179
                    try clear q18
                    try clear q180
                    try clear q181
                    try clear q185
                    try clear q186
                    try clear q2
                    try clear q24
                    try clear q3
                    try clear q31
                    try clear q4
                    try clear q41
                    try clear q46
                    try clear q49
                    try clear q66
                    obtain ⟨kq, x128_67, rfl, HA, HJ67, HO_3, HB⟩ := hcut
                    cases kq with
                    | zero => exact absurd HA.out (by simp [remontoirref14_Good.j4])
                    | succ kj67 =>
                     have H := HA.out
                     clear HA
                     simp only [remontoirref14_Good.j4] at H
                     by_cases c70 : x128_67 = true
                     ·subst c70
                      have H1 : (if (x3_1.length : Int) < 2 then (some false) else (if 0 ≤ (wrap64 ((x3_1.length : Int) - 1)) then (if (wrap64 ((x3_1.length : Int) - 1)) < (x3_1.length : Int) then (if (rdOf false x3_1 (wrap64 ((x3_1.length : Int) - 1)) = true) then (if 0 ≤ (wrap64 ((x3_1.length : Int) - 2)) then (if (wrap64 ((x3_1.length : Int) - 2)) < (x3_1.length : Int) then (if (rdOf false x3_1 (wrap64 ((x3_1.length : Int) - 2)) = true) then (if (wrap64 ((x3_1.length : Int) - 1)) ≤ (x3_1.length : Int) then (remontoirref14_Good.l0 kj67 l0 (x3_1.take ((wrap64 ((x3_1.length : Int) - 1)) : Int).toNat) (wrap64 (x4_1 + 1))) else (none)) else (some false)) else (none)) else (none)) else (some false)) else (none)) else (none))) = some r := by rw [if_pos rfl] at H; exact H
                      clear H
                      have H := H1
                      clear H1
                      by_cases c71 : (x3_1.length : Int) < 2
                      ·rw [if_pos c71] at H
                       have c71b0 : decide ((x3_1.length : Int) < 2) = true := decide_eq_true c71
                       have c71b1 : decide (x3_1.length < 2) = true := decide_eq_true (by omega)
                       clear c71
                       obtain rfl := Option.some.inj H
                       go_wp2
                       go_ret
                       exact ⟨by first | rfl | (simp [errW_none, errW_some] <;> rfl) | (simp [*, errW_none, errW_some] <;> rfl), by repeat (first | (with_reducible first | exact HB.out | apply bal | apply pbN | apply bd1) | exact HB.out)⟩
                      ·rw [if_neg c71] at H
                       have c71b0 : decide ((x3_1.length : Int) < 2) = false := decide_eq_false c71
                       have c71b1 : decide (x3_1.length < 2) = false := decide_eq_false (by omega)
                       clear c71
                       obtain ⟨ji72, hji72⟩ : ∃ j_ : Int, (wrap64 ((x3_1.length : Int) - 1)) = j_ := ⟨_, rfl⟩
                       replace H : (if 0 ≤ (ji72) then (if (ji72) < (x3_1.length : Int) then (if (rdOf false x3_1 (ji72) = true) then (if 0 ≤ (wrap64 ((x3_1.length : Int) - 2)) then (if (wrap64 ((x3_1.length : Int) - 2)) < (x3_1.length : Int) then (if (rdOf false x3_1 (wrap64 ((x3_1.length : Int) - 2)) = true) then (if (ji72) ≤ (x3_1.length : Int) then (remontoirref14_Good.l0 kj67 l0 (x3_1.take ((ji72) : Int).toNat) (wrap64 (x4_1 + 1))) else (none)) else (some false)) else (none)) else (none)) else (some false)) else (none)) else (none)) = some r := by first | (rw [hji72] at H; exact H) | (simp only [hji72] at H ⊢; exact H)
                       have hji72w : (IntKind.i64.wrap ((x3_1.length : Int) - 1)) = ji72 := (i64_w _).trans hji72
                       by_cases c73 : 0 ≤ (ji72)
                       ·rw [if_pos c73] at H
                        have c73b0 : decide (0 ≤ (ji72)) = true := decide_eq_true c73
                        clear c73
                        by_cases c74 : (ji72) < (x3_1.length : Int)
                        ·rw [if_pos c74] at H
                         have c74b0 : decide ((ji72) < (x3_1.length : Int)) = true := decide_eq_true c74
                         clear c74
                         obtain ⟨bq75, hbq75⟩ : ∃ b_ : Bool, b_ = (rdOf false x3_1 (ji72)) := ⟨_, rfl⟩
                         replace H : (if (bq75 = true) then (if 0 ≤ (wrap64 ((x3_1.length : Int) - 2)) then (if (wrap64 ((x3_1.length : Int) - 2)) < (x3_1.length : Int) then (if (rdOf false x3_1 (wrap64 ((x3_1.length : Int) - 2)) = true) then (if (ji72) ≤ (x3_1.length : Int) then (remontoirref14_Good.l0 kj67 l0 (x3_1.take ((ji72) : Int).toNat) (wrap64 (x4_1 + 1))) else (none)) else (some false)) else (none)) else (none)) else (some false)) = some r := by rw [← hbq75] at H; exact H
                         have Nbq75 := Aside0.mk hbq75
                         clear hbq75
                         by_cases c76 : (bq75 = true)
                         ·subst c76
                          have H1 : (if 0 ≤ (wrap64 ((x3_1.length : Int) - 2)) then (if (wrap64 ((x3_1.length : Int) - 2)) < (x3_1.length : Int) then (if (rdOf false x3_1 (wrap64 ((x3_1.length : Int) - 2)) = true) then (if (ji72) ≤ (x3_1.length : Int) then (remontoirref14_Good.l0 kj67 l0 (x3_1.take ((ji72) : Int).toNat) (wrap64 (x4_1 + 1))) else (none)) else (some false)) else (none)) else (none)) = some r := by rw [if_pos rfl] at H; exact H
                          clear H
                          have H := H1
                          clear H1
                          obtain ⟨ji77, hji77⟩ : ∃ j_ : Int, (wrap64 ((x3_1.length : Int) - 2)) = j_ := ⟨_, rfl⟩
                          replace H : (if 0 ≤ (ji77) then (if (ji77) < (x3_1.length : Int) then (if (rdOf false x3_1 (ji77) = true) then (if (ji72) ≤ (x3_1.length : Int) then (remontoirref14_Good.l0 kj67 l0 (x3_1.take ((ji72) : Int).toNat) (wrap64 (x4_1 + 1))) else (none)) else (some false)) else (none)) else (none)) = some r := by first | (rw [hji77] at H; exact H) | (simp only [hji77] at H ⊢; exact H)
                          have hji77w : (IntKind.i64.wrap ((x3_1.length : Int) - 2)) = ji77 := (i64_w _).trans hji77
                          by_cases c78 : 0 ≤ (ji77)
                          ·rw [if_pos c78] at H
                           have c78b0 : decide (0 ≤ (ji77)) = true := decide_eq_true c78
                           clear c78
                           by_cases c79 : (ji77) < (x3_1.length : Int)
                           ·rw [if_pos c79] at H
                            have c79b0 : decide ((ji77) < (x3_1.length : Int)) = true := decide_eq_true c79
                            clear c79
                            obtain ⟨bq80, hbq80⟩ : ∃ b_ : Bool, b_ = (rdOf false x3_1 (ji77)) := ⟨_, rfl⟩
                            replace H : (if (bq80 = true) then (if (ji72) ≤ (x3_1.length : Int) then (remontoirref14_Good.l0 kj67 l0 (x3_1.take ((ji72) : Int).toNat) (wrap64 (x4_1 + 1))) else (none)) else (some false)) = some r := by rw [← hbq80] at H; exact H
                            have Nbq80 := Aside0.mk hbq80
                            clear hbq80
                            by_cases c81 : (bq80 = true)
                            ·subst c81
                             have H1 : (if (ji72) ≤ (x3_1.length : Int) then (remontoirref14_Good.l0 kj67 l0 (x3_1.take ((ji72) : Int).toNat) (wrap64 (x4_1 + 1))) else (none)) = some r := by rw [if_pos rfl] at H; exact H
                             clear H
                             have H := H1
                             clear H1
                             by_cases c82 : (ji72) ≤ (x3_1.length : Int)
                             ·rw [if_pos c82] at H
                              have c82b0 := eq_true c82
                              have c82b1 : decide ((ji72) ≤ (x3_1.length : Int)) = true := decide_eq_true c82
                              clear c82
                              obtain ⟨y195, hy195⟩ : ∃ y_ : List Bool, y_ = (x3_1.take ((ji72) : Int).toNat) := ⟨_, rfl⟩
                              replace H : (remontoirref14_Good.l0 kj67 l0 y195 (wrap64 (x4_1 + 1))) = some r := by first | (rw [hy195]; with_reducible exact H) | (have H2_ := (Option.bind_some _ _).symm.trans H; rw [hy195]; with_reducible exact H2_) | (have H2_ := (Option.bind_some _ _).symm.trans H; with_reducible exact H2_) | with_reducible exact H | (rw [hy195]; exact H) | exact H
                              have Ny195 := Aside0.mk hy195
                              clear hy195
                              have H' := Aside0.mk H
                              clear H
                              have p193 : 0 ≤ ((ji72) : Int) := of_decide_eq_true (by first | (with_reducible assumption) | assumption)
                              have q193 : (ji72) < (x3_1.length : Int) := of_decide_eq_true (by first | (with_reducible assumption) | assumption)
                              obtain ⟨ad193, e193, hx193_0⟩ := Kd.at_bool (Kd.R_reads' HO_3.out).2.2 (ji72) p193 q193
                              (try rw [← Nbq75.out] at hx193_0)
                              (try rw [← Nbq80.out] at hx193_0)
                              cases e193
                              replace p193 := eq_true p193
                              replace q193 := eq_true q193
                              have p194 : 0 ≤ ((ji77) : Int) := of_decide_eq_true (by first | (with_reducible assumption) | assumption)
                              have q194 : (ji77) < (x3_1.length : Int) := of_decide_eq_true (by first | (with_reducible assumption) | assumption)
                              obtain ⟨ad194, e194, hx194_0⟩ := Kd.at_bool (Kd.R_reads' HO_3.out).2.2 (ji77) p194 q194
                              (try rw [← Nbq75.out] at hx194_0)
                              (try rw [← Nbq80.out] at hx194_0)
                              obtain rfl : ad193 = ad194 := (by injection e194)
                              replace p194 := eq_true p194
                              replace q194 := eq_true q194
                              have q83 : ((ji72) : Int) ≤ ((x3_1.length : Int) : Int) := of_decide_eq_true (by first | (with_reducible assumption) | assumption)
                              obtain ⟨i083, hi083, _, hsz83, _⟩ := info_parts info4
                              have hcut83 := cut_to (P := Tryz.prog) 57 4 .i64 Tryz.underlying57 hi083 (some ad193) x3_1.length co5 (ji72) (of_decide_eq_true (by first | (with_reducible assumption) | assumption)) q83 (Kd.R_reads' HO_3.out).2.1
                              have hr83 := Kd.R_take (m := ((ji72) : Int).toNat) HO_3.out (by omega)
                              have hy83 : y195.length = ((ji72) : Int).toNat := (by rw [Ny195.out, List.length_take]; omega)
                              rw [← Ny195.out] at hr83
                              rw [← hy83] at hr83 hcut83
                              clear hy83 hi083 hsz83 HO_3
                              have HO197 := Aside0.mk hr83
                              clear hr83
                              replace q83 := eq_true q83
                              go_wp2
                              go_roundg kj67
                              case measure => have := HK1.out; have := HJ3.out; have := HJ32.out; have := HJ49.out; have := HJ67.out; omega
                              case rel => exact ⟨(y195), (wrap64 (x4_1 + 1)), (by first | rfl | (simp; done) | (simp [*]; done)), H', ⟨by have := HK1.out; have := HJ3.out; have := HJ32.out; have := HJ49.out; have := HJ67.out; omega⟩, ⟨by (with_reducible repeat (first | apply Kd.R_alloc | apply Kd.R_drewN | apply Kd.R_drew)); exact HO197.out⟩, ⟨by repeat (first | (with_reducible first | exact HB.out | apply bal | apply pbN | apply bd1) | exact HB.out)⟩⟩
                             ·rw [if_neg c82] at H
                              exact absurd H (by simp)
                            ·replace c81 := Bool.eq_false_iff.mpr c81
                             subst c81
                             have H1 : (some false) = some r := by rw [if_neg (show ¬ (false = true) by decide)] at H; exact H
                             clear H
                             have H := H1
                             clear H1
                             obtain rfl := Option.some.inj H
                             have p193 : 0 ≤ ((ji72) : Int) := of_decide_eq_true (by first | (with_reducible assumption) | assumption)
                             have q193 : (ji72) < (x3_1.length : Int) := of_decide_eq_true (by first | (with_reducible assumption) | assumption)
                             obtain ⟨ad193, e193, hx193_0⟩ := Kd.at_bool (Kd.R_reads' HO_3.out).2.2 (ji72) p193 q193
                             (try rw [← Nbq75.out] at hx193_0)
                             (try rw [← Nbq80.out] at hx193_0)
                             cases e193
                             replace p193 := eq_true p193
                             replace q193 := eq_true q193
                             have p194 : 0 ≤ ((ji77) : Int) := of_decide_eq_true (by first | (with_reducible assumption) | assumption)
                             have q194 : (ji77) < (x3_1.length : Int) := of_decide_eq_true (by first | (with_reducible assumption) | assumption)
                             obtain ⟨ad194, e194, hx194_0⟩ := Kd.at_bool (Kd.R_reads' HO_3.out).2.2 (ji77) p194 q194
                             (try rw [← Nbq75.out] at hx194_0)
                             (try rw [← Nbq80.out] at hx194_0)
                             obtain rfl : ad193 = ad194 := (by injection e194)
                             replace p194 := eq_true p194
                             replace q194 := eq_true q194
                             go_wp2
                             go_ret
                             exact ⟨by first | rfl | (simp [errW_none, errW_some] <;> rfl) | (simp only [← hji72, ← hji77]; first | rfl | (simp [errW_none, errW_some] <;> rfl)) | (simp [*, errW_none, errW_some] <;> rfl), by repeat (first | (with_reducible first | exact HB.out | apply bal | apply pbN | apply bd1) | exact HB.out)⟩
                           ·rw [if_neg c79] at H
                            exact absurd H (by simp)
                          ·rw [if_neg c78] at H
                           exact absurd H (by simp)
                         ·replace c76 := Bool.eq_false_iff.mpr c76
                          subst c76
                          have H1 : (some false) = some r := by rw [if_neg (show ¬ (false = true) by decide)] at H; exact H
                          clear H
                          have H := H1
                          clear H1
                          obtain rfl := Option.some.inj H
                          have p193 : 0 ≤ ((ji72) : Int) := of_decide_eq_true (by first | (with_reducible assumption) | assumption)
                          have q193 : (ji72) < (x3_1.length : Int) := of_decide_eq_true (by first | (with_reducible assumption) | assumption)
                          obtain ⟨ad193, e193, hx193_0⟩ := Kd.at_bool (Kd.R_reads' HO_3.out).2.2 (ji72) p193 q193
                          (try rw [← Nbq75.out] at hx193_0)
                          cases e193
                          replace p193 := eq_true p193
                          replace q193 := eq_true q193
                          go_wp2
                          go_ret
                          exact ⟨by first | rfl | (simp [errW_none, errW_some] <;> rfl) | (simp only [← hji72]; first | rfl | (simp [errW_none, errW_some] <;> rfl)) | (simp [*, errW_none, errW_some] <;> rfl), by repeat (first | (with_reducible first | exact HB.out | apply bal | apply pbN | apply bd1) | exact HB.out)⟩
                        ·rw [if_neg c74] at H
                         exact absurd H (by simp)
                       ·rw [if_neg c73] at H
                        exact absurd H (by simp)
                     ·replace c70 := Bool.eq_false_iff.mpr c70
                      subst c70
                      have H1 : (some false) = some r := by rw [if_neg (show ¬ (false = true) by decide)] at H; exact H
                      clear H
                      have H := H1
                      clear H1
                      obtain rfl := Option.some.inj H
                      go_wp2
                      go_ret
                      exact ⟨by first | rfl | (simp [errW_none, errW_some] <;> rfl) | (simp [*, errW_none, errW_some] <;> rfl), by repeat (first | (with_reducible first | exact HB.out | apply bal | apply pbN | apply bd1) | exact HB.out)⟩
          ·rw [if_neg c18] at H
           have c18b0 : (((rd_T39 l0 x4_1).f1) == 0) = false := beq_eq_false_iff_ne.mpr c18
           have c18b1 : (((rd_T39 l0 x4_1).f1) != 0) = true := bne_iff_ne.mpr c18
           obtain rfl := Option.some.inj H
           have p177 : 0 ≤ (x4_1 : Int) := of_decide_eq_true (by first | (with_reducible assumption) | assumption)
           have q177 : x4_1 < (l0.length : Int) := of_decide_eq_true (by first | (with_reducible assumption) | assumption)
           obtain ⟨ad177, e177, hx177_0, hx177_1⟩ := at_T39 HR0.out x4_1 p177 q177
           obtain rfl : ad171 = ad177 := (by injection e177)
           replace hx177_0 := (HB.out.cell (World.block_lt_of_cell? w _ hx177_0)).trans hx177_0
           replace hx177_1 := (HB.out.cell (World.block_lt_of_cell? w _ hx177_1)).trans hx177_1
           replace p177 := eq_true p177
           replace q177 := eq_true q177
           go_wp2
           go_ret
           exact ⟨by first | rfl | (simp [errW_none, errW_some] <;> rfl) | (simp [*, errW_none, errW_some] <;> rfl), by repeat (first | (with_reducible first | exact HB.out | apply bal | apply pbN | apply bd1) | exact HB.out)⟩
         ·rw [if_neg c17] at H
          exact absurd H (by simp)
        ·rw [if_neg c16] at H
         exact absurd H (by simp)
    ·rw [if_neg c3] at H
     exact absurd H (by simp)
   ·rw [if_neg c2] at H
    have c2b0 : decide (x4_1 < (l0.length : Int)) = false := decide_eq_false c2
    clear c2
    by_cases c84 : (x3_1.length : Int) = 1
    ·rw [if_pos c84] at H
     have c84b0 : ((x3_1.length : Int) == 1) = true := beq_iff_eq.mpr c84
     have c84b1 : ((x3_1.length : Int) != 1) = false := bne_eq_false_iff_eq.mpr c84
     clear c84
     by_cases c85 : 0 < (x3_1.length : Int)
     ·rw [if_pos c85] at H
      have c85b0 : decide (0 < (x3_1.length : Int)) = true := decide_eq_true c85
      have c85b1 : decide (0 < x3_1.length) = true := decide_eq_true (by omega)
      clear c85
      obtain rfl := Option.some.inj H
      obtain ⟨Ao86, co86, eo86⟩ := Kd.R_slice HO_3.out
      subst eo86
      have p170 : 0 ≤ (0 : Int) := (by omega)
      have q170 : 0 < (x3_1.length : Int) := of_decide_eq_true (by first | (with_reducible assumption) | assumption)
      obtain ⟨ad170, e170, hx170_0⟩ := Kd.at_bool (Kd.R_reads' HO_3.out).2.2 0 p170 q170
      cases e170
      have qi170 : (0 < x3_1.length) = True := eq_true (by omega)
      (try rw [show ((0 : Int)).toNat = 0 from rfl] at hx170_0)
      (try rw [Addr.add_zero'] at hx170_0)
      replace p170 := eq_true p170
      replace q170 := eq_true q170
      go_wp2
      go_ret
      exact ⟨by first | rfl | (simp [errW_none, errW_some] <;> rfl) | (simp [*, errW_none, errW_some] <;> rfl), by repeat (first | (with_reducible first | exact HB.out | apply bal | apply pbN | apply bd1) | exact HB.out)⟩
     ·rw [if_neg c85] at H
      exact absurd H (by simp)
    ·rw [if_neg c84] at H
     have c84b0 : ((x3_1.length : Int) == 1) = false := beq_eq_false_iff_ne.mpr c84
     have c84b1 : ((x3_1.length : Int) != 1) = true := bne_iff_ne.mpr c84
     obtain rfl := Option.some.inj H
     obtain ⟨Ao87, co87, eo87⟩ := Kd.R_slice HO_3.out
     subst eo87
     go_wp2
     go_ret
     exact ⟨by first | rfl | (simp [errW_none, errW_some] <;> rfl) | (simp [*, errW_none, errW_some] <;> rfl), by repeat (first | (with_reducible first | exact HB.out | apply bal | apply pbN | apply bd1) | exact HB.out)⟩

end Go.Proofs.YtikbgoppmailjaaGreatDoor.H
-- Written by hp.py (a program of this session, over the kit's print.py), with hand-made contracts beside it.
namespace Go.Proofs.YtikbgoppmailjaaGreatDoor.H
open Go.RowKit Go.Proofs.YtikbgoppmailjaaGreatDoorW.PrintWords Go.Proofs.YtikbgoppmailjaaGreatDoorW.PrintLast Go.Proofs.YtikbgoppmailjaaGreatDoorW.PrintMore
attribute [local go_sem] max2_int min2_int max_two min_two max_three min_three max_four min_four   -- for this text's walks alone
set_option linter.unusedVariables false
set_option linter.unusedSimpArgs false

/-! ### remontoirref13_of: function 36 -/
def remontoirref13_of.f (a0 : Int) : Option (ByteArray) := (some (([(⟨#[]⟩ : ByteArray), (⟨#[]⟩ : ByteArray), (⟨#[]⟩ : ByteArray), (⟨#[43]⟩ : ByteArray), (⟨#[45]⟩ : ByteArray), (⟨#[42]⟩ : ByteArray), (⟨#[60]⟩ : ByteArray), (⟨#[60, 61]⟩ : ByteArray), (⟨#[62]⟩ : ByteArray), (⟨#[62, 61]⟩ : ByteArray), (⟨#[61, 61]⟩ : ByteArray), (⟨#[33, 61]⟩ : ByteArray), (⟨#[38]⟩ : ByteArray), (⟨#[124]⟩ : ByteArray), (⟨#[33]⟩ : ByteArray), (⟨#[40]⟩ : ByteArray), (⟨#[41]⟩ : ByteArray), (⟨#[91]⟩ : ByteArray), (⟨#[93]⟩ : ByteArray)] : List ByteArray) : List ByteArray)).bind fun y198 => (if 0 ≤ a0 then (if a0 < (y198.length : Int) then (some (rdOf ByteArray.empty y198 a0)) else (none)) else (none))
set_option maxHeartbeats 8000000 in
set_option maxRecDepth 100000 in
theorem remontoirref13_of.calls (a0 : Int) (r : ByteArray) (w : World) (h : remontoirref13_of.f a0 = some r) :
  Calls Tryz.prog 36 #[.int .i64 a0] w fun e w' => e = .returned (.string r) ∧ Below w.heap.size w w' := by
 have HB := Aside0.mk (Below.refl w.heap.size w)
 have H : ((some (([(⟨#[]⟩ : ByteArray), (⟨#[]⟩ : ByteArray), (⟨#[]⟩ : ByteArray), (⟨#[43]⟩ : ByteArray), (⟨#[45]⟩ : ByteArray), (⟨#[42]⟩ : ByteArray), (⟨#[60]⟩ : ByteArray), (⟨#[60, 61]⟩ : ByteArray), (⟨#[62]⟩ : ByteArray), (⟨#[62, 61]⟩ : ByteArray), (⟨#[61, 61]⟩ : ByteArray), (⟨#[33, 61]⟩ : ByteArray), (⟨#[38]⟩ : ByteArray), (⟨#[124]⟩ : ByteArray), (⟨#[33]⟩ : ByteArray), (⟨#[40]⟩ : ByteArray), (⟨#[41]⟩ : ByteArray), (⟨#[91]⟩ : ByteArray), (⟨#[93]⟩ : ByteArray)] : List ByteArray) : List ByteArray)).bind fun y198 => (if 0 ≤ a0 then (if a0 < (y198.length : Int) then (some (rdOf ByteArray.empty y198 a0)) else (none)) else (none))) = some r := h
 clear h
 obtain ⟨y198, hy198⟩ : ∃ y_ : List ByteArray, y_ = (([(⟨#[]⟩ : ByteArray), (⟨#[]⟩ : ByteArray), (⟨#[]⟩ : ByteArray), (⟨#[43]⟩ : ByteArray), (⟨#[45]⟩ : ByteArray), (⟨#[42]⟩ : ByteArray), (⟨#[60]⟩ : ByteArray), (⟨#[60, 61]⟩ : ByteArray), (⟨#[62]⟩ : ByteArray), (⟨#[62, 61]⟩ : ByteArray), (⟨#[61, 61]⟩ : ByteArray), (⟨#[33, 61]⟩ : ByteArray), (⟨#[38]⟩ : ByteArray), (⟨#[124]⟩ : ByteArray), (⟨#[33]⟩ : ByteArray), (⟨#[40]⟩ : ByteArray), (⟨#[41]⟩ : ByteArray), (⟨#[91]⟩ : ByteArray), (⟨#[93]⟩ : ByteArray)] : List ByteArray)) := ⟨_, rfl⟩
 replace H : (if 0 ≤ a0 then (if a0 < (y198.length : Int) then (some (rdOf ByteArray.empty y198 a0)) else (none)) else (none)) = some r := by first | (rw [hy198]; with_reducible exact H) | (have H2_ := (Option.bind_some _ _).symm.trans H; rw [hy198]; with_reducible exact H2_) | (have H2_ := (Option.bind_some _ _).symm.trans H; with_reducible exact H2_) | with_reducible exact H | (rw [hy198]; exact H) | exact H
 have Ny198 := Aside0.mk hy198
 clear hy198
 by_cases c2 : 0 ≤ a0
 ·rw [if_pos c2] at H
  have c2b0 : decide (0 ≤ a0) = true := decide_eq_true c2
  clear c2
  by_cases c3 : a0 < (y198.length : Int)
  ·rw [if_pos c3] at H
   have c3b0 : decide (a0 < (y198.length : Int)) = true := decide_eq_true c3
   clear c3
   obtain rfl := Option.some.inj H
   go_enter Tryz.func36, Tryz.ntmps36
   go_wp2_with (first | ((with_reducible refine gate_dst (N := 3) rfl ?_); refine Kd.R_lit Kd.string _ 9 ?hg (N := 3) ?hd (xs := ([(⟨#[]⟩ : ByteArray), (⟨#[]⟩ : ByteArray), (⟨#[]⟩ : ByteArray), (⟨#[43]⟩ : ByteArray), (⟨#[45]⟩ : ByteArray), (⟨#[42]⟩ : ByteArray), (⟨#[60]⟩ : ByteArray), (⟨#[60, 61]⟩ : ByteArray), (⟨#[62]⟩ : ByteArray), (⟨#[62, 61]⟩ : ByteArray), (⟨#[61, 61]⟩ : ByteArray), (⟨#[33, 61]⟩ : ByteArray), (⟨#[38]⟩ : ByteArray), (⟨#[124]⟩ : ByteArray), (⟨#[33]⟩ : ByteArray), (⟨#[40]⟩ : ByteArray), (⟨#[41]⟩ : ByteArray), (⟨#[91]⟩ : ByteArray), (⟨#[93]⟩ : ByteArray)] : List ByteArray)) (inner := [.string (⟨#[]⟩ : ByteArray), .string (⟨#[]⟩ : ByteArray), .string (⟨#[]⟩ : ByteArray), .string (⟨#[43]⟩ : ByteArray), .string (⟨#[45]⟩ : ByteArray), .string (⟨#[42]⟩ : ByteArray), .string (⟨#[60]⟩ : ByteArray), .string (⟨#[60, 61]⟩ : ByteArray), .string (⟨#[62]⟩ : ByteArray), .string (⟨#[62, 61]⟩ : ByteArray), .string (⟨#[61, 61]⟩ : ByteArray), .string (⟨#[33, 61]⟩ : ByteArray), .string (⟨#[38]⟩ : ByteArray), .string (⟨#[124]⟩ : ByteArray), .string (⟨#[33]⟩ : ByteArray), .string (⟨#[40]⟩ : ByteArray), .string (⟨#[41]⟩ : ByteArray), .string (⟨#[91]⟩ : ByteArray), .string (⟨#[93]⟩ : ByteArray)]) (ok := fun _ => True) (okp := fun _ => True) ?hr ?hp (fun _ hk => hk) trivial (Below.refl _ _) (Nat.le_refl _) (by simp) ?_; (case hd => rfl); (case hg => rfl); (case hr => first | (go_simp; done) | (go_simp; rfl)); (case hp => exact (Reps.one (show Kd.M Kd.string _ _ _ (⟨#[]⟩ : ByteArray) [.string (⟨#[]⟩ : ByteArray)] from rfl) (Reps.one (show Kd.M Kd.string _ _ _ (⟨#[]⟩ : ByteArray) [.string (⟨#[]⟩ : ByteArray)] from rfl) (Reps.one (show Kd.M Kd.string _ _ _ (⟨#[]⟩ : ByteArray) [.string (⟨#[]⟩ : ByteArray)] from rfl) (Reps.one (show Kd.M Kd.string _ _ _ (⟨#[43]⟩ : ByteArray) [.string (⟨#[43]⟩ : ByteArray)] from rfl) (Reps.one (show Kd.M Kd.string _ _ _ (⟨#[45]⟩ : ByteArray) [.string (⟨#[45]⟩ : ByteArray)] from rfl) (Reps.one (show Kd.M Kd.string _ _ _ (⟨#[42]⟩ : ByteArray) [.string (⟨#[42]⟩ : ByteArray)] from rfl) (Reps.one (show Kd.M Kd.string _ _ _ (⟨#[60]⟩ : ByteArray) [.string (⟨#[60]⟩ : ByteArray)] from rfl) (Reps.one (show Kd.M Kd.string _ _ _ (⟨#[60, 61]⟩ : ByteArray) [.string (⟨#[60, 61]⟩ : ByteArray)] from rfl) (Reps.one (show Kd.M Kd.string _ _ _ (⟨#[62]⟩ : ByteArray) [.string (⟨#[62]⟩ : ByteArray)] from rfl) (Reps.one (show Kd.M Kd.string _ _ _ (⟨#[62, 61]⟩ : ByteArray) [.string (⟨#[62, 61]⟩ : ByteArray)] from rfl) (Reps.one (show Kd.M Kd.string _ _ _ (⟨#[61, 61]⟩ : ByteArray) [.string (⟨#[61, 61]⟩ : ByteArray)] from rfl) (Reps.one (show Kd.M Kd.string _ _ _ (⟨#[33, 61]⟩ : ByteArray) [.string (⟨#[33, 61]⟩ : ByteArray)] from rfl) (Reps.one (show Kd.M Kd.string _ _ _ (⟨#[38]⟩ : ByteArray) [.string (⟨#[38]⟩ : ByteArray)] from rfl) (Reps.one (show Kd.M Kd.string _ _ _ (⟨#[124]⟩ : ByteArray) [.string (⟨#[124]⟩ : ByteArray)] from rfl) (Reps.one (show Kd.M Kd.string _ _ _ (⟨#[33]⟩ : ByteArray) [.string (⟨#[33]⟩ : ByteArray)] from rfl) (Reps.one (show Kd.M Kd.string _ _ _ (⟨#[40]⟩ : ByteArray) [.string (⟨#[40]⟩ : ByteArray)] from rfl) (Reps.one (show Kd.M Kd.string _ _ _ (⟨#[41]⟩ : ByteArray) [.string (⟨#[41]⟩ : ByteArray)] from rfl) (Reps.one (show Kd.M Kd.string _ _ _ (⟨#[91]⟩ : ByteArray) [.string (⟨#[91]⟩ : ByteArray)] from rfl) (Reps.one (show Kd.M Kd.string _ _ _ (⟨#[93]⟩ : ByteArray) [.string (⟨#[93]⟩ : ByteArray)] from rfl) (Reps.none _ _))))))))))))))))))))); intro v199 w4 ho5 hb hg_ hnew_; clear hg_ hnew_; (first | rw [← Ny198.out] at ho5 | (simp only [Int.reduceToNat] at ho5; rw [← Ny198.out] at ho5)); have n0_ := Aside0.mk (Kd.R_lower ho5 (bsz (by repeat (first | (with_reducible first | exact HB.out | apply bal | apply pbN | apply bd1) | exact HB.out)))); have n1_ := Aside0.mk (bsp (by repeat (first | (with_reducible first | exact HB.out | apply bal | apply pbN | apply bd1) | exact HB.out)) hb); clear HB; have HO200 := n0_; have HB := n1_; clear n0_ n1_; clear hb ho5; obtain ⟨Ao6, co6, eo6⟩ := Kd.R_slice HO200.out; subst eo6; have p201 : 0 ≤ (a0 : Int) := of_decide_eq_true (by first | (with_reducible assumption) | assumption); have q201 : a0 < (y198.length : Int) := of_decide_eq_true (by first | (with_reducible assumption) | assumption); obtain ⟨ad201, e201, hx201_0⟩ := Kd.at_string (Kd.R_reads' HO200.out).2.2 a0 p201 q201; cases e201; replace p201 := eq_true p201; replace q201 := eq_true q201))
   go_ret
   exact ⟨by first | rfl | (simp [errW_none, errW_some] <;> rfl) | (simp [*, errW_none, errW_some] <;> rfl), by repeat (first | (with_reducible first | exact HB.out | apply bal | apply pbN | apply bd1) | exact HB.out)⟩
  ·rw [if_neg c3] at H
   exact absurd H (by simp)
 ·rw [if_neg c2] at H
  exact absurd H (by simp)

/-! ### remontoirref02_Digits: function 70 -/
def remontoirref02_Digits.f : Nat → Int → Option (ByteArray)
  | 0, _ => none
  | k + 1, a0 => if a0 < 10 then (some (strOfNums (([(IntKind.u64.wrap (48 + a0)) % 256] : List Int)))) else ((remontoirref02_Digits.f k (IntKind.u64.wrap (Int.tdiv a0 10))).bind fun t205 => ((some (([(IntKind.u64.wrap (48 + (Int.tmod a0 10))) % 256] : List Int) : List Int)).bind fun y206 => (if t205.size + (strOfNums y206).size ≤ 9223372036854775807 then (some (t205 ++ (strOfNums y206))) else (none))))
theorem remontoirref02_Digits.mono_l : ∀ k, (∀ y0, LeO (remontoirref02_Digits.f k y0) (remontoirref02_Digits.f (k + 1) y0))
  | 0 => fun _ r h => by simp [remontoirref02_Digits.f] at h
  | k + 1 => by
    have ih0 := remontoirref02_Digits.mono_l k
    · intro y0
      unfold remontoirref02_Digits.f
      repeat' first
      | (with_reducible exact ih0 _)
      | (with_reducible exact LeO.refl _)
      | (with_reducible exact LeO.none _)
      | (with_reducible refine LeO.ite ?_ ?_)
      | (with_reducible refine LeO.bind ?_ (fun _ => ?_))
      | exact ih0 _
      | exact LeO.none _
      | refine LeO.ite ?_ ?_
      | refine LeO.bind ?_ (fun _ => ?_)
theorem remontoirref02_Digits.mono : ∀ a0 k, LeO (remontoirref02_Digits.f k a0) (remontoirref02_Digits.f (k + 1) a0) := by
  intro a0 k
  have ih0 := remontoirref02_Digits.mono_l k
  exact ih0 a0
def remontoirref02_Digits.T3 : Bool × List (List Nat × List Nat) := (true, [([], []), ([0], [0]), ([1], [1]), ([], []), ([3], [3]), ([4], [4]), ([5], [5]), ([6], [6]), ([7], [7]), ([2, 8], [2, 8]), ([9, 2, 0, 1, 2, 3, 4, 5, 6, 7, 8, 9], [9])])
def remontoirref02_Digits.B3 : List Nat := [0, 1, 3, 0, 8, 24, 56, 120, 248, 511, 1023]
theorem remontoirref02_Digits.tab3 : rtab .any (opsOf Tryz.f70 3) = remontoirref02_Digits.T3 := by kernel_rfl
theorem remontoirref02_Digits.bits3 : waitsOk remontoirref02_Digits.T3.2 remontoirref02_Digits.B3 = true := by kernel_rfl
set_option maxHeartbeats 8000000 in
set_option maxRecDepth 100000 in
theorem remontoirref02_Digits.calls (k : Nat) : ∀ (a0 : Int) (r : ByteArray) (w : World) (h : remontoirref02_Digits.f k a0 = some r),
  Calls Tryz.prog 70 #[.int .u64 a0] w fun e w' => e = .returned (.string r) ∧ Below w.heap.size w w' := by
 induction k using Nat.strongRecOn with
 | _ k ih =>
 intro a0 r w h
 cases k with
 | zero => exact absurd h (by simp [remontoirref02_Digits.f])
 | succ k =>
 simp only [remontoirref02_Digits.f] at h
 have HB := Aside0.mk (Below.refl w.heap.size w)
 have H : (if a0 < 10 then (some (strOfNums (([(IntKind.u64.wrap (48 + a0)) % 256] : List Int)))) else ((remontoirref02_Digits.f k (IntKind.u64.wrap (Int.tdiv a0 10))).bind fun t205 => ((some (([(IntKind.u64.wrap (48 + (Int.tmod a0 10))) % 256] : List Int) : List Int)).bind fun y206 => (if t205.size + (strOfNums y206).size ≤ 9223372036854775807 then (some (t205 ++ (strOfNums y206))) else (none))))) = some r := h
 clear h
 by_cases c2 : a0 < 10
 ·rw [if_pos c2] at H
  have c2b0 : decide (a0 < 10) = true := decide_eq_true c2
  clear c2
  obtain ⟨y202, hy202⟩ : ∃ y_ : List Int, y_ = (([(IntKind.u64.wrap (48 + a0)) % 256] : List Int)) := ⟨_, rfl⟩
  replace H : (some (strOfNums y202)) = some r := by first | (rw [hy202]; with_reducible exact H) | (have H2_ := (Option.bind_some _ _).symm.trans H; rw [hy202]; with_reducible exact H2_) | (have H2_ := (Option.bind_some _ _).symm.trans H; with_reducible exact H2_) | with_reducible exact H | (rw [hy202]; exact H) | exact H
  have Ny202 := Aside0.mk hy202
  clear hy202
  obtain rfl := Option.some.inj H
  go_enter Tryz.func70, Tryz.ntmps70
  go_wp2_with (first | ((with_reducible refine gate_dst (N := 8) rfl ?_); refine Kd.R_lit (Kd.int .u8) _ 5 ?hg (N := 8) ?hd (xs := ([(IntKind.u64.wrap (48 + a0)) % 256] : List Int)) (inner := [.int .u8 ((IntKind.u64.wrap (48 + a0)) % 256)]) (ok := fun _ => True) (okp := fun _ => True) ?hr ?hp (fun _ hk => hk) trivial (Below.refl _ _) (Nat.le_refl _) (by simp) ?_; (case hd => rfl); (case hg => rfl); (case hr => first | (go_simp; done) | (go_simp; rfl)); (case hp => exact (Reps.one (show Kd.M (Kd.int .u8) _ _ _ ((IntKind.u64.wrap (48 + a0)) % 256) [.int .u8 ((IntKind.u64.wrap (48 + a0)) % 256)] from rfl) (Reps.none _ _))); intro v203 w3 ho4 hb hg_ hnew_; clear hg_ hnew_; (first | rw [← Ny202.out] at ho4 | (simp only [Int.reduceToNat] at ho4; rw [← Ny202.out] at ho4)); have n0_ := Aside0.mk (Kd.R_lower ho4 (bsz (by repeat (first | (with_reducible first | exact HB.out | apply bal | apply pbN | apply bd1) | exact HB.out)))); have n1_ := Aside0.mk (bsp (by repeat (first | (with_reducible first | exact HB.out | apply bal | apply pbN | apply bd1) | exact HB.out)) hb); clear HB; have HO204 := n0_; have HB := n1_; clear n0_ n1_; clear hb ho4; have hcv5 := own_string (P := Tryz.prog) Tryz.underlying97 Tryz.underlying5 Tryz.underlying9 (Kd.own_of_R HO204.out)))
  go_ret
  exact ⟨by first | rfl | (simp [errW_none, errW_some] <;> rfl) | (simp [*, errW_none, errW_some] <;> rfl), by repeat (first | (with_reducible first | exact HB.out | apply bal | apply pbN | apply bd1) | exact HB.out)⟩
 ·rw [if_neg c2] at H
  have c2b0 : decide (a0 < 10) = false := decide_eq_false c2
  clear c2
  replace H := Option.bind_eq_some_iff.mp H
  obtain ⟨t205, A60, H⟩ := H
  replace H : ((some (([(IntKind.u64.wrap (48 + (Int.tmod a0 10))) % 256] : List Int) : List Int)).bind fun y206 => (if t205.size + (strOfNums y206).size ≤ 9223372036854775807 then (some (t205 ++ (strOfNums y206))) else (none))) = some r := H
  have A6 := Aside0.mk A60
  clear A60
  obtain ⟨y206, hy206⟩ : ∃ y_ : List Int, y_ = (([(IntKind.u64.wrap (48 + (Int.tmod a0 10))) % 256] : List Int)) := ⟨_, rfl⟩
  replace H : (if t205.size + (strOfNums y206).size ≤ 9223372036854775807 then (some (t205 ++ (strOfNums y206))) else (none)) = some r := by first | (rw [hy206]; with_reducible exact H) | (have H2_ := (Option.bind_some _ _).symm.trans H; rw [hy206]; with_reducible exact H2_) | (have H2_ := (Option.bind_some _ _).symm.trans H; with_reducible exact H2_) | with_reducible exact H | (rw [hy206]; exact H) | exact H
  have Ny206 := Aside0.mk hy206
  clear hy206
  by_cases c7 : t205.size + (strOfNums y206).size ≤ 9223372036854775807
  ·rw [if_pos c7] at H
   have c7b0 := eq_true c7
   have c7b1 : decide (t205.size + (strOfNums y206).size ≤ 9223372036854775807) = true := decide_eq_true c7
   try have c7b2 : (9223372036854775807 < t205.size + (strOfNums y206).size) = False := eq_false (Nat.not_lt.2 c7)
   obtain rfl := Option.some.inj H
   go_enter Tryz.func70, Tryz.ntmps70
   try go_wp2
   have n0_ := Aside0.mk (bd1 HB.out)
   clear HB
   have HB := n0_
   clear n0_
   refine start_ (n := 11) (S := fun w' => True) (ds := []) #[false, false, false, false, false, false, false, false, false, false, false] (by kernel_rfl) rfl rfl trivial (fun hHeld => ?_); refine with_tabW remontoirref02_Digits.tab3 remontoirref02_Digits.bits3 (fun HT_ HW_ => ?_)
   generalize w.drew = w8 at HB hHeld ⊢
   refine pure_ (i := 0) (N := some 10) (v := ?_) (a' := ?_) #[true, false, false, false, false, false, false, false, false, false, false] rfl rfl (any_of HT_.out (by kernel_rfl)) (fun _ _ _ h => h) (Or.inl ⟨by rfl, ?_⟩) ?_ ?_
   rotate_left
   ·intro w'
    go_simp
    with_reducible rfl
   rotate_left
   ·simp only [Act.put, List.setIfInBounds_toArray, List.set_cons_zero, List.set_cons_succ, i64_w, i32_w]
    rfl
   refine pure_ (i := 1) (N := some 11) (v := ?_) (a' := ?_) #[true, true, false, false, false, false, false, false, false, false, false] rfl rfl (any_of HT_.out (by kernel_rfl)) (fun _ _ _ h => h) (Or.inl ⟨by rfl, ?_⟩) ?_ ?_
   rotate_left
   ·intro w'
    go_simp
    with_reducible rfl
   rotate_left
   ·simp only [Act.put, List.setIfInBounds_toArray, List.set_cons_zero, List.set_cons_succ, i64_w, i32_w]
    rfl
   refine pure_ (i := 3) (N := some 13) (v := ?_) (a' := ?_) #[true, true, false, true, false, false, false, false, false, false, false] rfl rfl (any_of HT_.out (by kernel_rfl)) (fun _ _ _ h => h) (Or.inl ⟨by rfl, ?_⟩) ?_ ?_
   rotate_left
   ·intro w'
    go_simp
    with_reducible rfl
   rotate_left
   ·simp only [Act.put, List.setIfInBounds_toArray, List.set_cons_zero, List.set_cons_succ, i64_w, i32_w]
    rfl
   refine pure_ (i := 4) (N := some 14) (v := ?_) (a' := ?_) #[true, true, false, true, true, false, false, false, false, false, false] rfl rfl (any_of HT_.out (by kernel_rfl)) (fun _ _ _ h => h) (Or.inl ⟨by rfl, ?_⟩) ?_ ?_
   rotate_left
   ·intro w'
    go_simp
    with_reducible rfl
   rotate_left
   ·simp only [Act.put, List.setIfInBounds_toArray, List.set_cons_zero, List.set_cons_succ, i64_w, i32_w]
    rfl
   refine pure_ (i := 5) (N := some 15) (v := ?_) (a' := ?_) #[true, true, false, true, true, true, false, false, false, false, false] rfl rfl (any_of HT_.out (by kernel_rfl)) (fun _ _ _ h => h) (Or.inl ⟨by rfl, ?_⟩) ?_ ?_
   rotate_left
   ·intro w'
    go_simp
    with_reducible rfl
   rotate_left
   ·simp only [Act.put, List.setIfInBounds_toArray, List.set_cons_zero, List.set_cons_succ, i64_w, i32_w]
    rfl
   refine pure_ (i := 6) (N := some 16) (v := ?_) (a' := ?_) #[true, true, false, true, true, true, true, false, false, false, false] rfl rfl (any_of HT_.out (by kernel_rfl)) (fun _ _ _ h => h) (Or.inl ⟨by rfl, ?_⟩) ?_ ?_
   rotate_left
   ·intro w'
    go_simp
    with_reducible rfl
   rotate_left
   ·simp only [Act.put, List.setIfInBounds_toArray, List.set_cons_zero, List.set_cons_succ, i64_w, i32_w]
    rfl
   refine join_ (σ := Value) 2 #[true, true, true, true, true, true, true, true, true, false, false] (fun s_ => [(12, .string t205), (17, s_), (18, .string (strOfNums y206))]) (fun s_ w' => (Kd.R (Kd.int .u8) 5 w' w.heap.size (fun _ => True) s_ y206) ∧ (Below w.heap.size w w')) ?_ ?_
   rotate_left
   ·intro hCont
    refine two_ (i := 2) (j := 7) (Ni := some 12) (Nj := some 17) #[true, true, true, true, true, true, true, false, false, false, false] #[true, true, false, true, true, true, true, true, false, false, false] rfl rfl rfl rfl (two_of HT_.out (by kernel_rfl)) (by decide) (by decide) (fun K hK => ?_) (fun K hK => ?_)
    ·skip
     refine goes_ Tryz.func70 (by kernel_rfl) rfl #[.int .u64 (IntKind.u64.wrap (Int.tdiv a0 10))] (by rfl) rfl rfl (by (try simp only [List.map_toArray, List.map_cons, List.map_nil]); first | done | rfl | (simp only [List.length_drop, List.length_take]; rfl)) ?_
     with_reducible refine (ih k (by omega) (IntKind.u64.wrap (Int.tdiv a0 10)) t205 _ A6.out).mono ?_
     rintro e w9 ⟨rfl, hb⟩
     refine ⟨_, rfl, ?_⟩
     have n0_ := Aside0.mk (bsp (by repeat (first | (with_reducible first | exact HB.out | apply bal | apply pbN | apply bd1) | exact HB.out)) hb)
     clear HB
     have HB := n0_
     clear n0_
     (try clear hb);(try clear hb2);(try clear hk);(try clear hi)
     refine hK.out _ _ trivial (fun hHeld => ?_)
     clear hK K
     refine norm_ (a' := ?_) ?_ ?_
     rotate_left
     ·show Act.put _ (some 12) _ = _
      simp only [Act.put, List.setIfInBounds_toArray, List.set_cons_zero, List.set_cons_succ, i64_w, i32_w]
      rfl
     refine one_ (i := 7) (N := some 17) #[true, true, true, true, true, true, true, true, false, false, false] rfl rfl (one_of HT_.out (by kernel_rfl)) (by decide) (fun K hK => ?_)
     refine Kd.R_lit_step (Kd.int .u8) _ 5 ?hg (N := 17) ?hd (xs := ([(IntKind.u64.wrap (48 + (Int.tmod a0 10))) % 256] : List Int)) (inner := [.int .u8 ((IntKind.u64.wrap (48 + (Int.tmod a0 10))) % 256)]) (ok := fun _ => True) (okp := fun _ => True) ?hr ?hp (fun _ hk => hk) trivial (Below.refl _ _) (Nat.le_refl _) (by simp) ?_; (case hd => rfl); (case hg => rfl); (case hr => first | (go_simp; done) | (go_simp; rfl)); (case hp => exact (Reps.one (show Kd.M (Kd.int .u8) _ _ _ ((IntKind.u64.wrap (48 + (Int.tmod a0 10))) % 256) [.int .u8 ((IntKind.u64.wrap (48 + (Int.tmod a0 10))) % 256)] from rfl) (Reps.none _ _)))
     intro v207 w10 ho11 hb hg_ hnew_
     clear hg_ hnew_
     (first | rw [← Ny206.out] at ho11 | (simp only [Int.reduceToNat] at ho11; rw [← Ny206.out] at ho11))
     have n0_ := Aside0.mk (Kd.R_lower ho11 (bsz (by repeat (first | (with_reducible first | exact HB.out | apply bal | apply pbN | apply bd1) | exact HB.out))))
     have n1_ := Aside0.mk (bsp (by repeat (first | (with_reducible first | exact HB.out | apply bal | apply pbN | apply bd1) | exact HB.out)) hb)
     clear HB
     have HO208 := n0_;have HB := n1_
     clear n0_ n1_
     clear hb ho11
     refine hK.out _ _ trivial (fun hHeld => ?_)
     clear hK K
     refine norm_ (a' := ?_) ?_ ?_
     rotate_left
     ·show Act.put _ (some 17) _ = _
      simp only [Act.put, List.setIfInBounds_toArray, List.set_cons_zero, List.set_cons_succ, i64_w, i32_w]
      rfl
     refine one_ (i := 8) (N := some 18) #[true, true, true, true, true, true, true, true, true, false, false] rfl rfl (one_of HT_.out (by kernel_rfl)) (by decide) (fun K hK => ?_)
     have hcv12 := own_string (P := Tryz.prog) Tryz.underlying97 Tryz.underlying5 Tryz.underlying9 (Kd.own_of_R HO208.out)
     refine value_ (w1 := ?_) (v := ?_) (by rfl) rfl ?_ ?_
     rotate_left 2
     ·go_simp
      constructor
      ·rfl
      ·rfl
     clear hcv12
     refine hK.out _ _ trivial (fun hHeld => ?_)
     clear hK K
     refine norm_ (a' := ?_) ?_ ?_
     rotate_left
     ·show Act.put _ (some 18) _ = _
      simp only [Act.put, List.setIfInBounds_toArray, List.set_cons_zero, List.set_cons_succ, i64_w, i32_w]
      rfl
     exact norm_ (by simp only [putAll, Act.put, List.setIfInBounds_toArray, List.set_cons_zero, List.set_cons_succ]) (hCont (v207) _ ⟨(by (with_reducible repeat (first | apply Kd.R_alloc | apply Kd.R_drewN | apply Kd.R_drew)); exact HO208.out), (by repeat (first | (with_reducible first | exact HB.out | apply bal | apply pbN | apply bd1) | exact HB.out))⟩)
    ·skip
     refine Kd.R_lit_step (Kd.int .u8) _ 5 ?hg (N := 17) ?hd (xs := ([(IntKind.u64.wrap (48 + (Int.tmod a0 10))) % 256] : List Int)) (inner := [.int .u8 ((IntKind.u64.wrap (48 + (Int.tmod a0 10))) % 256)]) (ok := fun _ => True) (okp := fun _ => True) ?hr ?hp (fun _ hk => hk) trivial (Below.refl _ _) (Nat.le_refl _) (by simp) ?_; (case hd => rfl); (case hg => rfl); (case hr => first | (go_simp; done) | (go_simp; rfl)); (case hp => exact (Reps.one (show Kd.M (Kd.int .u8) _ _ _ ((IntKind.u64.wrap (48 + (Int.tmod a0 10))) % 256) [.int .u8 ((IntKind.u64.wrap (48 + (Int.tmod a0 10))) % 256)] from rfl) (Reps.none _ _)))
     intro v207 w9 ho10 hb hg_ hnew_
     clear hg_ hnew_
     (first | rw [← Ny206.out] at ho10 | (simp only [Int.reduceToNat] at ho10; rw [← Ny206.out] at ho10))
     have n0_ := Aside0.mk (Kd.R_lower ho10 (bsz (by repeat (first | (with_reducible first | exact HB.out | apply bal | apply pbN | apply bd1) | exact HB.out))))
     have n1_ := Aside0.mk (bsp (by repeat (first | (with_reducible first | exact HB.out | apply bal | apply pbN | apply bd1) | exact HB.out)) hb)
     clear HB
     have HO208 := n0_;have HB := n1_
     clear n0_ n1_
     clear hb ho10
     refine hK.out _ _ trivial (fun hHeld => ?_)
     clear hK K
     refine norm_ (a' := ?_) ?_ ?_
     rotate_left
     ·show Act.put _ (some 17) _ = _
      simp only [Act.put, List.setIfInBounds_toArray, List.set_cons_zero, List.set_cons_succ, i64_w, i32_w]
      rfl
     refine two_ (i := 2) (j := 8) (Ni := some 12) (Nj := some 18) #[true, true, true, true, true, true, true, true, false, false, false] #[true, true, false, true, true, true, true, true, true, false, false] rfl rfl rfl rfl (two_of HT_.out (by kernel_rfl)) (by decide) (by decide) (fun K hK => ?_) (fun K hK => ?_)
     ·skip
      refine goes_ Tryz.func70 (by kernel_rfl) rfl #[.int .u64 (IntKind.u64.wrap (Int.tdiv a0 10))] (by rfl) rfl rfl (by (try simp only [List.map_toArray, List.map_cons, List.map_nil]); first | done | rfl | (simp only [List.length_drop, List.length_take]; rfl)) ?_
      with_reducible refine (ih k (by omega) (IntKind.u64.wrap (Int.tdiv a0 10)) t205 _ A6.out).mono ?_
      rintro e w11 ⟨rfl, hb⟩
      refine ⟨_, rfl, ?_⟩
      have n0_ := Aside0.mk (Kd.R_below (by (with_reducible repeat (first | apply Kd.R_alloc | apply Kd.R_drewN | apply Kd.R_drew)); exact HO208.out) hb)
      have n1_ := Aside0.mk (bsp (by repeat (first | (with_reducible first | exact HB.out | apply bal | apply pbN | apply bd1) | exact HB.out)) hb)
      clear HO208 HB
      have HO208 := n0_;have HB := n1_
      clear n0_ n1_
      (try clear hb);(try clear hb2);(try clear hk);(try clear hi)
      refine hK.out _ _ trivial (fun hHeld => ?_)
      clear hK K
      refine norm_ (a' := ?_) ?_ ?_
      rotate_left
      ·show Act.put _ (some 12) _ = _
       simp only [Act.put, List.setIfInBounds_toArray, List.set_cons_zero, List.set_cons_succ, i64_w, i32_w]
       rfl
      refine one_ (i := 8) (N := some 18) #[true, true, true, true, true, true, true, true, true, false, false] rfl rfl (one_of HT_.out (by kernel_rfl)) (by decide) (fun K hK => ?_)
      have hcv12 := own_string (P := Tryz.prog) Tryz.underlying97 Tryz.underlying5 Tryz.underlying9 (Kd.own_of_R HO208.out)
      refine value_ (w1 := ?_) (v := ?_) (by rfl) rfl ?_ ?_
      rotate_left 2
      ·go_simp
       constructor
       ·rfl
       ·rfl
      clear hcv12
      refine hK.out _ _ trivial (fun hHeld => ?_)
      clear hK K
      refine norm_ (a' := ?_) ?_ ?_
      rotate_left
      ·show Act.put _ (some 18) _ = _
       simp only [Act.put, List.setIfInBounds_toArray, List.set_cons_zero, List.set_cons_succ, i64_w, i32_w]
       rfl
      exact norm_ (by simp only [putAll, Act.put, List.setIfInBounds_toArray, List.set_cons_zero, List.set_cons_succ]) (hCont (v207) _ ⟨(by (with_reducible repeat (first | apply Kd.R_alloc | apply Kd.R_drewN | apply Kd.R_drew)); exact HO208.out), (by repeat (first | (with_reducible first | exact HB.out | apply bal | apply pbN | apply bd1) | exact HB.out))⟩)
     ·skip
      have hcv11 := own_string (P := Tryz.prog) Tryz.underlying97 Tryz.underlying5 Tryz.underlying9 (Kd.own_of_R HO208.out)
      refine value_ (w1 := ?_) (v := ?_) (by rfl) rfl ?_ ?_
      rotate_left 2
      ·go_simp
       constructor
       ·rfl
       ·rfl
      clear hcv11
      refine hK.out _ _ trivial (fun hHeld => ?_)
      clear hK K
      refine norm_ (a' := ?_) ?_ ?_
      rotate_left
      ·show Act.put _ (some 18) _ = _
       simp only [Act.put, List.setIfInBounds_toArray, List.set_cons_zero, List.set_cons_succ, i64_w, i32_w]
       rfl
      refine one_ (i := 2) (N := some 12) #[true, true, true, true, true, true, true, true, true, false, false] rfl rfl (one_of HT_.out (by kernel_rfl)) (by decide) (fun K hK => ?_)
      refine goes_ Tryz.func70 (by kernel_rfl) rfl #[.int .u64 (IntKind.u64.wrap (Int.tdiv a0 10))] (by rfl) rfl rfl (by (try simp only [List.map_toArray, List.map_cons, List.map_nil]); first | done | rfl | (simp only [List.length_drop, List.length_take]; rfl)) ?_
      with_reducible refine (ih k (by omega) (IntKind.u64.wrap (Int.tdiv a0 10)) t205 _ A6.out).mono ?_
      rintro e w12 ⟨rfl, hb⟩
      refine ⟨_, rfl, ?_⟩
      have n0_ := Aside0.mk (Kd.R_below (by (with_reducible repeat (first | apply Kd.R_alloc | apply Kd.R_drewN | apply Kd.R_drew)); exact HO208.out) hb)
      have n1_ := Aside0.mk (bsp (by repeat (first | (with_reducible first | exact HB.out | apply bal | apply pbN | apply bd1) | exact HB.out)) hb)
      clear HO208 HB
      have HO208 := n0_;have HB := n1_
      clear n0_ n1_
      (try clear hb);(try clear hb2);(try clear hk);(try clear hi)
      refine hK.out _ _ trivial (fun hHeld => ?_)
      clear hK K
      refine norm_ (a' := ?_) ?_ ?_
      rotate_left
      ·show Act.put _ (some 12) _ = _
       simp only [Act.put, List.setIfInBounds_toArray, List.set_cons_zero, List.set_cons_succ, i64_w, i32_w]
       rfl
      exact norm_ (by simp only [putAll, Act.put, List.setIfInBounds_toArray, List.set_cons_zero, List.set_cons_succ]) (hCont (v207) _ ⟨(by (with_reducible repeat (first | apply Kd.R_alloc | apply Kd.R_drewN | apply Kd.R_drew)); exact HO208.out), (by repeat (first | (with_reducible first | exact HB.out | apply bal | apply pbN | apply bd1) | exact HB.out))⟩)
   rintro v207 w13 ⟨h0_, h1_⟩
   have n0_ : Aside0 (Kd.R (Kd.int .u8) 5 w13 w.heap.size (fun _ => True) v207 y206) := ⟨h0_⟩
   have n1_ : Aside0 (Below w.heap.size w w13) := ⟨h1_⟩
   clear HB
   clear h0_ h1_
   have HO208 := n0_;have HB := n1_
   clear n0_ n1_
   have hHeld := trivial
   refine norm_ (a' := ?_) ?_ ?_
   rotate_left
   ·simp only [putAll, Act.put, List.setIfInBounds_toArray, List.set_cons_zero, List.set_cons_succ]
    rfl
   refine pure_ (i := 9) (N := some 19) (v := ?_) (a' := ?_) #[true, true, true, true, true, true, true, true, true, true, false] rfl rfl (any_of HT_.out (by kernel_rfl)) (fun _ _ _ h => h) (Or.inl ⟨by rfl, ?_⟩) ?_ ?_
   rotate_left
   ·intro w'
    go_simp
    with_reducible rfl
   rotate_left
   ·simp only [Act.put, List.setIfInBounds_toArray, List.set_cons_zero, List.set_cons_succ, i64_w, i32_w]
    rfl
   refine pure_ (i := 10) (N := some 2) (v := ?_) (a' := ?_) #[true, true, true, true, true, true, true, true, true, true, true] rfl rfl (any_of HT_.out (by kernel_rfl)) (fun _ _ _ h => h) (Or.inl ⟨by rfl, ?_⟩) ?_ ?_
   rotate_left
   ·intro w'
    go_simp
    with_reducible rfl
   rotate_left
   ·simp only [Act.put, List.setIfInBounds_toArray, List.set_cons_zero, List.set_cons_succ, i64_w, i32_w]
    rfl
   refine done_ (done_of HT_.out (by kernel_rfl)) ?_
   try go_wp2
   go_ret
   exact ⟨by first | rfl | (simp [errW_none, errW_some] <;> rfl) | (simp [*, errW_none, errW_some] <;> rfl), by repeat (first | (with_reducible first | exact HB.out | apply bal | apply pbN | apply bd1) | exact HB.out)⟩
  ·rw [if_neg c7] at H
   exact absurd H (by simp)

end Go.Proofs.YtikbgoppmailjaaGreatDoor.H
