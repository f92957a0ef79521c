/- Parts of the proof of LawGuardParses: words, contracts of the functions, plain laws. -/
import Derived.Test.YtikbgoppmailjaaGreatDoorPA02
import Derived.Test.YtikbgoppmailjaaGreatDoorPA05
import Derived.Test.YtikbgoppmailjaaGreatDoorPA03
import Derived.KernelRfl
-- Written by hp.py (a program of this session, over the kit's print.py), with hand-made contracts beside it.
namespace Go.Proofs.YtikbgoppmailjaaGreatDoor.H
open Go.RowKit Go.Proofs.YtikbgoppmailjaaGreatDoorW.PrintWords Go.Proofs.YtikbgoppmailjaaGreatDoorW.PrintLast Go.Proofs.YtikbgoppmailjaaGreatDoorW.PrintMore
attribute [local go_sem] max2_int min2_int max_two min_two max_three min_three max_four min_four   -- for this text's walks alone
set_option linter.unusedVariables false
set_option linter.unusedSimpArgs false

/-! ### remontoirref13_Lex: function 19 -/
mutual
def remontoirref13_Lex.l0 : Nat → ByteArray → List (S39) → Int → Option ((List (S39)) × Int)
  | 0, _, _, _ => none
  | k + 1, x0, x4, x5 => if x5 < (x0.size : Int) then (if 0 ≤ x5 then (if (bt x0 x5) = 32 then (remontoirref13_Lex.l0 k x0 x4 (wrap64 (x5 + 1))) else (if (bt x0 x5) ≥ 97 then (remontoirref13_Lex.j1 k x0 x4 x5 (bt x0 x5) (decide ((bt x0 x5) ≤ 122))) else (remontoirref13_Lex.j1 k x0 x4 x5 (bt x0 x5) false))) else (none)) else (some (x4, 0))
def remontoirref13_Lex.j1 : Nat → ByteArray → List (S39) → Int → Int → Bool → Option ((List (S39)) × Int)
  | 0, _, _, _, _, _ => none
  | k + 1, x0, x4, x5, x6, x31 => if x31 = true then (if x4.length < 8796093022208 then (remontoirref13_Lex.l0 k x0 (x4 ++ [(⟨2, (x6 - 97) % 256⟩ : S39)]) (wrap64 (x5 + 1))) else (none)) else (if x6 ≥ 48 then (remontoirref13_Lex.j2 k x0 x4 x5 x6 (decide (x6 ≤ 57))) else (remontoirref13_Lex.j2 k x0 x4 x5 x6 false))
def remontoirref13_Lex.j2 : Nat → ByteArray → List (S39) → Int → Int → Bool → Option ((List (S39)) × Int)
  | 0, _, _, _, _, _ => none
  | k + 1, x0, x4, x5, x6, x46 => if x46 = true then (remontoirref13_Lex.l1 k x0 x4 x5 x6 x5 0) else (remontoirref13_Lex.l2 k x0 x4 x5 0 3)
def remontoirref13_Lex.j4 : Nat → ByteArray → List (S39) → Int → Int → Int → Int → Option ((List (S39)) × Int)
  | 0, _, _, _, _, _, _ => none
  | k + 1, x0, x4, x5, x6, x7, x8 => if x6 = 48 then (remontoirref13_Lex.j5 k x0 x4 x7 x8 (decide (x7 > (wrap64 (x5 + 1))))) else (remontoirref13_Lex.j5 k x0 x4 x7 x8 false)
def remontoirref13_Lex.j5 : Nat → ByteArray → List (S39) → Int → Int → Bool → Option ((List (S39)) × Int)
  | 0, _, _, _, _, _ => none
  | k + 1, x0, x4, x7, x8, x82 => if x82 = true then (some (([] : List (S39)), 2)) else (if x8 > 2147483647 then (some (([] : List (S39)), 3)) else (if x4.length < 8796093022208 then (remontoirref13_Lex.l0 k x0 (x4 ++ [(⟨1, x8⟩ : S39)]) x7) else (none)))
def remontoirref13_Lex.l1 : Nat → ByteArray → List (S39) → Int → Int → Int → Int → Option ((List (S39)) × Int)
  | 0, _, _, _, _, _, _ => none
  | k + 1, x0, x4, x5, x6, x7, x8 => if x7 < (x0.size : Int) then (if 0 ≤ x7 then (if (bt x0 x7) ≥ 48 then (if (bt x0 x7) ≤ 57 then (remontoirref13_Lex.l1 k x0 x4 x5 x6 (wrap64 (x7 + 1)) (mn (wrap64 ((wrap64 (10 * x8)) + (((bt x0 x7) - 48) % 256))) 2147483648)) else (remontoirref13_Lex.j4 k x0 x4 x5 x6 x7 x8)) else (remontoirref13_Lex.j4 k x0 x4 x5 x6 x7 x8)) else (none)) else (remontoirref13_Lex.j4 k x0 x4 x5 x6 x7 x8)
def remontoirref13_Lex.l2 : Nat → ByteArray → List (S39) → Int → Int → Int → Option ((List (S39)) × Int)
  | 0, _, _, _, _, _ => none
  | k + 1, x0, x4, x5, x9, x10 => if x10 ≤ 18 then ((remontoirref13_of.f x10).bind fun t183 => (if (wrap64 ((x0.size : Int) - x5)) ≥ (t183.size : Int) then (if 0 ≤ x5 then (if x5 ≤ (wrap64 (x5 + (t183.size : Int))) then (if (wrap64 (x5 + (t183.size : Int))) ≤ (x0.size : Int) then (if (x0.extract (x5 : Int).toNat ((wrap64 (x5 + (t183.size : Int))) : Int).toNat).toList = t183.toList then (if x9 = 0 then (remontoirref13_Lex.l2 k x0 x4 x5 x10 (wrap64 (x10 + 1))) else ((remontoirref13_of.f x9).bind fun t184 => (if (t183.size : Int) > (t184.size : Int) then (remontoirref13_Lex.l2 k x0 x4 x5 x10 (wrap64 (x10 + 1))) else (remontoirref13_Lex.l2 k x0 x4 x5 x9 (wrap64 (x10 + 1)))))) else (remontoirref13_Lex.l2 k x0 x4 x5 x9 (wrap64 (x10 + 1)))) else (none)) else (none)) else (none)) else (remontoirref13_Lex.l2 k x0 x4 x5 x9 (wrap64 (x10 + 1))))) else (if x9 = 0 then (some (([] : List (S39)), 2)) else (if x4.length < 8796093022208 then ((remontoirref13_of.f x9).bind fun t182 => (remontoirref13_Lex.l0 k x0 (x4 ++ [(⟨x9, 0⟩ : S39)]) (wrap64 (x5 + (t182.size : Int))))) else (none)))
end
def remontoirref13_Lex.f (k : Nat) (a0 : ByteArray) : Option ((List (S39)) × Int) := if (a0.size : Int) > 60 then (some (([] : List (S39)), 15)) else (remontoirref13_Lex.l0 k a0 ([] : List (S39)) 0)
theorem remontoirref13_Lex.mono_l : ∀ k, (∀ y0 y1 y2, LeO (remontoirref13_Lex.l0 k y0 y1 y2) (remontoirref13_Lex.l0 (k + 1) y0 y1 y2)) ∧ (∀ y0 y1 y2 y3 y4, LeO (remontoirref13_Lex.j1 k y0 y1 y2 y3 y4) (remontoirref13_Lex.j1 (k + 1) y0 y1 y2 y3 y4)) ∧ (∀ y0 y1 y2 y3 y4, LeO (remontoirref13_Lex.j2 k y0 y1 y2 y3 y4) (remontoirref13_Lex.j2 (k + 1) y0 y1 y2 y3 y4)) ∧ (∀ y0 y1 y2 y3 y4 y5, LeO (remontoirref13_Lex.j4 k y0 y1 y2 y3 y4 y5) (remontoirref13_Lex.j4 (k + 1) y0 y1 y2 y3 y4 y5)) ∧ (∀ y0 y1 y2 y3 y4, LeO (remontoirref13_Lex.j5 k y0 y1 y2 y3 y4) (remontoirref13_Lex.j5 (k + 1) y0 y1 y2 y3 y4)) ∧ (∀ y0 y1 y2 y3 y4 y5, LeO (remontoirref13_Lex.l1 k y0 y1 y2 y3 y4 y5) (remontoirref13_Lex.l1 (k + 1) y0 y1 y2 y3 y4 y5)) ∧ (∀ y0 y1 y2 y3 y4, LeO (remontoirref13_Lex.l2 k y0 y1 y2 y3 y4) (remontoirref13_Lex.l2 (k + 1) y0 y1 y2 y3 y4))
  | 0 => ⟨fun _ _ _ r h => by simp [remontoirref13_Lex.l0] at h, fun _ _ _ _ _ r h => by simp [remontoirref13_Lex.j1] at h, fun _ _ _ _ _ r h => by simp [remontoirref13_Lex.j2] at h, fun _ _ _ _ _ _ r h => by simp [remontoirref13_Lex.j4] at h, fun _ _ _ _ _ r h => by simp [remontoirref13_Lex.j5] at h, fun _ _ _ _ _ _ r h => by simp [remontoirref13_Lex.l1] at h, fun _ _ _ _ _ r h => by simp [remontoirref13_Lex.l2] at h⟩
  | k + 1 => by
    obtain ⟨ih0, ih1, ih2, ih3, ih4, ih5, ih6⟩ := remontoirref13_Lex.mono_l k
    refine ⟨?_, ?_, ?_, ?_, ?_, ?_, ?_⟩
    · intro y0 y1 y2
      unfold remontoirref13_Lex.l0
      repeat' first
      | (with_reducible exact ih0 _ _ _)
      | (with_reducible exact ih1 _ _ _ _ _)
      | (with_reducible exact ih2 _ _ _ _ _)
      | (with_reducible exact ih3 _ _ _ _ _ _)
      | (with_reducible exact ih4 _ _ _ _ _)
      | (with_reducible exact ih5 _ _ _ _ _ _)
      | (with_reducible exact ih6 _ _ _ _ _)
      | (with_reducible exact LeO.refl _)
      | (with_reducible exact LeO.none _)
      | (with_reducible refine LeO.ite ?_ ?_)
      | (with_reducible refine LeO.bind ?_ (fun _ => ?_))
      | exact ih0 _ _ _
      | exact ih1 _ _ _ _ _
      | exact ih2 _ _ _ _ _
      | exact ih3 _ _ _ _ _ _
      | exact ih4 _ _ _ _ _
      | exact ih5 _ _ _ _ _ _
      | exact ih6 _ _ _ _ _
      | exact LeO.none _
      | refine LeO.ite ?_ ?_
      | refine LeO.bind ?_ (fun _ => ?_)
    · intro y0 y1 y2 y3 y4
      unfold remontoirref13_Lex.j1
      repeat' first
      | (with_reducible exact ih0 _ _ _)
      | (with_reducible exact ih1 _ _ _ _ _)
      | (with_reducible exact ih2 _ _ _ _ _)
      | (with_reducible exact ih3 _ _ _ _ _ _)
      | (with_reducible exact ih4 _ _ _ _ _)
      | (with_reducible exact ih5 _ _ _ _ _ _)
      | (with_reducible exact ih6 _ _ _ _ _)
      | (with_reducible exact LeO.refl _)
      | (with_reducible exact LeO.none _)
      | (with_reducible refine LeO.ite ?_ ?_)
      | (with_reducible refine LeO.bind ?_ (fun _ => ?_))
      | exact ih0 _ _ _
      | exact ih1 _ _ _ _ _
      | exact ih2 _ _ _ _ _
      | exact ih3 _ _ _ _ _ _
      | exact ih4 _ _ _ _ _
      | exact ih5 _ _ _ _ _ _
      | exact ih6 _ _ _ _ _
      | exact LeO.none _
      | refine LeO.ite ?_ ?_
      | refine LeO.bind ?_ (fun _ => ?_)
    · intro y0 y1 y2 y3 y4
      unfold remontoirref13_Lex.j2
      repeat' first
      | (with_reducible exact ih0 _ _ _)
      | (with_reducible exact ih1 _ _ _ _ _)
      | (with_reducible exact ih2 _ _ _ _ _)
      | (with_reducible exact ih3 _ _ _ _ _ _)
      | (with_reducible exact ih4 _ _ _ _ _)
      | (with_reducible exact ih5 _ _ _ _ _ _)
      | (with_reducible exact ih6 _ _ _ _ _)
      | (with_reducible exact LeO.refl _)
      | (with_reducible exact LeO.none _)
      | (with_reducible refine LeO.ite ?_ ?_)
      | (with_reducible refine LeO.bind ?_ (fun _ => ?_))
      | exact ih0 _ _ _
      | exact ih1 _ _ _ _ _
      | exact ih2 _ _ _ _ _
      | exact ih3 _ _ _ _ _ _
      | exact ih4 _ _ _ _ _
      | exact ih5 _ _ _ _ _ _
      | exact ih6 _ _ _ _ _
      | exact LeO.none _
      | refine LeO.ite ?_ ?_
      | refine LeO.bind ?_ (fun _ => ?_)
    · intro y0 y1 y2 y3 y4 y5
      unfold remontoirref13_Lex.j4
      repeat' first
      | (with_reducible exact ih0 _ _ _)
      | (with_reducible exact ih1 _ _ _ _ _)
      | (with_reducible exact ih2 _ _ _ _ _)
      | (with_reducible exact ih3 _ _ _ _ _ _)
      | (with_reducible exact ih4 _ _ _ _ _)
      | (with_reducible exact ih5 _ _ _ _ _ _)
      | (with_reducible exact ih6 _ _ _ _ _)
      | (with_reducible exact LeO.refl _)
      | (with_reducible exact LeO.none _)
      | (with_reducible refine LeO.ite ?_ ?_)
      | (with_reducible refine LeO.bind ?_ (fun _ => ?_))
      | exact ih0 _ _ _
      | exact ih1 _ _ _ _ _
      | exact ih2 _ _ _ _ _
      | exact ih3 _ _ _ _ _ _
      | exact ih4 _ _ _ _ _
      | exact ih5 _ _ _ _ _ _
      | exact ih6 _ _ _ _ _
      | exact LeO.none _
      | refine LeO.ite ?_ ?_
      | refine LeO.bind ?_ (fun _ => ?_)
    · intro y0 y1 y2 y3 y4
      unfold remontoirref13_Lex.j5
      repeat' first
      | (with_reducible exact ih0 _ _ _)
      | (with_reducible exact ih1 _ _ _ _ _)
      | (with_reducible exact ih2 _ _ _ _ _)
      | (with_reducible exact ih3 _ _ _ _ _ _)
      | (with_reducible exact ih4 _ _ _ _ _)
      | (with_reducible exact ih5 _ _ _ _ _ _)
      | (with_reducible exact ih6 _ _ _ _ _)
      | (with_reducible exact LeO.refl _)
      | (with_reducible exact LeO.none _)
      | (with_reducible refine LeO.ite ?_ ?_)
      | (with_reducible refine LeO.bind ?_ (fun _ => ?_))
      | exact ih0 _ _ _
      | exact ih1 _ _ _ _ _
      | exact ih2 _ _ _ _ _
      | exact ih3 _ _ _ _ _ _
      | exact ih4 _ _ _ _ _
      | exact ih5 _ _ _ _ _ _
      | exact ih6 _ _ _ _ _
      | exact LeO.none _
      | refine LeO.ite ?_ ?_
      | refine LeO.bind ?_ (fun _ => ?_)
    · intro y0 y1 y2 y3 y4 y5
      unfold remontoirref13_Lex.l1
      repeat' first
      | (with_reducible exact ih0 _ _ _)
      | (with_reducible exact ih1 _ _ _ _ _)
      | (with_reducible exact ih2 _ _ _ _ _)
      | (with_reducible exact ih3 _ _ _ _ _ _)
      | (with_reducible exact ih4 _ _ _ _ _)
      | (with_reducible exact ih5 _ _ _ _ _ _)
      | (with_reducible exact ih6 _ _ _ _ _)
      | (with_reducible exact LeO.refl _)
      | (with_reducible exact LeO.none _)
      | (with_reducible refine LeO.ite ?_ ?_)
      | (with_reducible refine LeO.bind ?_ (fun _ => ?_))
      | exact ih0 _ _ _
      | exact ih1 _ _ _ _ _
      | exact ih2 _ _ _ _ _
      | exact ih3 _ _ _ _ _ _
      | exact ih4 _ _ _ _ _
      | exact ih5 _ _ _ _ _ _
      | exact ih6 _ _ _ _ _
      | exact LeO.none _
      | refine LeO.ite ?_ ?_
      | refine LeO.bind ?_ (fun _ => ?_)
    · intro y0 y1 y2 y3 y4
      unfold remontoirref13_Lex.l2
      repeat' first
      | (with_reducible exact ih0 _ _ _)
      | (with_reducible exact ih1 _ _ _ _ _)
      | (with_reducible exact ih2 _ _ _ _ _)
      | (with_reducible exact ih3 _ _ _ _ _ _)
      | (with_reducible exact ih4 _ _ _ _ _)
      | (with_reducible exact ih5 _ _ _ _ _ _)
      | (with_reducible exact ih6 _ _ _ _ _)
      | (with_reducible exact LeO.refl _)
      | (with_reducible exact LeO.none _)
      | (with_reducible refine LeO.ite ?_ ?_)
      | (with_reducible refine LeO.bind ?_ (fun _ => ?_))
      | exact ih0 _ _ _
      | exact ih1 _ _ _ _ _
      | exact ih2 _ _ _ _ _
      | exact ih3 _ _ _ _ _ _
      | exact ih4 _ _ _ _ _
      | exact ih5 _ _ _ _ _ _
      | exact ih6 _ _ _ _ _
      | exact LeO.none _
      | refine LeO.ite ?_ ?_
      | refine LeO.bind ?_ (fun _ => ?_)
theorem remontoirref13_Lex.mono : ∀ a0 k, LeO (remontoirref13_Lex.f k a0) (remontoirref13_Lex.f (k + 1) a0) := by
  intro a0 k
  obtain ⟨ih0, ih1, ih2, ih3, ih4, ih5, ih6⟩ := remontoirref13_Lex.mono_l k
  unfold remontoirref13_Lex.f
  repeat' first
      | (with_reducible exact ih0 _ _ _)
      | (with_reducible exact ih1 _ _ _ _ _)
      | (with_reducible exact ih2 _ _ _ _ _)
      | (with_reducible exact ih3 _ _ _ _ _ _)
      | (with_reducible exact ih4 _ _ _ _ _)
      | (with_reducible exact ih5 _ _ _ _ _ _)
      | (with_reducible exact ih6 _ _ _ _ _)
      | (with_reducible exact LeO.refl _)
      | (with_reducible exact LeO.none _)
      | (with_reducible refine LeO.ite ?_ ?_)
      | (with_reducible refine LeO.bind ?_ (fun _ => ?_))
      | exact ih0 _ _ _
      | exact ih1 _ _ _ _ _
      | exact ih2 _ _ _ _ _
      | exact ih3 _ _ _ _ _ _
      | exact ih4 _ _ _ _ _
      | exact ih5 _ _ _ _ _ _
      | exact ih6 _ _ _ _ _
      | exact LeO.none _
      | refine LeO.ite ?_ ?_
      | refine LeO.bind ?_ (fun _ => ?_)
set_option maxHeartbeats 8000000 in
set_option maxRecDepth 100000 in
theorem remontoirref13_Lex.calls (k : Nat) (a0 : ByteArray) (r1 : List (S39)) (r2 : Int) (w : World) (h : remontoirref13_Lex.f k a0 = some (r1, r2)) :
    Calls Tryz.prog 19 #[.string a0] w fun e w' => ∃ v0_ : Value, e = .returned (.tuple #[v0_, .int .i64 r2]) ∧ Kd.R k39 39 w' w.heap.size (fun _ => True) v0_ r1 ∧ Below w.heap.size w w' := by
  have hu39 := Tryz.underlying39
  have HB := Aside0.mk (Below.refl w.heap.size w)
  have H : (if (a0.size : Int) > 60 then (some (([] : List (S39)), 15)) else (remontoirref13_Lex.l0 k a0 ([] : List (S39)) 0)) = some (r1, r2) := h
  clear h
  by_cases c2 : (a0.size : Int) > 60
  · rw [if_pos c2] at H
    have c2b0 : decide (60 < (a0.size : Int)) = true := decide_eq_true c2
    have c2b1 : decide (60 < a0.size) = true := decide_eq_true (by omega)
    clear c2
    simp only [Option.some.injEq, Prod.mk.injEq] at H
    obtain ⟨rfl, rfl⟩ := H
    go_enter Tryz.func19, Tryz.ntmps19
    go_wp2
    go_ret2
    exact ⟨_, by first | rfl | (simp [errW_none, errW_some] <;> rfl) | (simp [*, errW_none, errW_some] <;> rfl), by first | exact Kd.R_nil _ _ _ _ _ | exact Kd.N_nil _ _ _ _ _ | exact Kd.V_nil _ _ _ _ _ | exact Kd.Q_nil _ _ _ _ _ | exact Kd.S_nil _ _ _ _ _, by repeat (first | (with_reducible first | exact HB.out | apply below_alloc | apply pw_below_drewN | apply below_drew1) | exact HB.out)⟩
  · rw [if_neg c2] at H
    have c2b0 : decide (60 < (a0.size : Int)) = false := decide_eq_false c2
    have c2b1 : decide (60 < a0.size) = false := decide_eq_false (by omega)
    clear c2
    have H' := Aside0.mk H
    clear H
    go_enter Tryz.func19, Tryz.ntmps19
    go_wp2
    go_loopg [4, 5] k (fun kq v4 v5 w' => ∃ (x4_1 : List (S39)) (x5_1 : Int), v5 = .int .i64 x5_1 ∧ Aside0 (remontoirref13_Lex.l0 kq a0 x4_1 x5_1 = some (r1, r2)) ∧ Aside0 (kq ≤ k) ∧ Aside0 (Kd.R k39 39 w' w.heap.size (fun _ => True) v4 x4_1) ∧ Aside0 (Below w.heap.size w w'))
    case atStart => exact ⟨(([] : List (S39))), (0), (by first | rfl | (simp; done) | (simp [*]; done)), H', ⟨Nat.le_refl _⟩, ⟨by first | exact Kd.R_nil _ _ _ _ _ | exact Kd.N_nil _ _ _ _ _ | exact Kd.V_nil _ _ _ _ _ | exact Kd.Q_nil _ _ _ _ _ | exact Kd.S_nil _ _ _ _ _⟩, ⟨by repeat (first | (with_reducible first | exact HB.out | apply below_alloc | apply pw_below_drewN | apply below_drew1) | exact HB.out)⟩⟩
    case round =>
      clear H'
      try clear c1
      try clear c2
      try clear c2b0
      try clear c2b1
      try clear p2
      obtain ⟨x4_1, x5_1, rfl, HA, HK1, HO_4, HB⟩ := hrel
      cases gk with
      | zero => exact absurd HA.out (by simp [remontoirref13_Lex.l0])
      | succ k1 =>
        have H := HA.out
        clear HA
        simp only [remontoirref13_Lex.l0] at H
        by_cases c3 : x5_1 < (a0.size : Int)
        · rw [if_pos c3] at H
          have c3b0 : decide (x5_1 < (a0.size : Int)) = true := decide_eq_true c3
          clear c3
          by_cases c4 : 0 ≤ x5_1
          · rw [if_pos c4] at H
            have c4b0 : decide (0 ≤ x5_1) = true := decide_eq_true c4
            clear c4
            by_cases c6 : (bt a0 x5_1) = 32
            · rw [if_pos c6] at H
              have c6b0 : ((bt a0 x5_1) == 32) = true := beq_iff_eq.mpr c6
              have c6b1 : ((bt a0 x5_1) != 32) = false := bne_eq_false_iff_eq.mpr c6
              clear c6
              have H' := Aside0.mk H
              clear H
              have p5 : 0 ≤ (x5_1 : Int) := of_decide_eq_true (by first | (with_reducible assumption) | assumption)
              have q5 : x5_1 < (a0.size : Int) := of_decide_eq_true (by first | (with_reducible assumption) | assumption)
              have hx5 := bt_at a0 x5_1
              replace p5 := eq_true p5
              replace q5 := eq_true q5
              go_wp2
              go_roundg k1
              case measure => have := HK1.out; omega
              case rel => exact ⟨(x4_1), (wrap64 (x5_1 + 1)), (by first | rfl | (simp; done) | (simp [*]; done)), H', ⟨by have := HK1.out; omega⟩, ⟨by (with_reducible repeat (first | apply Kd.R_alloc | apply Kd.R_drewN | apply Kd.R_drew)); exact HO_4.out⟩, ⟨by repeat (first | (with_reducible first | exact HB.out | apply below_alloc | apply pw_below_drewN | apply below_drew1) | exact HB.out)⟩⟩
            · rw [if_neg c6] at H
              have c6b0 : ((bt a0 x5_1) == 32) = false := beq_eq_false_iff_ne.mpr c6
              have c6b1 : ((bt a0 x5_1) != 32) = true := bne_iff_ne.mpr c6
              have HC7 := Aside0.mk H
              clear H
              have p5 : 0 ≤ (x5_1 : Int) := of_decide_eq_true (by first | (with_reducible assumption) | assumption)
              have q5 : x5_1 < (a0.size : Int) := of_decide_eq_true (by first | (with_reducible assumption) | assumption)
              have hx5 := bt_at a0 x5_1
              replace p5 := eq_true p5
              replace q5 := eq_true q5
              go_upto_region 9 with (fail)
              go_cut [31] (fun v31 wc => ∃ (kq : Nat) (x31_6 : Bool), v31 = .bool x31_6 ∧ Aside0 (remontoirref13_Lex.j1 kq a0 x4_1 x5_1 (bt a0 x5_1) x31_6 = some (r1, r2)) ∧ Aside0 (kq ≤ k1) ∧ Aside0 (Kd.R k39 39 wc w.heap.size (fun _ => True) u4 x4_1) ∧ Aside0 (Below w.heap.size w wc))
              case first =>
                have H := HC7.out
                clear HC7
                by_cases c8 : (bt a0 x5_1) ≥ 97
                · rw [if_pos c8] at H
                  have c8b0 : decide (97 ≤ (bt a0 x5_1)) = true := decide_eq_true c8
                  clear c8
                  (first | rw [c8b0] | (simp only [i64_w, i32_w]; rw [c8b0]) | skip)
                  have H' := Aside0.mk H
                  clear H
                  go_wp2
                  go_meet
                  case rel => exact ⟨_, (decide ((bt a0 x5_1) ≤ 122)), (by first | rfl | (simp; done) | (simp [*]; done)), H', ⟨by have := HK1.out; first | omega | exact Nat.le_refl _⟩, ⟨by (with_reducible repeat (first | apply Kd.R_alloc | apply Kd.R_drewN | apply Kd.R_drew)); exact HO_4.out⟩, ⟨by repeat (first | (with_reducible first | exact HB.out | apply below_alloc | apply pw_below_drewN | apply below_drew1) | exact HB.out)⟩⟩
                · rw [if_neg c8] at H
                  have c8b0 : decide (97 ≤ (bt a0 x5_1)) = false := decide_eq_false c8
                  clear c8
                  (first | rw [c8b0] | (simp only [i64_w, i32_w]; rw [c8b0]) | skip)
                  have H' := Aside0.mk H
                  clear H
                  go_wp2
                  go_meet
                  case rel => exact ⟨_, (false), (by first | rfl | (simp; done) | (simp [*]; done)), H', ⟨by have := HK1.out; first | omega | exact Nat.le_refl _⟩, ⟨by (with_reducible repeat (first | apply Kd.R_alloc | apply Kd.R_drewN | apply Kd.R_drew)); exact HO_4.out⟩, ⟨by repeat (first | (with_reducible first | exact HB.out | apply below_alloc | apply pw_below_drewN | apply below_drew1) | exact HB.out)⟩⟩
              case rest =>
                clear HC7
                try clear c1
                try clear c2
                try clear c2b0
                try clear c2b1
                try clear p2
                try clear c3
                try clear c3b0
                try clear c4
                try clear c4b0
                try clear p5
                try clear q5
                try clear hx5
                try clear c6
                try clear c6b0
                try clear c6b1
                try clear p6
                try clear c8
                try clear c8b0
                try clear p2
                try clear p5
                try clear q5
                obtain ⟨kq, x31_6, rfl, HA, HJ6, HO_4, HB⟩ := hcut
                cases kq with
                | zero => exact absurd HA.out (by simp [remontoirref13_Lex.j1])
                | succ kj6 =>
                  have H := HA.out
                  clear HA
                  simp only [remontoirref13_Lex.j1] at H
                  by_cases c9 : x31_6 = true
                  · subst c9
                    have H1 : (if x4_1.length < 8796093022208 then (remontoirref13_Lex.l0 kj6 a0 (x4_1 ++ [(⟨2, ((bt a0 x5_1) - 97) % 256⟩ : S39)]) (wrap64 (x5_1 + 1))) else (none)) = some (r1, r2) := by rw [if_pos rfl] at H; exact H
                    clear H
                    have H := H1
                    clear H1
                    by_cases c10 : x4_1.length < 8796093022208
                    · rw [if_pos c10] at H
                      have LMc10 := Aside0.mk c10
                      clear c10
                      obtain ⟨y173, hy173⟩ : ∃ y_ : List (S39), y_ = (x4_1 ++ [(⟨2, ((bt a0 x5_1) - 97) % 256⟩ : S39)]) := ⟨_, rfl⟩
                      replace H : (remontoirref13_Lex.l0 kj6 a0 y173 (wrap64 (x5_1 + 1))) = some (r1, r2) := by first | (rw [hy173]; with_reducible exact H) | (have H2_ := (Option.bind_some _ _).symm.trans H; rw [hy173]; with_reducible exact H2_) | (have H2_ := (Option.bind_some _ _).symm.trans H; with_reducible exact H2_) | with_reducible exact H | (rw [hy173]; exact H) | exact H
                      have Ny173 := Aside0.mk hy173
                      clear hy173
                      have H' := Aside0.mk H
                      clear H
                      go_wp2_with (first | ((with_reducible refine gate_builtin (b := .append) (xs := #[.tmp 32, .tmp 37]) rfl ?_); (try (refine gate_guard (by rfl) ?_; dsimp only)); at_builtin; refine Kd.R_append k39 (w0 := w) w.heap.size rfl (.tmp 32) (.tmp 37) 23 39 (.agg #[(.int .i64 0), (.int .i64 0)]) 16 rfl Tryz.underlying23 info39 rfl (by decide) (by omega) u4 x4_1 (⟨2, ((bt a0 x5_1) - 97) % 256⟩ : S39) [.int .i64 2, .int .i64 (((bt a0 x5_1) - 97) % 256)] (fun _ => True) (fun _ => False) rfl rfl ?aP (fun _ hk => hk.elim) ?aF ?aO ?aB ?aS ?aL ?_; (case aP => exact k39_mkM _ _ _ (⟨2, ((bt a0 x5_1) - 97) % 256⟩ : S39)); (case aB => exact (by repeat (first | (with_reducible first | exact HB.out | apply below_alloc | apply pw_below_drewN | apply below_drew1) | exact HB.out))); (case aF => exact (fun _ _ => trivial)); (case aO => exact (by (with_reducible repeat (first | apply Kd.R_alloc | apply Kd.R_drewN | apply Kd.R_drew)); exact HO_4.out)); (case aS => exact (below_size (by repeat (first | (with_reducible first | exact HB.out | apply below_alloc | apply pw_below_drewN | apply below_drew1) | exact HB.out)))); (case aL => have := LMc10.out; omega); intro v174 w11 ho hb hg hat; rw [← Ny173.out] at ho; have n0_ := Aside0.mk (hb); have n1_ := Aside0.mk (ho); clear HB; clear HO_4; have HB := n0_; have HO175 := n1_; clear n0_ n1_; clear ho hb hg hat))
                      go_roundg kj6
                      case measure => have := HK1.out; have := HJ6.out; omega
                      case rel => exact ⟨(y173), (wrap64 (x5_1 + 1)), (by first | rfl | (simp; done) | (simp [*]; done)), H', ⟨by have := HK1.out; have := HJ6.out; omega⟩, ⟨by (with_reducible repeat (first | apply Kd.R_alloc | apply Kd.R_drewN | apply Kd.R_drew)); exact HO175.out⟩, ⟨by repeat (first | (with_reducible first | exact HB.out | apply below_alloc | apply pw_below_drewN | apply below_drew1) | exact HB.out)⟩⟩
                    · rw [if_neg c10] at H
                      exact absurd H (by simp)
                  · replace c9 := Bool.eq_false_iff.mpr c9
                    subst c9
                    have H1 : (if (bt a0 x5_1) ≥ 48 then (remontoirref13_Lex.j2 kj6 a0 x4_1 x5_1 (bt a0 x5_1) (decide ((bt a0 x5_1) ≤ 57))) else (remontoirref13_Lex.j2 kj6 a0 x4_1 x5_1 (bt a0 x5_1) false)) = some (r1, r2) := by rw [if_neg (show ¬ (false = true) by decide)] at H; exact H
                    clear H
                    have H := H1
                    clear H1
                    have HC12 := Aside0.mk H
                    clear H
                    go_upto_region 12 with (fail)
                    go_cut [46] (fun v46 wc => ∃ (kq : Nat) (x46_11 : Bool), v46 = .bool x46_11 ∧ Aside0 (remontoirref13_Lex.j2 kq a0 x4_1 x5_1 (bt a0 x5_1) x46_11 = some (r1, r2)) ∧ Aside0 (kq ≤ kj6) ∧ Aside0 (Kd.R k39 39 wc w.heap.size (fun _ => True) u4 x4_1) ∧ Aside0 (Below w.heap.size w wc))
                    case first =>
                      have H := HC12.out
                      clear HC12
                      by_cases c13 : (bt a0 x5_1) ≥ 48
                      · rw [if_pos c13] at H
                        have c13b0 : decide (48 ≤ (bt a0 x5_1)) = true := decide_eq_true c13
                        clear c13
                        (first | rw [c13b0] | (simp only [i64_w, i32_w]; rw [c13b0]) | skip)
                        have H' := Aside0.mk H
                        clear H
                        go_wp2
                        go_meet
                        case rel => exact ⟨_, (decide ((bt a0 x5_1) ≤ 57)), (by first | rfl | (simp; done) | (simp [*]; done)), H', ⟨by have := HK1.out; have := HJ6.out; first | omega | exact Nat.le_refl _⟩, ⟨by (with_reducible repeat (first | apply Kd.R_alloc | apply Kd.R_drewN | apply Kd.R_drew)); exact HO_4.out⟩, ⟨by repeat (first | (with_reducible first | exact HB.out | apply below_alloc | apply pw_below_drewN | apply below_drew1) | exact HB.out)⟩⟩
                      · rw [if_neg c13] at H
                        have c13b0 : decide (48 ≤ (bt a0 x5_1)) = false := decide_eq_false c13
                        clear c13
                        (first | rw [c13b0] | (simp only [i64_w, i32_w]; rw [c13b0]) | skip)
                        have H' := Aside0.mk H
                        clear H
                        go_wp2
                        go_meet
                        case rel => exact ⟨_, (false), (by first | rfl | (simp; done) | (simp [*]; done)), H', ⟨by have := HK1.out; have := HJ6.out; first | omega | exact Nat.le_refl _⟩, ⟨by (with_reducible repeat (first | apply Kd.R_alloc | apply Kd.R_drewN | apply Kd.R_drew)); exact HO_4.out⟩, ⟨by repeat (first | (with_reducible first | exact HB.out | apply below_alloc | apply pw_below_drewN | apply below_drew1) | exact HB.out)⟩⟩
                    case rest =>
                      clear HC12
                      try clear c1
                      try clear c2
                      try clear c2b0
                      try clear c2b1
                      try clear p2
                      try clear c3
                      try clear c3b0
                      try clear c4
                      try clear c4b0
                      try clear p5
                      try clear q5
                      try clear hx5
                      try clear c6
                      try clear c6b0
                      try clear c6b1
                      try clear p6
                      try clear c8
                      try clear c8b0
                      try clear c9
                      try clear c10
                      try clear c13
                      try clear c13b0
                      try clear p2
                      try clear p5
                      try clear p6
                      try clear q5
                      obtain ⟨kq, x46_11, rfl, HA, HJ11, HO_4, HB⟩ := hcut
                      cases kq with
                      | zero => exact absurd HA.out (by simp [remontoirref13_Lex.j2])
                      | succ kj11 =>
                        have H := HA.out
                        clear HA
                        simp only [remontoirref13_Lex.j2] at H
                        by_cases c14 : x46_11 = true
                        · subst c14
                          have H1 : (remontoirref13_Lex.l1 kj11 a0 x4_1 x5_1 (bt a0 x5_1) x5_1 0) = some (r1, r2) := by rw [if_pos rfl] at H; exact H
                          clear H
                          have H := H1
                          clear H1
                          have HC15 := Aside0.mk H
                          clear H
                          go_upto_block 2 with (fail)
                          go_cut [7, 8] (fun v7 v8 wc => ∃ (kq : Nat) (x7_14 : Int) (x8_14 : Int), v7 = .int .i64 x7_14 ∧ v8 = .int .i64 x8_14 ∧ Aside0 (remontoirref13_Lex.j4 kq a0 x4_1 x5_1 (bt a0 x5_1) x7_14 x8_14 = some (r1, r2)) ∧ Aside0 (kq ≤ kj11) ∧ Aside0 (Kd.R k39 39 wc w.heap.size (fun _ => True) u4 x4_1) ∧ Aside0 (Below w.heap.size w wc))
                          case first =>
                            have H := HC15.out
                            clear HC15
                            have H' := Aside0.mk H
                            clear H
                            go_wp2
                            go_loopg [7, 8] kj11 (fun kq v7 v8 w' => ∃ (x7_4 : Int) (x8_4 : Int), v7 = .int .i64 x7_4 ∧ v8 = .int .i64 x8_4 ∧ Aside0 (remontoirref13_Lex.l1 kq a0 x4_1 x5_1 (bt a0 x5_1) x7_4 x8_4 = some (r1, r2)) ∧ Aside0 (kq ≤ kj11) ∧ Aside0 (Kd.R k39 39 w' w.heap.size (fun _ => True) u4 x4_1) ∧ Aside0 (Below w.heap.size w w'))
                            case atStart => exact ⟨(x5_1), (0), (by first | rfl | (simp; done) | (simp [*]; done)), (by first | rfl | (simp; done) | (simp [*]; done)), H', ⟨Nat.le_refl _⟩, ⟨by (with_reducible repeat (first | apply Kd.R_alloc | apply Kd.R_drewN | apply Kd.R_drew)); exact HO_4.out⟩, ⟨by repeat (first | (with_reducible first | exact HB.out | apply below_alloc | apply pw_below_drewN | apply below_drew1) | exact HB.out)⟩⟩
                            case round =>
                              clear H'
                              try clear c1
                              try clear c2
                              try clear c2b0
                              try clear c2b1
                              try clear p2
                              try clear c3
                              try clear c3b0
                              try clear c4
                              try clear c4b0
                              try clear p5
                              try clear q5
                              try clear hx5
                              try clear c6
                              try clear c6b0
                              try clear c6b1
                              try clear p6
                              try clear c8
                              try clear c8b0
                              try clear c9
                              try clear c10
                              try clear c13
                              try clear c13b0
                              try clear c14
                              try clear p2
                              try clear p5
                              try clear p6
                              try clear q5
                              obtain ⟨x7_4, x8_4, rfl, rfl, HA, HK4, HO_4, HB⟩ := hrel
                              cases gk with
                              | zero => exact absurd HA.out (by simp [remontoirref13_Lex.l1])
                              | succ k4 =>
                                have H := HA.out
                                clear HA
                                simp only [remontoirref13_Lex.l1] at H
                                by_cases c16 : x7_4 < (a0.size : Int)
                                · rw [if_pos c16] at H
                                  have c16b0 : decide (x7_4 < (a0.size : Int)) = true := decide_eq_true c16
                                  clear c16
                                  (first | rw [c16b0] | (simp only [i64_w, i32_w]; rw [c16b0]) | skip)
                                  by_cases c17 : 0 ≤ x7_4
                                  · rw [if_pos c17] at H
                                    have c17b0 : decide (0 ≤ x7_4) = true := decide_eq_true c17
                                    clear c17
                                    by_cases c19 : (bt a0 x7_4) ≥ 48
                                    · rw [if_pos c19] at H
                                      have c19b0 : decide (48 ≤ (bt a0 x7_4)) = true := decide_eq_true c19
                                      clear c19
                                      by_cases c21 : (bt a0 x7_4) ≤ 57
                                      · rw [if_pos c21] at H
                                        have c21b0 : decide ((bt a0 x7_4) ≤ 57) = true := decide_eq_true c21
                                        clear c21
                                        obtain ⟨ji23, hji23⟩ : ∃ j_ : Int, (mn (wrap64 ((wrap64 (10 * x8_4)) + (((bt a0 x7_4) - 48) % 256))) 2147483648) = j_ := ⟨_, rfl⟩
                                        replace H : (remontoirref13_Lex.l1 k4 a0 x4_1 x5_1 (bt a0 x5_1) (wrap64 (x7_4 + 1)) ji23) = some (r1, r2) := by first | (rw [hji23] at H; exact H) | (simp only [hji23] at H ⊢; exact H)
                                        have hji23_ : (if 2147483648 < (wrap64 ((wrap64 (10 * x8_4)) + (((bt a0 x7_4) - 48) % 256))) then 2147483648 else (wrap64 ((wrap64 (10 * x8_4)) + (((bt a0 x7_4) - 48) % 256)))) = ji23 := hji23
                                        have H' := Aside0.mk H
                                        clear H
                                        have p18 : 0 ≤ (x7_4 : Int) := of_decide_eq_true (by first | (with_reducible assumption) | assumption)
                                        have q18 : x7_4 < (a0.size : Int) := of_decide_eq_true (by first | (with_reducible assumption) | assumption)
                                        have hx18 := bt_at a0 x7_4
                                        replace p18 := eq_true p18
                                        replace q18 := eq_true q18
                                        have p20 : 0 ≤ (x7_4 : Int) := of_decide_eq_true (by first | (with_reducible assumption) | assumption)
                                        have q20 : x7_4 < (a0.size : Int) := of_decide_eq_true (by first | (with_reducible assumption) | assumption)
                                        have hx20 := bt_at a0 x7_4
                                        replace p20 := eq_true p20
                                        replace q20 := eq_true q20
                                        have p22 : 0 ≤ (x7_4 : Int) := of_decide_eq_true (by first | (with_reducible assumption) | assumption)
                                        have q22 : x7_4 < (a0.size : Int) := of_decide_eq_true (by first | (with_reducible assumption) | assumption)
                                        have hx22 := bt_at a0 x7_4
                                        replace p22 := eq_true p22
                                        replace q22 := eq_true q22
                                        go_wp2
                                        go_roundg k4
                                        case measure => have := HK1.out; have := HJ6.out; have := HJ11.out; have := HK4.out; omega
                                        case rel => exact ⟨(wrap64 (x7_4 + 1)), (ji23), (by first | rfl | (simp; done) | (simp [*]; done)), (by first | rfl | (simp; done) | (simp only [← hji23] <;> (first | rfl | simp)) | (simp [*]; done)), H', ⟨by have := HK1.out; have := HJ6.out; have := HJ11.out; have := HK4.out; omega⟩, ⟨by (with_reducible repeat (first | apply Kd.R_alloc | apply Kd.R_drewN | apply Kd.R_drew)); exact HO_4.out⟩, ⟨by repeat (first | (with_reducible first | exact HB.out | apply below_alloc | apply pw_below_drewN | apply below_drew1) | exact HB.out)⟩⟩
                                      · rw [if_neg c21] at H
                                        have c21b0 : decide ((bt a0 x7_4) ≤ 57) = false := decide_eq_false c21
                                        clear c21
                                        have H' := Aside0.mk H
                                        clear H
                                        have p18 : 0 ≤ (x7_4 : Int) := of_decide_eq_true (by first | (with_reducible assumption) | assumption)
                                        have q18 : x7_4 < (a0.size : Int) := of_decide_eq_true (by first | (with_reducible assumption) | assumption)
                                        have hx18 := bt_at a0 x7_4
                                        replace p18 := eq_true p18
                                        replace q18 := eq_true q18
                                        have p20 : 0 ≤ (x7_4 : Int) := of_decide_eq_true (by first | (with_reducible assumption) | assumption)
                                        have q20 : x7_4 < (a0.size : Int) := of_decide_eq_true (by first | (with_reducible assumption) | assumption)
                                        have hx20 := bt_at a0 x7_4
                                        replace p20 := eq_true p20
                                        replace q20 := eq_true q20
                                        go_wp2
                                        go_meet
                                        case rel => exact ⟨_, (x7_4), (x8_4), (by first | rfl | (simp; done) | (simp [*]; done)), (by first | rfl | (simp; done) | (simp [*]; done)), H', ⟨by have := HK1.out; have := HJ6.out; have := HJ11.out; have := HK4.out; first | omega | exact Nat.le_refl _⟩, ⟨by (with_reducible repeat (first | apply Kd.R_alloc | apply Kd.R_drewN | apply Kd.R_drew)); exact HO_4.out⟩, ⟨by repeat (first | (with_reducible first | exact HB.out | apply below_alloc | apply pw_below_drewN | apply below_drew1) | exact HB.out)⟩⟩
                                    · rw [if_neg c19] at H
                                      have c19b0 : decide (48 ≤ (bt a0 x7_4)) = false := decide_eq_false c19
                                      clear c19
                                      have H' := Aside0.mk H
                                      clear H
                                      have p18 : 0 ≤ (x7_4 : Int) := of_decide_eq_true (by first | (with_reducible assumption) | assumption)
                                      have q18 : x7_4 < (a0.size : Int) := of_decide_eq_true (by first | (with_reducible assumption) | assumption)
                                      have hx18 := bt_at a0 x7_4
                                      replace p18 := eq_true p18
                                      replace q18 := eq_true q18
                                      go_wp2
                                      go_meet
                                      case rel => exact ⟨_, (x7_4), (x8_4), (by first | rfl | (simp; done) | (simp [*]; done)), (by first | rfl | (simp; done) | (simp [*]; done)), H', ⟨by have := HK1.out; have := HJ6.out; have := HJ11.out; have := HK4.out; first | omega | exact Nat.le_refl _⟩, ⟨by (with_reducible repeat (first | apply Kd.R_alloc | apply Kd.R_drewN | apply Kd.R_drew)); exact HO_4.out⟩, ⟨by repeat (first | (with_reducible first | exact HB.out | apply below_alloc | apply pw_below_drewN | apply below_drew1) | exact HB.out)⟩⟩
                                  · rw [if_neg c17] at H
                                    exact absurd H (by simp)
                                · rw [if_neg c16] at H
                                  have c16b0 : decide (x7_4 < (a0.size : Int)) = false := decide_eq_false c16
                                  clear c16
                                  (first | rw [c16b0] | (simp only [i64_w, i32_w]; rw [c16b0]) | skip)
                                  have H' := Aside0.mk H
                                  clear H
                                  go_wp2
                                  go_meet
                                  case rel => exact ⟨_, (x7_4), (x8_4), (by first | rfl | (simp; done) | (simp [*]; done)), (by first | rfl | (simp; done) | (simp [*]; done)), H', ⟨by have := HK1.out; have := HJ6.out; have := HJ11.out; have := HK4.out; first | omega | exact Nat.le_refl _⟩, ⟨by (with_reducible repeat (first | apply Kd.R_alloc | apply Kd.R_drewN | apply Kd.R_drew)); exact HO_4.out⟩, ⟨by repeat (first | (with_reducible first | exact HB.out | apply below_alloc | apply pw_below_drewN | apply below_drew1) | exact HB.out)⟩⟩
                          case rest =>
                            clear HC15
                            try clear c1
                            try clear p1
                            try clear q1
                            try clear hx1
                            try clear c2
                            try clear c2b0
                            try clear c2b1
                            try clear p2
                            try clear q2
                            try clear hx2
                            try clear c3
                            try clear c3b0
                            try clear c4
                            try clear c4b0
                            try clear p5
                            try clear q5
                            try clear hx5
                            try clear c6
                            try clear c6b0
                            try clear c6b1
                            try clear p6
                            try clear c8
                            try clear c8b0
                            try clear c9
                            try clear c10
                            try clear c13
                            try clear c13b0
                            try clear c14
                            try clear c16
                            try clear c16b0
                            try clear c17
                            try clear c17b0
                            try clear p18
                            try clear q18
                            try clear hx18
                            try clear c19
                            try clear c19b0
                            try clear p20
                            try clear q20
                            try clear hx20
                            try clear c21
                            try clear c21b0
                            try clear p22
                            try clear q22
                            try clear hx22
                            try clear p18
                            try clear p2
                            try clear p20
                            try clear p22
                            try clear p5
                            try clear p6
                            try clear q18
                            try clear q20
                            try clear q22
                            try clear q5
                            obtain ⟨kq, x7_14, x8_14, rfl, rfl, HA, HJ14, HO_4, HB⟩ := hcut
                            cases kq with
                            | zero => exact absurd HA.out (by simp [remontoirref13_Lex.j4])
                            | succ kj14 =>
                              have H := HA.out
                              clear HA
                              simp only [remontoirref13_Lex.j4] at H
                              have HC24 := Aside0.mk H
                              clear H
                              go_upto_region 17 with (fail)
                              go_cut [82] (fun v82 wc => ∃ (kq : Nat) (x82_23 : Bool), v82 = .bool x82_23 ∧ Aside0 (remontoirref13_Lex.j5 kq a0 x4_1 x7_14 x8_14 x82_23 = some (r1, r2)) ∧ Aside0 (kq ≤ kj14) ∧ Aside0 (Kd.R k39 39 wc w.heap.size (fun _ => True) u4 x4_1) ∧ Aside0 (Below w.heap.size w wc))
                              case first =>
                                have H := HC24.out
                                clear HC24
                                by_cases c25 : (bt a0 x5_1) = 48
                                · rw [if_pos c25] at H
                                  have c25b0 : ((bt a0 x5_1) == 48) = true := beq_iff_eq.mpr c25
                                  have c25b1 : ((bt a0 x5_1) != 48) = false := bne_eq_false_iff_eq.mpr c25
                                  clear c25
                                  (first | rw [c25b0] | (simp only [i64_w, i32_w]; rw [c25b0]) | skip)
                                  have H' := Aside0.mk H
                                  clear H
                                  go_wp2
                                  go_meet
                                  case rel => exact ⟨_, (decide (x7_14 > (wrap64 (x5_1 + 1)))), (by first | rfl | (simp; done) | (simp [*]; done)), H', ⟨by have := HK1.out; have := HJ6.out; have := HJ11.out; have := HJ14.out; first | omega | exact Nat.le_refl _⟩, ⟨by (with_reducible repeat (first | apply Kd.R_alloc | apply Kd.R_drewN | apply Kd.R_drew)); exact HO_4.out⟩, ⟨by repeat (first | (with_reducible first | exact HB.out | apply below_alloc | apply pw_below_drewN | apply below_drew1) | exact HB.out)⟩⟩
                                · rw [if_neg c25] at H
                                  have c25b0 : ((bt a0 x5_1) == 48) = false := beq_eq_false_iff_ne.mpr c25
                                  have c25b1 : ((bt a0 x5_1) != 48) = true := bne_iff_ne.mpr c25
                                  (first | rw [c25b0] | (simp only [i64_w, i32_w]; rw [c25b0]) | skip)
                                  have H' := Aside0.mk H
                                  clear H
                                  go_wp2
                                  go_meet
                                  case rel => exact ⟨_, (false), (by first | rfl | (simp; done) | (simp [*]; done)), H', ⟨by have := HK1.out; have := HJ6.out; have := HJ11.out; have := HJ14.out; first | omega | exact Nat.le_refl _⟩, ⟨by (with_reducible repeat (first | apply Kd.R_alloc | apply Kd.R_drewN | apply Kd.R_drew)); exact HO_4.out⟩, ⟨by repeat (first | (with_reducible first | exact HB.out | apply below_alloc | apply pw_below_drewN | apply below_drew1) | exact HB.out)⟩⟩
                              case rest =>
                                clear HC24
                                try clear c1
                                try clear p1
                                try clear q1
                                try clear hx1
                                try clear c2
                                try clear c2b0
                                try clear c2b1
                                try clear p2
                                try clear q2
                                try clear hx2
                                try clear c3
                                try clear c3b0
                                try clear c4
                                try clear c4b0
                                try clear p5
                                try clear q5
                                try clear hx5
                                try clear c6
                                try clear c6b0
                                try clear c6b1
                                try clear p6
                                try clear c8
                                try clear c8b0
                                try clear c9
                                try clear c10
                                try clear c13
                                try clear c13b0
                                try clear c14
                                try clear c16
                                try clear c16b0
                                try clear c17
                                try clear c17b0
                                try clear p18
                                try clear q18
                                try clear hx18
                                try clear c19
                                try clear c19b0
                                try clear p20
                                try clear q20
                                try clear hx20
                                try clear c21
                                try clear c21b0
                                try clear p22
                                try clear q22
                                try clear hx22
                                try clear c25
                                try clear c25b0
                                try clear c25b1
                                try clear p1
                                try clear p18
                                try clear p2
                                try clear p20
                                try clear p22
                                try clear p5
                                try clear p6
                                try clear q1
                                try clear q18
                                try clear q2
                                try clear q20
                                try clear q22
                                try clear q5
                                obtain ⟨kq, x82_23, rfl, HA, HJ23, HO_4, HB⟩ := hcut
                                cases kq with
                                | zero => exact absurd HA.out (by simp [remontoirref13_Lex.j5])
                                | succ kj23 =>
                                  have H := HA.out
                                  clear HA
                                  simp only [remontoirref13_Lex.j5] at H
                                  by_cases c26 : x82_23 = true
                                  · subst c26
                                    have H1 : (some (([] : List (S39)), 2)) = some (r1, r2) := by rw [if_pos rfl] at H; exact H
                                    clear H
                                    have H := H1
                                    clear H1
                                    simp only [Option.some.injEq, Prod.mk.injEq] at H
                                    obtain ⟨rfl, rfl⟩ := H
                                    go_wp2
                                    go_ret2
                                    exact ⟨_, by first | rfl | (simp [errW_none, errW_some] <;> rfl) | (simp [*, errW_none, errW_some] <;> rfl), by first | exact Kd.R_nil _ _ _ _ _ | exact Kd.N_nil _ _ _ _ _ | exact Kd.V_nil _ _ _ _ _ | exact Kd.Q_nil _ _ _ _ _ | exact Kd.S_nil _ _ _ _ _, by repeat (first | (with_reducible first | exact HB.out | apply below_alloc | apply pw_below_drewN | apply below_drew1) | exact HB.out)⟩
                                  · replace c26 := Bool.eq_false_iff.mpr c26
                                    subst c26
                                    have H1 : (if x8_14 > 2147483647 then (some (([] : List (S39)), 3)) else (if x4_1.length < 8796093022208 then (remontoirref13_Lex.l0 kj23 a0 (x4_1 ++ [(⟨1, x8_14⟩ : S39)]) x7_14) else (none))) = some (r1, r2) := by rw [if_neg (show ¬ (false = true) by decide)] at H; exact H
                                    clear H
                                    have H := H1
                                    clear H1
                                    by_cases c27 : x8_14 > 2147483647
                                    · rw [if_pos c27] at H
                                      have c27b0 : decide (2147483647 < x8_14) = true := decide_eq_true c27
                                      clear c27
                                      simp only [Option.some.injEq, Prod.mk.injEq] at H
                                      obtain ⟨rfl, rfl⟩ := H
                                      go_wp2
                                      go_ret2
                                      exact ⟨_, by first | rfl | (simp [errW_none, errW_some] <;> rfl) | (simp [*, errW_none, errW_some] <;> rfl), by first | exact Kd.R_nil _ _ _ _ _ | exact Kd.N_nil _ _ _ _ _ | exact Kd.V_nil _ _ _ _ _ | exact Kd.Q_nil _ _ _ _ _ | exact Kd.S_nil _ _ _ _ _, by repeat (first | (with_reducible first | exact HB.out | apply below_alloc | apply pw_below_drewN | apply below_drew1) | exact HB.out)⟩
                                    · rw [if_neg c27] at H
                                      have c27b0 : decide (2147483647 < x8_14) = false := decide_eq_false c27
                                      clear c27
                                      by_cases c28 : x4_1.length < 8796093022208
                                      · rw [if_pos c28] at H
                                        have LMc28 := Aside0.mk c28
                                        clear c28
                                        obtain ⟨y176, hy176⟩ : ∃ y_ : List (S39), y_ = (x4_1 ++ [(⟨1, x8_14⟩ : S39)]) := ⟨_, rfl⟩
                                        replace H : (remontoirref13_Lex.l0 kj23 a0 y176 x7_14) = some (r1, r2) := by first | (rw [hy176]; with_reducible exact H) | (have H2_ := (Option.bind_some _ _).symm.trans H; rw [hy176]; with_reducible exact H2_) | (have H2_ := (Option.bind_some _ _).symm.trans H; with_reducible exact H2_) | with_reducible exact H | (rw [hy176]; exact H) | exact H
                                        have Ny176 := Aside0.mk hy176
                                        clear hy176
                                        have H' := Aside0.mk H
                                        clear H
                                        go_wp2_with (first | ((with_reducible refine gate_builtin (b := .append) (xs := #[.tmp 85, .tmp 88]) rfl ?_); (try (refine gate_guard (by rfl) ?_; dsimp only)); at_builtin; refine Kd.R_append k39 (w0 := w) w.heap.size rfl (.tmp 85) (.tmp 88) 23 39 (.agg #[(.int .i64 0), (.int .i64 0)]) 16 rfl Tryz.underlying23 info39 rfl (by decide) (by omega) u4 x4_1 (⟨1, x8_14⟩ : S39) [.int .i64 1, .int .i64 x8_14] (fun _ => True) (fun _ => False) rfl rfl ?aP (fun _ hk => hk.elim) ?aF ?aO ?aB ?aS ?aL ?_; (case aP => exact k39_mkM _ _ _ (⟨1, x8_14⟩ : S39)); (case aB => exact (by repeat (first | (with_reducible first | exact HB.out | apply below_alloc | apply pw_below_drewN | apply below_drew1) | exact HB.out))); (case aF => exact (fun _ _ => trivial)); (case aO => exact (by (with_reducible repeat (first | apply Kd.R_alloc | apply Kd.R_drewN | apply Kd.R_drew)); exact HO_4.out)); (case aS => exact (below_size (by repeat (first | (with_reducible first | exact HB.out | apply below_alloc | apply pw_below_drewN | apply below_drew1) | exact HB.out)))); (case aL => have := LMc28.out; omega); intro v177 w29 ho hb hg hat; rw [← Ny176.out] at ho; have n0_ := Aside0.mk (hb); have n1_ := Aside0.mk (ho); clear HB; clear HO_4; have HB := n0_; have HO178 := n1_; clear n0_ n1_; clear ho hb hg hat))
                                        go_roundg kj23
                                        case measure => have := HK1.out; have := HJ6.out; have := HJ11.out; have := HJ14.out; have := HJ23.out; omega
                                        case rel => exact ⟨(y176), (x7_14), (by first | rfl | (simp; done) | (simp [*]; done)), H', ⟨by have := HK1.out; have := HJ6.out; have := HJ11.out; have := HJ14.out; have := HJ23.out; omega⟩, ⟨by (with_reducible repeat (first | apply Kd.R_alloc | apply Kd.R_drewN | apply Kd.R_drew)); exact HO178.out⟩, ⟨by repeat (first | (with_reducible first | exact HB.out | apply below_alloc | apply pw_below_drewN | apply below_drew1) | exact HB.out)⟩⟩
                                      · rw [if_neg c28] at H
                                        exact absurd H (by simp)
                        · replace c14 := Bool.eq_false_iff.mpr c14
                          subst c14
                          have H1 : (remontoirref13_Lex.l2 kj11 a0 x4_1 x5_1 0 3) = some (r1, r2) := by rw [if_neg (show ¬ (false = true) by decide)] at H; exact H
                          clear H
                          have H := H1
                          clear H1
                          have H' := Aside0.mk H
                          clear H
                          go_wp2
                          go_loopg [9, 10] kj11 (fun kq v9 v10 w' => ∃ (x9_4 : Int) (x10_4 : Int), v9 = .int .i64 x9_4 ∧ v10 = .int .i64 x10_4 ∧ Aside0 (remontoirref13_Lex.l2 kq a0 x4_1 x5_1 x9_4 x10_4 = some (r1, r2)) ∧ Aside0 (kq ≤ kj11) ∧ Aside0 (Kd.R k39 39 w' w.heap.size (fun _ => True) u4 x4_1) ∧ Aside0 (Below w.heap.size w w'))
                          case atStart => exact ⟨(0), (3), (by first | rfl | (simp; done) | (simp [*]; done)), (by first | rfl | (simp; done) | (simp [*]; done)), H', ⟨Nat.le_refl _⟩, ⟨by (with_reducible repeat (first | apply Kd.R_alloc | apply Kd.R_drewN | apply Kd.R_drew)); exact HO_4.out⟩, ⟨by repeat (first | (with_reducible first | exact HB.out | apply below_alloc | apply pw_below_drewN | apply below_drew1) | exact HB.out)⟩⟩
                          case round =>
                            clear H'
                            try clear c1
                            try clear p1
                            try clear q1
                            try clear hx1
                            try clear c2
                            try clear c2b0
                            try clear c2b1
                            try clear p2
                            try clear q2
                            try clear hx2
                            try clear c3
                            try clear c3b0
                            try clear c4
                            try clear c4b0
                            try clear p5
                            try clear q5
                            try clear hx5
                            try clear c6
                            try clear c6b0
                            try clear c6b1
                            try clear p6
                            try clear c8
                            try clear c8b0
                            try clear c9
                            try clear c10
                            try clear c13
                            try clear c13b0
                            try clear c14
                            try clear c16
                            try clear c16b0
                            try clear c17
                            try clear c17b0
                            try clear p18
                            try clear q18
                            try clear hx18
                            try clear c19
                            try clear c19b0
                            try clear p20
                            try clear q20
                            try clear hx20
                            try clear c21
                            try clear c21b0
                            try clear p22
                            try clear q22
                            try clear hx22
                            try clear c25
                            try clear c25b0
                            try clear c25b1
                            try clear c26
                            try clear c27
                            try clear c27b0
                            try clear c28
                            try clear p1
                            try clear p18
                            try clear p2
                            try clear p20
                            try clear p22
                            try clear p5
                            try clear p6
                            try clear q1
                            try clear q18
                            try clear q2
                            try clear q20
                            try clear q22
                            try clear q5
                            obtain ⟨x9_4, x10_4, rfl, rfl, HA, HK4, HO_4, HB⟩ := hrel
                            cases gk with
                            | zero => exact absurd HA.out (by simp [remontoirref13_Lex.l2])
                            | succ k4 =>
                              have H := HA.out
                              clear HA
                              simp only [remontoirref13_Lex.l2] at H
                              by_cases c30 : x10_4 ≤ 18
                              · rw [if_pos c30] at H
                                have c30b0 : decide (x10_4 ≤ 18) = true := decide_eq_true c30
                                clear c30
                                replace H := Option.bind_eq_some_iff.mp H
                                obtain ⟨t183, A310, H⟩ := H
                                replace H : (if (wrap64 ((a0.size : Int) - x5_1)) ≥ (t183.size : Int) then (if 0 ≤ x5_1 then (if x5_1 ≤ (wrap64 (x5_1 + (t183.size : Int))) then (if (wrap64 (x5_1 + (t183.size : Int))) ≤ (a0.size : Int) then (if (a0.extract (x5_1 : Int).toNat ((wrap64 (x5_1 + (t183.size : Int))) : Int).toNat).toList = t183.toList then (if x9_4 = 0 then (remontoirref13_Lex.l2 k4 a0 x4_1 x5_1 x10_4 (wrap64 (x10_4 + 1))) else ((remontoirref13_of.f x9_4).bind fun t184 => (if (t183.size : Int) > (t184.size : Int) then (remontoirref13_Lex.l2 k4 a0 x4_1 x5_1 x10_4 (wrap64 (x10_4 + 1))) else (remontoirref13_Lex.l2 k4 a0 x4_1 x5_1 x9_4 (wrap64 (x10_4 + 1)))))) else (remontoirref13_Lex.l2 k4 a0 x4_1 x5_1 x9_4 (wrap64 (x10_4 + 1)))) else (none)) else (none)) else (none)) else (remontoirref13_Lex.l2 k4 a0 x4_1 x5_1 x9_4 (wrap64 (x10_4 + 1)))) = some (r1, r2) := H
                                have A31 := Aside0.mk A310
                                clear A310
                                by_cases c32 : (wrap64 ((a0.size : Int) - x5_1)) ≥ (t183.size : Int)
                                · rw [if_pos c32] at H
                                  have c32b0 : decide ((t183.size : Int) ≤ (wrap64 ((a0.size : Int) - x5_1))) = true := decide_eq_true c32
                                  clear c32
                                  by_cases c33 : 0 ≤ x5_1
                                  · rw [if_pos c33] at H
                                    have c33b0 := eq_true c33
                                    have c33b1 : decide (0 ≤ x5_1) = true := decide_eq_true c33
                                    clear c33
                                    by_cases c34 : x5_1 ≤ (wrap64 (x5_1 + (t183.size : Int)))
                                    · rw [if_pos c34] at H
                                      have c34b0 := eq_true c34
                                      have c34b1 : decide (x5_1 ≤ (wrap64 (x5_1 + (t183.size : Int)))) = true := decide_eq_true c34
                                      by_cases c35 : (wrap64 (x5_1 + (t183.size : Int))) ≤ (a0.size : Int)
                                      · rw [if_pos c35] at H
                                        have c35b0 := eq_true c35
                                        have c35b1 : decide ((wrap64 (x5_1 + (t183.size : Int))) ≤ (a0.size : Int)) = true := decide_eq_true c35
                                        by_cases c36 : (a0.extract (x5_1 : Int).toNat ((wrap64 (x5_1 + (t183.size : Int))) : Int).toNat).toList = t183.toList
                                        · rw [if_pos c36] at H
                                          have c36b0 : ((a0.extract (x5_1 : Int).toNat ((wrap64 (x5_1 + (t183.size : Int))) : Int).toNat).toList == t183.toList) = true := beq_iff_eq.mpr c36
                                          have c36b1 : ((a0.extract (x5_1 : Int).toNat ((wrap64 (x5_1 + (t183.size : Int))) : Int).toNat).toList != t183.toList) = false := bne_eq_false_iff_eq.mpr c36
                                          clear c36
                                          by_cases c37 : x9_4 = 0
                                          · rw [if_pos c37] at H
                                            have c37b0 : (x9_4 == 0) = true := beq_iff_eq.mpr c37
                                            have c37b1 : (x9_4 != 0) = false := bne_eq_false_iff_eq.mpr c37
                                            clear c37
                                            have H' := Aside0.mk H
                                            clear H
                                            go_wp2_with (first | ((with_reducible refine gate_callee (f := 36) rfl ?_); refine goesL_ (some 96) rfl rfl Tryz.func36 (by kernel_rfl) rfl #[.int .i64 x10_4] rfl (by (try simp only [List.map_toArray, List.map_cons, List.map_nil]); first | done | rfl | (simp only [List.length_drop, List.length_take]; rfl)) ?_; (with_reducible refine (remontoirref13_of.calls x10_4 t183 _ A31.out).mono ?_); rintro e w38 ⟨rfl, hb⟩; refine ⟨_, rfl, ?_⟩; have n0_ := Aside0.mk (Kd.R_below (by (with_reducible repeat (first | apply Kd.R_alloc | apply Kd.R_drewN | apply Kd.R_drew)); exact HO_4.out) hb); have n1_ := Aside0.mk (below_step (by repeat (first | (with_reducible first | exact HB.out | apply below_alloc | apply pw_below_drewN | apply below_drew1) | exact HB.out)) hb); clear HO_4; clear HB; have HO_4 := n0_; have HB := n1_; clear n0_ n1_; (try clear hb); (try clear hb2); (try clear hk); (try clear hi)))
                                            go_roundg k4
                                            case measure => have := HK1.out; have := HJ6.out; have := HJ11.out; have := HK4.out; omega
                                            case rel => exact ⟨(x10_4), (wrap64 (x10_4 + 1)), (by first | rfl | (simp; done) | (simp [*]; done)), (by first | rfl | (simp; done) | (simp [*]; done)), H', ⟨by have := HK1.out; have := HJ6.out; have := HJ11.out; have := HK4.out; omega⟩, ⟨by (with_reducible repeat (first | apply Kd.R_alloc | apply Kd.R_drewN | apply Kd.R_drew)); exact HO_4.out⟩, ⟨by repeat (first | (with_reducible first | exact HB.out | apply below_alloc | apply pw_below_drewN | apply below_drew1) | exact HB.out)⟩⟩
                                          · rw [if_neg c37] at H
                                            have c37b0 : (x9_4 == 0) = false := beq_eq_false_iff_ne.mpr c37
                                            have c37b1 : (x9_4 != 0) = true := bne_iff_ne.mpr c37
                                            replace H := Option.bind_eq_some_iff.mp H
                                            obtain ⟨t184, A390, H⟩ := H
                                            replace H : (if (t183.size : Int) > (t184.size : Int) then (remontoirref13_Lex.l2 k4 a0 x4_1 x5_1 x10_4 (wrap64 (x10_4 + 1))) else (remontoirref13_Lex.l2 k4 a0 x4_1 x5_1 x9_4 (wrap64 (x10_4 + 1)))) = some (r1, r2) := H
                                            have A39 := Aside0.mk A390
                                            clear A390
                                            by_cases c40 : (t183.size : Int) > (t184.size : Int)
                                            · rw [if_pos c40] at H
                                              have c40b0 : decide ((t184.size : Int) < (t183.size : Int)) = true := decide_eq_true c40
                                              have c40b1 : decide (t184.size < t183.size) = true := decide_eq_true (Int.ofNat_lt.mp c40)
                                              clear c40
                                              have H' := Aside0.mk H
                                              clear H
                                              go_wp2_with (first | ((with_reducible refine gate_callee (f := 36) rfl ?_); refine goesL_ (some 96) rfl rfl Tryz.func36 (by kernel_rfl) rfl #[.int .i64 x10_4] rfl (by (try simp only [List.map_toArray, List.map_cons, List.map_nil]); first | done | rfl | (simp only [List.length_drop, List.length_take]; rfl)) ?_; (with_reducible refine (remontoirref13_of.calls x10_4 t183 _ A31.out).mono ?_); rintro e w41 ⟨rfl, hb⟩; refine ⟨_, rfl, ?_⟩; have n0_ := Aside0.mk (Kd.R_below (by (with_reducible repeat (first | apply Kd.R_alloc | apply Kd.R_drewN | apply Kd.R_drew)); exact HO_4.out) hb); have n1_ := Aside0.mk (below_step (by repeat (first | (with_reducible first | exact HB.out | apply below_alloc | apply pw_below_drewN | apply below_drew1) | exact HB.out)) hb); clear HO_4; clear HB; have HO_4 := n0_; have HB := n1_; clear n0_ n1_; (try clear hb); (try clear hb2); (try clear hk); (try clear hi)) | (go_at_call 36; (with_reducible refine (remontoirref13_of.calls x9_4 t184 _ A39.out).mono ?_); rintro e w42 ⟨rfl, hb⟩; have n0_ := Aside0.mk (Kd.R_below (by (with_reducible repeat (first | apply Kd.R_alloc | apply Kd.R_drewN | apply Kd.R_drew)); exact HO_4.out) hb); have n1_ := Aside0.mk (below_step (by repeat (first | (with_reducible first | exact HB.out | apply below_alloc | apply pw_below_drewN | apply below_drew1) | exact HB.out)) hb); clear HO_4; clear HB; have HO_4 := n0_; have HB := n1_; clear n0_ n1_; (try clear hb); (try clear hb2); (try clear hk); (try clear hi)))
                                              go_roundg k4
                                              case measure => have := HK1.out; have := HJ6.out; have := HJ11.out; have := HK4.out; omega
                                              case rel => exact ⟨(x10_4), (wrap64 (x10_4 + 1)), (by first | rfl | (simp; done) | (simp [*]; done)), (by first | rfl | (simp; done) | (simp [*]; done)), H', ⟨by have := HK1.out; have := HJ6.out; have := HJ11.out; have := HK4.out; omega⟩, ⟨by (with_reducible repeat (first | apply Kd.R_alloc | apply Kd.R_drewN | apply Kd.R_drew)); exact HO_4.out⟩, ⟨by repeat (first | (with_reducible first | exact HB.out | apply below_alloc | apply pw_below_drewN | apply below_drew1) | exact HB.out)⟩⟩
                                            · rw [if_neg c40] at H
                                              have c40b0 : decide ((t184.size : Int) < (t183.size : Int)) = false := decide_eq_false c40
                                              have c40b1 : decide (t184.size < t183.size) = false := decide_eq_false (fun h => c40 (Int.ofNat_lt.mpr h))
                                              clear c40
                                              have H' := Aside0.mk H
                                              clear H
                                              go_wp2_with (first | ((with_reducible refine gate_callee (f := 36) rfl ?_); refine goesL_ (some 96) rfl rfl Tryz.func36 (by kernel_rfl) rfl #[.int .i64 x10_4] rfl (by (try simp only [List.map_toArray, List.map_cons, List.map_nil]); first | done | rfl | (simp only [List.length_drop, List.length_take]; rfl)) ?_; (with_reducible refine (remontoirref13_of.calls x10_4 t183 _ A31.out).mono ?_); rintro e w43 ⟨rfl, hb⟩; refine ⟨_, rfl, ?_⟩; have n0_ := Aside0.mk (Kd.R_below (by (with_reducible repeat (first | apply Kd.R_alloc | apply Kd.R_drewN | apply Kd.R_drew)); exact HO_4.out) hb); have n1_ := Aside0.mk (below_step (by repeat (first | (with_reducible first | exact HB.out | apply below_alloc | apply pw_below_drewN | apply below_drew1) | exact HB.out)) hb); clear HO_4; clear HB; have HO_4 := n0_; have HB := n1_; clear n0_ n1_; (try clear hb); (try clear hb2); (try clear hk); (try clear hi)) | (go_at_call 36; (with_reducible refine (remontoirref13_of.calls x9_4 t184 _ A39.out).mono ?_); rintro e w44 ⟨rfl, hb⟩; have n0_ := Aside0.mk (Kd.R_below (by (with_reducible repeat (first | apply Kd.R_alloc | apply Kd.R_drewN | apply Kd.R_drew)); exact HO_4.out) hb); have n1_ := Aside0.mk (below_step (by repeat (first | (with_reducible first | exact HB.out | apply below_alloc | apply pw_below_drewN | apply below_drew1) | exact HB.out)) hb); clear HO_4; clear HB; have HO_4 := n0_; have HB := n1_; clear n0_ n1_; (try clear hb); (try clear hb2); (try clear hk); (try clear hi)))
                                              go_roundg k4
                                              case measure => have := HK1.out; have := HJ6.out; have := HJ11.out; have := HK4.out; omega
                                              case rel => exact ⟨(x9_4), (wrap64 (x10_4 + 1)), (by first | rfl | (simp; done) | (simp [*]; done)), (by first | rfl | (simp; done) | (simp [*]; done)), H', ⟨by have := HK1.out; have := HJ6.out; have := HJ11.out; have := HK4.out; omega⟩, ⟨by (with_reducible repeat (first | apply Kd.R_alloc | apply Kd.R_drewN | apply Kd.R_drew)); exact HO_4.out⟩, ⟨by repeat (first | (with_reducible first | exact HB.out | apply below_alloc | apply pw_below_drewN | apply below_drew1) | exact HB.out)⟩⟩
                                        · rw [if_neg c36] at H
                                          have c36b0 : ((a0.extract (x5_1 : Int).toNat ((wrap64 (x5_1 + (t183.size : Int))) : Int).toNat).toList == t183.toList) = false := beq_eq_false_iff_ne.mpr c36
                                          have c36b1 : ((a0.extract (x5_1 : Int).toNat ((wrap64 (x5_1 + (t183.size : Int))) : Int).toNat).toList != t183.toList) = true := bne_iff_ne.mpr c36
                                          have H' := Aside0.mk H
                                          clear H
                                          go_wp2_with (first | ((with_reducible refine gate_callee (f := 36) rfl ?_); refine goesL_ (some 96) rfl rfl Tryz.func36 (by kernel_rfl) rfl #[.int .i64 x10_4] rfl (by (try simp only [List.map_toArray, List.map_cons, List.map_nil]); first | done | rfl | (simp only [List.length_drop, List.length_take]; rfl)) ?_; (with_reducible refine (remontoirref13_of.calls x10_4 t183 _ A31.out).mono ?_); rintro e w45 ⟨rfl, hb⟩; refine ⟨_, rfl, ?_⟩; have n0_ := Aside0.mk (Kd.R_below (by (with_reducible repeat (first | apply Kd.R_alloc | apply Kd.R_drewN | apply Kd.R_drew)); exact HO_4.out) hb); have n1_ := Aside0.mk (below_step (by repeat (first | (with_reducible first | exact HB.out | apply below_alloc | apply pw_below_drewN | apply below_drew1) | exact HB.out)) hb); clear HO_4; clear HB; have HO_4 := n0_; have HB := n1_; clear n0_ n1_; (try clear hb); (try clear hb2); (try clear hk); (try clear hi)))
                                          go_roundg k4
                                          case measure => have := HK1.out; have := HJ6.out; have := HJ11.out; have := HK4.out; omega
                                          case rel => exact ⟨(x9_4), (wrap64 (x10_4 + 1)), (by first | rfl | (simp; done) | (simp [*]; done)), (by first | rfl | (simp; done) | (simp [*]; done)), H', ⟨by have := HK1.out; have := HJ6.out; have := HJ11.out; have := HK4.out; omega⟩, ⟨by (with_reducible repeat (first | apply Kd.R_alloc | apply Kd.R_drewN | apply Kd.R_drew)); exact HO_4.out⟩, ⟨by repeat (first | (with_reducible first | exact HB.out | apply below_alloc | apply pw_below_drewN | apply below_drew1) | exact HB.out)⟩⟩
                                      · rw [if_neg c35] at H
                                        exact absurd H (by simp)
                                    · rw [if_neg c34] at H
                                      exact absurd H (by simp)
                                  · rw [if_neg c33] at H
                                    exact absurd H (by simp)
                                · rw [if_neg c32] at H
                                  have c32b0 : decide ((t183.size : Int) ≤ (wrap64 ((a0.size : Int) - x5_1))) = false := decide_eq_false c32
                                  clear c32
                                  have H' := Aside0.mk H
                                  clear H
                                  go_wp2_with (first | ((with_reducible refine gate_callee (f := 36) rfl ?_); refine goesL_ (some 96) rfl rfl Tryz.func36 (by kernel_rfl) rfl #[.int .i64 x10_4] rfl (by (try simp only [List.map_toArray, List.map_cons, List.map_nil]); first | done | rfl | (simp only [List.length_drop, List.length_take]; rfl)) ?_; (with_reducible refine (remontoirref13_of.calls x10_4 t183 _ A31.out).mono ?_); rintro e w46 ⟨rfl, hb⟩; refine ⟨_, rfl, ?_⟩; have n0_ := Aside0.mk (Kd.R_below (by (with_reducible repeat (first | apply Kd.R_alloc | apply Kd.R_drewN | apply Kd.R_drew)); exact HO_4.out) hb); have n1_ := Aside0.mk (below_step (by repeat (first | (with_reducible first | exact HB.out | apply below_alloc | apply pw_below_drewN | apply below_drew1) | exact HB.out)) hb); clear HO_4; clear HB; have HO_4 := n0_; have HB := n1_; clear n0_ n1_; (try clear hb); (try clear hb2); (try clear hk); (try clear hi)))
                                  go_roundg k4
                                  case measure => have := HK1.out; have := HJ6.out; have := HJ11.out; have := HK4.out; omega
                                  case rel => exact ⟨(x9_4), (wrap64 (x10_4 + 1)), (by first | rfl | (simp; done) | (simp [*]; done)), (by first | rfl | (simp; done) | (simp [*]; done)), H', ⟨by have := HK1.out; have := HJ6.out; have := HJ11.out; have := HK4.out; omega⟩, ⟨by (with_reducible repeat (first | apply Kd.R_alloc | apply Kd.R_drewN | apply Kd.R_drew)); exact HO_4.out⟩, ⟨by repeat (first | (with_reducible first | exact HB.out | apply below_alloc | apply pw_below_drewN | apply below_drew1) | exact HB.out)⟩⟩
                              · rw [if_neg c30] at H
                                have c30b0 : decide (x10_4 ≤ 18) = false := decide_eq_false c30
                                clear c30
                                by_cases c47 : x9_4 = 0
                                · rw [if_pos c47] at H
                                  have c47b0 : (x9_4 == 0) = true := beq_iff_eq.mpr c47
                                  have c47b1 : (x9_4 != 0) = false := bne_eq_false_iff_eq.mpr c47
                                  clear c47
                                  simp only [Option.some.injEq, Prod.mk.injEq] at H
                                  obtain ⟨rfl, rfl⟩ := H
                                  go_wp2
                                  go_ret2
                                  exact ⟨_, by first | rfl | (simp [errW_none, errW_some] <;> rfl) | (simp [*, errW_none, errW_some] <;> rfl), by first | exact Kd.R_nil _ _ _ _ _ | exact Kd.N_nil _ _ _ _ _ | exact Kd.V_nil _ _ _ _ _ | exact Kd.Q_nil _ _ _ _ _ | exact Kd.S_nil _ _ _ _ _, by repeat (first | (with_reducible first | exact HB.out | apply below_alloc | apply pw_below_drewN | apply below_drew1) | exact HB.out)⟩
                                · rw [if_neg c47] at H
                                  have c47b0 : (x9_4 == 0) = false := beq_eq_false_iff_ne.mpr c47
                                  have c47b1 : (x9_4 != 0) = true := bne_iff_ne.mpr c47
                                  by_cases c48 : x4_1.length < 8796093022208
                                  · rw [if_pos c48] at H
                                    have LMc48 := Aside0.mk c48
                                    clear c48
                                    obtain ⟨y179, hy179⟩ : ∃ y_ : List (S39), y_ = (x4_1 ++ [(⟨x9_4, 0⟩ : S39)]) := ⟨_, rfl⟩
                                    replace H : ((remontoirref13_of.f x9_4).bind fun t182 => (remontoirref13_Lex.l0 k4 a0 y179 (wrap64 (x5_1 + (t182.size : Int))))) = some (r1, r2) := by first | (rw [hy179]; with_reducible exact H) | (have H2_ := (Option.bind_some _ _).symm.trans H; rw [hy179]; with_reducible exact H2_) | (have H2_ := (Option.bind_some _ _).symm.trans H; with_reducible exact H2_) | with_reducible exact H | (rw [hy179]; exact H) | exact H
                                    have Ny179 := Aside0.mk hy179
                                    clear hy179
                                    replace H := Option.bind_eq_some_iff.mp H
                                    obtain ⟨t182, A490, H⟩ := H
                                    replace H : (remontoirref13_Lex.l0 k4 a0 y179 (wrap64 (x5_1 + (t182.size : Int)))) = some (r1, r2) := H
                                    have A49 := Aside0.mk A490
                                    clear A490
                                    have H' := Aside0.mk H
                                    clear H
                                    go_wp2_with (first | ((with_reducible refine gate_builtin (b := .append) (xs := #[.tmp 130, .tmp 133]) rfl ?_); (try (refine gate_guard (by rfl) ?_; dsimp only)); at_builtin; refine Kd.R_append k39 (w0 := w) w.heap.size rfl (.tmp 130) (.tmp 133) 23 39 (.agg #[(.int .i64 0), (.int .i64 0)]) 16 rfl Tryz.underlying23 info39 rfl (by decide) (by omega) u4 x4_1 (⟨x9_4, 0⟩ : S39) [.int .i64 x9_4, .int .i64 0] (fun _ => True) (fun _ => False) rfl rfl ?aP (fun _ hk => hk.elim) ?aF ?aO ?aB ?aS ?aL ?_; (case aP => exact k39_mkM _ _ _ (⟨x9_4, 0⟩ : S39)); (case aB => exact (by repeat (first | (with_reducible first | exact HB.out | apply below_alloc | apply pw_below_drewN | apply below_drew1) | exact HB.out))); (case aF => exact (fun _ _ => trivial)); (case aO => exact (by (with_reducible repeat (first | apply Kd.R_alloc | apply Kd.R_drewN | apply Kd.R_drew)); exact HO_4.out)); (case aS => exact (below_size (by repeat (first | (with_reducible first | exact HB.out | apply below_alloc | apply pw_below_drewN | apply below_drew1) | exact HB.out)))); (case aL => have := LMc48.out; omega); intro v180 w50 ho hb hg hat; rw [← Ny179.out] at ho; have n0_ := Aside0.mk (hb); have n1_ := Aside0.mk (ho); clear HB; clear HO_4; have HB := n0_; have HO181 := n1_; clear n0_ n1_; clear ho hb hg hat) | ((with_reducible refine gate_callee (f := 36) rfl ?_); refine goesL_ (some 137) rfl rfl Tryz.func36 (by kernel_rfl) rfl #[.int .i64 x9_4] rfl (by (try simp only [List.map_toArray, List.map_cons, List.map_nil]); first | done | rfl | (simp only [List.length_drop, List.length_take]; rfl)) ?_; (with_reducible refine (remontoirref13_of.calls x9_4 t182 _ A49.out).mono ?_); rintro e w51 ⟨rfl, hb⟩; refine ⟨_, rfl, ?_⟩; have n0_ := Aside0.mk (Kd.R_below (by (with_reducible repeat (first | apply Kd.R_alloc | apply Kd.R_drewN | apply Kd.R_drew)); exact HO181.out) hb); have n1_ := Aside0.mk (below_step (by repeat (first | (with_reducible first | exact HB.out | apply below_alloc | apply pw_below_drewN | apply below_drew1) | exact HB.out)) hb); clear HO181; clear HB; have HO181 := n0_; have HB := n1_; clear n0_ n1_; (try clear hb); (try clear hb2); (try clear hk); (try clear hi)))
                                    go_roundg k4
                                    case measure => have := HK1.out; have := HJ6.out; have := HJ11.out; have := HK4.out; omega
                                    case rel => exact ⟨(y179), (wrap64 (x5_1 + (t182.size : Int))), (by first | rfl | (simp; done) | (simp [*]; done)), H', ⟨by have := HK1.out; have := HJ6.out; have := HJ11.out; have := HK4.out; omega⟩, ⟨by (with_reducible repeat (first | apply Kd.R_alloc | apply Kd.R_drewN | apply Kd.R_drew)); exact HO181.out⟩, ⟨by repeat (first | (with_reducible first | exact HB.out | apply below_alloc | apply pw_below_drewN | apply below_drew1) | exact HB.out)⟩⟩
                                  · rw [if_neg c48] at H
                                    exact absurd H (by simp)
          · rw [if_neg c4] at H
            exact absurd H (by simp)
        · rw [if_neg c3] at H
          have c3b0 : decide (x5_1 < (a0.size : Int)) = false := decide_eq_false c3
          clear c3
          simp only [Option.some.injEq, Prod.mk.injEq] at H
          obtain ⟨rfl, rfl⟩ := H
          go_wp2
          go_ret2
          exact ⟨_, by first | rfl | (simp [errW_none, errW_some] <;> rfl) | (simp [*, errW_none, errW_some] <;> rfl), by (with_reducible repeat (first | apply Kd.R_alloc | apply Kd.R_drewN | apply Kd.R_drew)); exact HO_4.out, by repeat (first | (with_reducible first | exact HB.out | apply below_alloc | apply pw_below_drewN | apply below_drew1) | exact HB.out)⟩

end Go.Proofs.YtikbgoppmailjaaGreatDoor.H
/- The document's Lex says what lex.Lex says. -/
namespace Go.Proofs.YtikbgoppmailjaaGreatDoor.Pure
open Go.RowKit Go.Proofs.YtikbgoppmailjaaGreatDoor.H Go.Proofs.YtikbgoppmailjaaGreatDoorW.PrintWords Go.Proofs.YtikbgoppmailjaaGreatDoorW.PrintLast Go.Proofs.YtikbgoppmailjaaGreatDoorW.PrintMore
set_option linter.unusedVariables false
set_option linter.unusedSimpArgs false
theorem bt_drop (s : ByteArray) (i : Nat) (h : i < s.size) : ∃ b, s.data.toList.drop i = b :: s.data.toList.drop (i + 1) ∧ bt s (i : Int) = (b.toNat : Int) := by
  have hl : i < s.data.toList.length := by rw [data_len]; exact h
  refine ⟨s.data.toList[i], List.drop_eq_getElem_cons hl, ?_⟩
  have e : (i : Int).toNat = i := by omega
  unfold bt
  rw [dif_pos (by rw [e]; exact h)]
  simp only [e]
  rfl
theorem ofL (i : Nat) (h1 : 3 ≤ i) (h2 : i ≤ 18) : remontoirref13_of.f (i : Int) = some (lexT.getD i ⟨#[]⟩) := by
  rcases (by omega : i = 3 ∨ i = 4 ∨ i = 5 ∨ i = 6 ∨ i = 7 ∨ i = 8 ∨ i = 9 ∨ i = 10 ∨ i = 11 ∨ i = 12 ∨ i = 13 ∨ i = 14 ∨ i = 15 ∨ i = 16 ∨ i = 17 ∨ i = 18) with rfl | rfl | rfl | rfl | rfl | rfl | rfl | rfl | rfl | rfl | rfl | rfl | rfl | rfl | rfl | rfl
  all_goals kernel_rfl
theorem w_add (a b : Nat) (h : a + b ≤ 1000) : wrap64 ((a : Int) + (b : Int)) = ((a + b : Nat) : Int) := by unfold wrap64; omega
theorem w_sub (a b : Nat) (h : a ≤ 1000) (hb : b ≤ a) : wrap64 ((a : Int) - (b : Int)) = ((a - b : Nat) : Int) := by unfold wrap64; omega
def sat (v : Nat) : Int := ((min v 2147483648 : Nat) : Int)
theorem sat_step (v d : Nat) (hd : d ≤ 9) : mn (wrap64 ((wrap64 (10 * sat v)) + (d : Int) % 256)) 2147483648 = sat (v * 10 + d) := by
  unfold mn sat wrap64
  have : min v 2147483648 ≤ 2147483648 := Nat.min_le_right _ _
  rcases Nat.le_total v 2147483648 with h | h
  · rw [Nat.min_eq_left h]
    split <;> omega
  · rw [Nat.min_eq_right h, Nat.min_eq_right (by omega)]
    split <;> omega
theorem ref_l1 (s : ByteArray) (out : List S39) (x5 x6 : Int) (hs : s.size ≤ 60) (r : List S39 × Int) (B : Nat) : ∀ (d a v : Nat), a + d = s.size →
    (∀ k, B ≤ k → remontoirref13_Lex.j4 k s out x5 x6 ((a + ((s.data.toList.drop a).takeWhile dg).length : Nat) : Int) (sat (vf v ((s.data.toList.drop a).takeWhile dg))) = some r) →
    ∀ k, B + d + 1 ≤ k → remontoirref13_Lex.l1 k s out x5 x6 (a : Int) (sat v) = some r := by
  intro d
  induction d with
  | zero =>
    intro a v ha h k hk
    obtain ⟨k, rfl⟩ : ∃ m, k = m + 1 := ⟨k - 1, by omega⟩
    have e : s.data.toList.drop a = [] := by rw [List.drop_eq_nil_iff, data_len]; omega
    have h1 := h k (by omega)
    rw [e] at h1
    simp only [remontoirref13_Lex.l1]
    rw [if_neg (by omega)]
    simpa [vf_nil] using h1
  | succ d ih =>
    intro a v ha h k hk
    obtain ⟨k, rfl⟩ : ∃ m, k = m + 1 := ⟨k - 1, by omega⟩
    obtain ⟨b, e, hb⟩ := bt_drop s a (by omega)
    simp only [remontoirref13_Lex.l1]
    rw [if_pos (by omega), if_pos (by omega), hb]
    rw [e] at h
    cases hd : dg b
    · have hn : ¬ (48 ≤ b.toNat ∧ b.toNat ≤ 57) := of_decide_eq_false hd
      have e2 : (b :: s.data.toList.drop (a + 1)).takeWhile dg = [] := by rw [List.takeWhile_cons, hd]; rfl
      rw [e2] at h
      have h1 := h k (by omega)
      simp only [List.length_nil, Nat.add_zero, vf_nil] at h1
      by_cases g : (b.toNat : Int) ≥ 48
      · rw [if_pos g, if_neg (by omega)]; exact h1
      · rw [if_neg g]; exact h1
    · have hn : 48 ≤ b.toNat ∧ b.toNat ≤ 57 := of_decide_eq_true hd
      rw [if_pos (by omega), if_pos (by omega)]
      have e1 : wrap64 ((a : Int) + 1) = ((a + 1 : Nat) : Int) := by unfold wrap64; omega
      have hdv := dv_eq b
      have e3 : (b.toNat : Int) - 48 = ((dv b : Nat) : Int) := by omega
      rw [e1, e3, sat_step v (dv b) (by omega)]
      refine ih (a + 1) (v * 10 + dv b) (by omega) ?_ k (by omega)
      intro k' hk'
      have h1 := h k' hk'
      rw [List.takeWhile_cons, if_pos hd, List.length_cons] at h1
      have e4 : a + 1 + ((s.data.toList.drop (a + 1)).takeWhile dg).length = a + (((s.data.toList.drop (a + 1)).takeWhile dg).length + 1) := by omega
      rw [e4]
      exact h1
set_option maxHeartbeats 1000000 in
theorem ref_l2 (s : ByteArray) (out : List S39) (a : Nat) (r : List S39 × Int) (B : Nat) (hs : s.size ≤ 60) (hat : a ≤ s.size) (ho : out.length ≤ 60)
    (h0 : ∀ n, n = 19 → longL (s.data.toList.drop a) n = (0, 0) → r = ([], 2))
    (hq : ∀ q n : Nat, n = 19 → 3 ≤ q → q ≤ 18 → 0 < (lexT.getD q ⟨#[]⟩).size → longL (s.data.toList.drop a) n = ((q : Int), ((lexT.getD q ⟨#[]⟩).size : Int)) → ∀ k, B ≤ k → remontoirref13_Lex.l0 k s (out ++ [(⟨(q : Int), 0⟩ : S39)]) ((a + (lexT.getD q ⟨#[]⟩).size : Nat) : Int) = some r) :
    ∀ (d i k : Nat), i + d = 19 → 3 ≤ i → B + d + 1 ≤ k → remontoirref13_Lex.l2 k s out (a : Int) (longL (s.data.toList.drop a) i).1 (i : Int) = some r := by
  have hD : (s.data.toList.drop a).length = s.size - a := by rw [List.length_drop, data_len]
  intro d
  induction d with
  | zero =>
    intro i k hi h3 hk
    obtain ⟨k, rfl⟩ : ∃ m, k = m + 1 := ⟨k - 1, by omega⟩
    simp only [remontoirref13_Lex.l2]
    rw [if_neg (by omega)]
    rcases longL_ok (s.data.toList.drop a) i with e | ⟨q, q1, q2, e, q3, hp⟩
    · rw [e, h0 i hi e]; rfl
    · rw [e, if_neg (show ¬ ((q : Int) = 0) by omega), if_pos (by omega), ofL q q1 (by omega)]
      simp only [Option.bind_some]
      have hsz := hasPrefix_len _ _ hp
      rw [data_len, hD] at hsz
      have hq' := hq q i hi q1 (by omega) q3 e k (by omega)
      generalize lexT.getD q ⟨#[]⟩ = t at *
      have e2 : wrap64 ((a : Int) + (t.size : Int)) = ((a + t.size : Nat) : Int) := by unfold wrap64; omega
      rw [e2]
      exact hq'
  | succ d ih =>
    intro i k hi h3 hk
    obtain ⟨k, rfl⟩ : ∃ m, k = m + 1 := ⟨k - 1, by omega⟩
    simp only [remontoirref13_Lex.l2]
    rw [if_pos (by omega), ofL i h3 (by omega)]
    simp only [Option.bind_some]
    have hnext := ih (i + 1) k (by omega) (by omega) (by omega)
    have ei : wrap64 ((i : Int) + 1) = ((i + 1 : Nat) : Int) := by unfold wrap64; omega
    rw [ei]
    have hstep : longL (s.data.toList.drop a) (i + 1) = if (longL (s.data.toList.drop a) i).2 < ((lexT.getD i ⟨#[]⟩).size : Int) ∧ Lib.hasPrefix (s.data.toList.drop a) (lexT.getD i ⟨#[]⟩).data.toList = true then ((i : Int), ((lexT.getD i ⟨#[]⟩).size : Int)) else longL (s.data.toList.drop a) i := rfl
    have hT2 := lexT_size i
    have htp : 0 < (lexT.getD i ⟨#[]⟩).size := by
      have : ∀ j : Fin 16, 0 < (lexT.getD (j.val + 3) ⟨#[]⟩).size := by decide
      have h := this ⟨i - 3, by omega⟩
      have e : i - 3 + 3 = i := by omega
      simpa [e] using h
    have hok := longL_ok (s.data.toList.drop a) i
    have hof : ∀ q : Nat, 3 ≤ q → q < i → remontoirref13_of.f (q : Int) = some (lexT.getD q ⟨#[]⟩) := fun q q1 q2 => ofL q q1 (by omega)
    generalize lexT.getD i ⟨#[]⟩ = t at *
    have hpre : Lib.hasPrefix (s.data.toList.drop a) t.data.toList = (decide (t.size ≤ (s.data.toList.drop a).length) && ((s.data.toList.drop a).take t.size == t.data.toList)) := by
      rw [← Lib.hasPrefix_of_take, data_len]
    by_cases hlen : t.size ≤ (s.data.toList.drop a).length
    · rw [hD] at hlen
      have hle : a + t.size ≤ s.size := by
        clear hstep hnext hok hof hpre h0 hq ih
        omega
      have ew : wrap64 ((a : Int) + (t.size : Int)) = ((a + t.size : Nat) : Int) := w_add _ _ (by clear hstep hnext hok hof hpre h0 hq ih; omega)
      have hc1 : wrap64 ((s.size : Int) - (a : Int)) ≥ (t.size : Int) := by
        rw [w_sub _ _ (by clear hstep hnext hok hof hpre h0 hq ih; omega) hat]
        exact Int.ofNat_le.2 hlen
      have hc2 : (0 : Int) ≤ (a : Int) := Int.natCast_nonneg _
      have hc3 : (a : Int) ≤ ((a + t.size : Nat) : Int) := Int.ofNat_le.2 (Nat.le_add_right _ _)
      have hc4 : ((a + t.size : Nat) : Int) ≤ (s.size : Int) := Int.ofNat_le.2 hle
      rw [ew, if_pos hc1, if_pos hc2, if_pos hc3, if_pos hc4]
      have hex : (s.extract (a : Int).toNat ((a + t.size : Nat) : Int).toNat).toList = (s.data.toList.drop a).take t.size := by
        rw [ByteArray.toList_eq]
        simp only [ByteArray.data_extract, Array.toList_extract, Int.toNat_natCast]
        rw [List.extract_eq_take_drop]
        congr 1
        omega
      rw [hex, ByteArray.toList_eq]
      by_cases hpp : (s.data.toList.drop a).take t.size = t.data.toList
      · rw [if_pos hpp]
        have hP : Lib.hasPrefix (s.data.toList.drop a) t.data.toList = true := by rw [hpre, hD]; simp [hlen, hpp]
        rcases hok with e | ⟨q, q1, q2, e, q3, _⟩
        · rw [e, if_pos rfl]
          rw [e] at hstep
          rw [hstep, if_pos ⟨by show (0 : Int) < _; omega, hP⟩] at hnext
          exact hnext
        · rw [e, if_neg (show ¬ ((q : Int) = 0) by omega), hof q q1 q2]
          rw [e] at hstep
          simp only [Option.bind_some]
          by_cases hg : (t.size : Int) > ((lexT.getD q ⟨#[]⟩).size : Int)
          · rw [if_pos hg]
            rw [hstep, if_pos ⟨hg, hP⟩] at hnext
            exact hnext
          · rw [if_neg hg]
            rw [hstep, if_neg (fun h => hg h.1)] at hnext
            exact hnext
      · rw [if_neg hpp]
        have hP : ¬ Lib.hasPrefix (s.data.toList.drop a) t.data.toList = true := by rw [hpre, hD]; simp [hlen, hpp]
        rw [hstep, if_neg (fun h => hP h.2)] at hnext
        exact hnext
    · have hP : ¬ Lib.hasPrefix (s.data.toList.drop a) t.data.toList = true := fun h => by
        have := hasPrefix_len _ _ h
        rw [data_len] at this
        exact hlen this
      rw [hD] at hlen
      have hc1 : ¬ wrap64 ((s.size : Int) - (a : Int)) ≥ (t.size : Int) := by
        rw [w_sub _ _ (by clear hstep hnext hok hof hpre h0 hq ih; omega) hat]
        exact fun h => hlen (Int.ofNat_le.1 h)
      rw [if_neg hc1]
      rw [hstep, if_neg (fun h => hP h.2)] at hnext
      exact hnext
set_option maxHeartbeats 1000000 in
theorem ref_lex (s : ByteArray) (hs : s.size ≤ 60) : ∀ (n a : Nat) (out : List S39), a + n = s.size → out.length ≤ a → ∀ r, lexF (s.data.toList.drop a) out = some r → ∀ k, 100 * n + 10 ≤ k → remontoirref13_Lex.l0 k s out (a : Int) = some r := by
  intro n
  induction n using Nat.strongRecOn with
  | _ n ih =>
    intro a out ha ho r hr k hk
    obtain ⟨k, rfl⟩ : ∃ m, k = m + 1 := ⟨k - 1, by omega⟩
    simp only [remontoirref13_Lex.l0]
    by_cases hn : n = 0
    · have e : s.data.toList.drop a = [] := by rw [List.drop_eq_nil_iff, data_len]; omega
      rw [e] at hr
      rw [if_neg (by omega)]
      exact hr
    · obtain ⟨b, e, hb⟩ := bt_drop s a (by omega)
      have hlen : (s.data.toList.drop (a + 1)).length = s.size - (a + 1) := by rw [List.length_drop, data_len]
      rw [if_pos (by omega), if_pos (by omega), hb]
      have e1 : wrap64 ((a : Int) + 1) = ((a + 1 : Nat) : Int) := by unfold wrap64; omega
      rw [e] at hr
      by_cases h32 : b = 32
      · subst h32
        rw [if_pos (by rfl), e1]
        rw [lexF_blank] at hr
        exact ih (n - 1) (by omega) (a + 1) out (by omega) (by omega) r hr k (by omega)
      · have h32' : ¬ ((b.toNat : Int) = 32) := fun h => h32 (UInt8.toNat_inj.1 (show b.toNat = 32 by omega))
        rw [if_neg h32']
        obtain ⟨k, rfl⟩ : ∃ m, k = m + 1 := ⟨k - 1, by omega⟩
        cases hw : lw b
        · have hwn : ¬ (97 ≤ b.toNat ∧ b.toNat ≤ 122) := of_decide_eq_false hw
          have step : remontoirref13_Lex.j1 (k + 1) s out (a : Int) (b.toNat : Int) false = some r := by
            simp only [remontoirref13_Lex.j1, Bool.false_eq_true, if_false]
            obtain ⟨k, rfl⟩ : ∃ m, k = m + 1 := ⟨k - 1, by omega⟩
            cases hd : dg b
            · have hdn : ¬ (48 ≤ b.toNat ∧ b.toNat ≤ 57) := of_decide_eq_false hd
              have j2 : remontoirref13_Lex.j2 (k + 1) s out (a : Int) (b.toNat : Int) false = some r := by
                simp only [remontoirref13_Lex.j2, Bool.false_eq_true, if_false]
                have e3 : ∀ n, n = 3 → longL (s.data.toList.drop a) n = (0, 0) := by
                  intro n hn
                  rcases longL_ok (s.data.toList.drop a) n with h | ⟨q, q1, q2, _⟩
                  · exact h
                  · omega
                have h2 := ref_l2 s out a r (100 * (n - 1) + 10) hs (by omega) (by omega) ?_ ?_ 16
                · have h3 := fun i hi => h2 i k hi
                  obtain ⟨n3, hn3⟩ : ∃ m : Nat, m = 3 := ⟨3, rfl⟩
                  have h4 := h3 n3 (by omega) (by omega) (by omega)
                  rw [e3 n3 hn3, hn3] at h4
                  exact h4
                · intro n19 hn19 h0
                  rw [lexF_symN b _ _ h32 hd hw n19 hn19] at hr
                  rw [e] at h0
                  rw [h0, if_pos rfl] at hr
                  exact (Option.some.inj hr).symm
                · intro q n19 hn19 q1 q2 q3 h0 k' hk'
                  rw [lexF_symN b _ _ h32 hd hw n19 hn19] at hr
                  rw [e] at h0
                  rw [h0, if_neg (by show ¬ ((lexT.getD q ⟨#[]⟩).size : Int) = 0; omega)] at hr
                  have h2 := lexT_size q
                  have hpl : (lexT.getD q ⟨#[]⟩).size ≤ s.size - a := by
                    rcases longL_ok (b :: s.data.toList.drop (a + 1)) n19 with h | ⟨q', _, _, h', _, hp'⟩
                    · rw [h0] at h
                      have := (Prod.mk.inj h).2
                      omega
                    · have := hasPrefix_len _ _ hp'
                      rw [h0] at h'
                      have h6 := (Prod.mk.inj h').2
                      rw [data_len, List.length_cons, hlen] at this
                      omega
                  refine ih (n - (lexT.getD q ⟨#[]⟩).size) (by omega) _ _ (by omega) (by rw [List.length_append]; show out.length + 1 ≤ _; omega) r ?_ k' (by omega)
                  rw [← hr, ← e]
                  dsimp only
                  rw [List.drop_drop, Int.toNat_natCast]
              by_cases g : (b.toNat : Int) ≥ 48
              · rw [if_pos g, decide_eq_false (by omega)]; exact j2
              · rw [if_neg g]; exact j2
            · have hdn : 48 ≤ b.toNat ∧ b.toNat ≤ 57 := of_decide_eq_true hd
              rw [if_pos (by omega), decide_eq_true (by omega)]
              simp only [remontoirref13_Lex.j2, if_true]
              rw [lexF_num b _ _ hd] at hr
              have h1 := ref_l1 s out (a : Int) (b.toNat : Int) hs r (100 * (n - 1) + 15) n a 0 (by omega) ?_ k (by omega)
              · exact h1
              · intro k hk
                obtain ⟨k, rfl⟩ : ∃ m, k = m + 1 := ⟨k - 1, by omega⟩
                rw [e]
                have hpos := tw_pos b (s.data.toList.drop (a + 1)) hd
                have hle : ((b :: s.data.toList.drop (a + 1)).takeWhile dg).length ≤ n := by
                  have := (List.takeWhile_sublist (l := b :: s.data.toList.drop (a + 1)) dg).length_le
                  rw [List.length_cons, hlen] at this
                  omega
                have hdr : ∀ m, (b :: s.data.toList.drop (a + 1)).drop m = s.data.toList.drop (a + m) := fun m => by rw [← e, List.drop_drop]
                rw [hdr] at hr
                generalize ((b :: s.data.toList.drop (a + 1)).takeWhile dg).length = m at *
                generalize vf 0 ((b :: s.data.toList.drop (a + 1)).takeWhile dg) = v at *
                simp only [remontoirref13_Lex.j4]
                rw [e1]
                obtain ⟨k, rfl⟩ : ∃ m, k = m + 1 := ⟨k - 1, by omega⟩
                have j5f : ¬ (b = 48 ∧ 1 < m) → remontoirref13_Lex.j5 (k + 1) s out ((a + m : Nat) : Int) (sat v) false = some r := by
                  intro hc
                  simp only [remontoirref13_Lex.j5, Bool.false_eq_true, if_false]
                  rw [if_neg hc] at hr
                  by_cases hv : 2147483647 < v
                  · rw [if_pos hv] at hr
                    rw [if_pos (by unfold sat; omega)]
                    exact hr
                  · rw [if_neg hv] at hr
                    have es : sat v = (v : Int) := by unfold sat; omega
                    rw [es, if_neg (by omega), if_pos (by omega)]
                    exact ih (n - m) (by omega) (a + m) _ (by omega) (by rw [List.length_append]; show out.length + 1 ≤ _; omega) r hr k (by omega)
                by_cases h48 : (b.toNat : Int) = 48
                · rw [if_pos h48]
                  have hb48 : b = 48 := UInt8.toNat_inj.1 (show b.toNat = 48 by omega)
                  by_cases hm : 1 < m
                  · rw [decide_eq_true (by omega)]
                    simp only [remontoirref13_Lex.j5, if_true]
                    rw [if_pos ⟨hb48, hm⟩] at hr
                    exact hr
                  · rw [decide_eq_false (by omega)]
                    exact j5f (fun h => hm h.2)
                · rw [if_neg h48]
                  exact j5f (fun h => h48 (by rw [h.1]; rfl))
          by_cases g : (b.toNat : Int) ≥ 97
          · rw [if_pos g, decide_eq_false (by omega)]; exact step
          · rw [if_neg g]; exact step
        · have hwn : 97 ≤ b.toNat ∧ b.toNat ≤ 122 := of_decide_eq_true hw
          rw [if_pos (by omega), decide_eq_true (by omega)]
          simp only [remontoirref13_Lex.j1, if_true]
          rw [if_pos (by omega), e1]
          rw [lexF_low b _ _ hw] at hr
          have e5 : ((b.toNat : Int) - 97) % 256 = (b.toNat : Int) - 97 := by omega
          rw [e5]
          exact ih (n - 1) (by omega) (a + 1) _ (by omega) (by rw [List.length_append]; show out.length + 1 ≤ _; omega) r hr k (by omega)
/-- The two say the same. -/
theorem refLex_eq (s : ByteArray) : ∃ x e, lex_Lex.f s = some (x, e) ∧ x.length ≤ 60 ∧ ∀ k, 6010 ≤ k → remontoirref13_Lex.f k s = some (x, e) := by
  rw [lex_list]
  by_cases h : s.size > 60
  · refine ⟨[], 15, by rw [if_pos h], by simp, fun k _ => ?_⟩
    unfold remontoirref13_Lex.f
    rw [if_pos (by omega)]
  · obtain ⟨x, e, hx⟩ := lexF_some _ s.data.toList [] (Nat.le_refl _)
    have hl := lexF_len _ _ _ _ _ (Nat.le_refl _) hx
    rw [data_len] at hl
    simp only [List.length_nil] at hl
    refine ⟨x, e, by rw [if_neg h]; exact hx, by omega, fun k hk => ?_⟩
    unfold remontoirref13_Lex.f
    rw [if_neg (by omega)]
    exact ref_lex s (by omega) s.size 0 [] (by omega) (by simp) (x, e) (by simpa using hx) k (by omega)
end Go.Proofs.YtikbgoppmailjaaGreatDoor.Pure
