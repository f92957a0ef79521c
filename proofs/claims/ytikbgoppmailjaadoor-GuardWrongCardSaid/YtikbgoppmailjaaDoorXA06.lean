/- Parts of the proof of LawGuardWrong: words, contracts of the functions, plain laws. -/
import Derived.Test.YtikbgoppmailjaaDoorXA02
import Derived.Test.YtikbgoppmailjaaDoorXA05
import Derived.Test.YtikbgoppmailjaaDoorXA03
import Derived.Test.YtikbgoppmailjaaDoorXA04
import Derived.KernelRfl
import Derived.Test.YtikbgoppmailjaaDoorRows
import Derived.LaidMore
import Derived.Lay
import Derived.Stop.LaidErr
import Derived.Stop.Joined
import Derived.MakeChecks
import Derived.Lib.LaidTab
-- Written by hp.py (a program of this session, over the kit's print.py), with hand-made contracts beside it.
namespace Go.Proofs.YtikbgoppmailjaaDoor.H
open Go.RowKit Go.Proofs.YtikbgoppmailjaaDoorW.PrintWords Go.Proofs.YtikbgoppmailjaaDoorW.PrintLast Go.Proofs.YtikbgoppmailjaaDoorW.PrintMore
attribute [local go_sem] max2_int min2_int max_two min_two max_three min_three max_four min_four   -- for this text's walks alone
set_option linter.unusedVariables false
set_option linter.unusedSimpArgs false

/-! ### remontoirlaw14_GuardWrong: function 6 -/
mutual
def remontoirlaw14_GuardWrong.l0 : Nat → ByteArray → Int → List (S33) → List ByteArray → Int → Int → Option (Bool)
  | 0, _, _, _, _, _, _ => none
  | k + 1, x0, x1, x5, x27, x28, x29 => if x29 < x28 then (if 0 ≤ x29 then (if x29 < (x27.length : Int) then (if x0.size + (rdOf ByteArray.empty x27 x29).size ≤ 9223372036854775807 then ((guard_Parse.f k (x0 ++ (rdOf ByteArray.empty x27 x29))).bind fun bt292 => (if bt292.2 = 2 then (if (bt292.1.length : Int) = 0 then (remontoirlaw14_GuardWrong.l0 k x0 x1 x5 x27 x28 (wrap64 (x29 + 1))) else (some false)) else (some false))) else (none)) else (none)) else (none)) else (if (x5.length : Int) = 0 then (none) else (if (Int.tmod (wrap64 (x1)) (x5.length : Int)) = 0 then (remontoirlaw14_GuardWrong.j1 k x0 x5 (Int.tmod (wrap64 (x1)) (x5.length : Int)) true) else (if 0 ≤ (wrap64 ((Int.tmod (wrap64 (x1)) (x5.length : Int)) - 1)) then (if (wrap64 ((Int.tmod (wrap64 (x1)) (x5.length : Int)) - 1)) < (x5.length : Int) then (if ((rd_T33 x5 (wrap64 ((Int.tmod (wrap64 (x1)) (x5.length : Int)) - 1))).f0) = 1 then (remontoirlaw14_GuardWrong.j1 k x0 x5 (Int.tmod (wrap64 (x1)) (x5.length : Int)) true) else (remontoirlaw14_GuardWrong.j1 k x0 x5 (Int.tmod (wrap64 (x1)) (x5.length : Int)) (((rd_T33 x5 (wrap64 ((Int.tmod (wrap64 (x1)) (x5.length : Int)) - 1))).f0) == 2))) else (none)) else (none))))
def remontoirlaw14_GuardWrong.j1 : Nat → ByteArray → List (S33) → Int → Bool → Option (Bool)
  | 0, _, _, _, _ => none
  | k + 1, x0, x5, x11, x72 => if x72 = true then (if 0 ≤ x11 then (if x11 ≤ (x5.length : Int) then ((guard_Good.f k (x5.take (x11 : Int).toNat)).bind fun t302 => (if t302 = true then (some false) else (remontoirlaw14_GuardWrong.j2 k x0 x5))) else (none)) else (none)) else (remontoirlaw14_GuardWrong.j2 k x0 x5)
def remontoirlaw14_GuardWrong.j2 : Nat → ByteArray → List (S33) → Option (Bool)
  | 0, _, _ => none
  | k + 1, x0, x5 => if 1 + x0.size ≤ 9223372036854775807 then (if ((⟨#[91]⟩ : ByteArray) ++ x0).size + 1 ≤ 9223372036854775807 then ((guard_Parse.f k (((⟨#[91]⟩ : ByteArray) ++ x0) ++ (⟨#[93]⟩ : ByteArray))).bind fun bt303 => (if bt303.2 = 2 then (remontoirlaw14_GuardWrong.j3 k x5 ((bt303.1.length : Int) != 0)) else (remontoirlaw14_GuardWrong.j3 k x5 true))) else (none)) else (none)
def remontoirlaw14_GuardWrong.j3 : Nat → List (S33) → Bool → Option (Bool)
  | 0, _, _ => none
  | k + 1, x5, x90 => if x90 = true then (some false) else ((guard_Good.f k x5).bind fun t307 => (if t307 = true then ((some (([] : List (S33)) : List (S33))).bind fun y308 => (if y308.length + x5.length < 8796093022208 then ((some (y308 ++ x5 : List (S33))).bind fun y311 => (if y311.length < 8796093022208 then ((guard_Good.f k (y311 ++ [(⟨1, 1⟩ : S33)])).bind fun t317 => (if t317 = true then (some false) else ((remontoirlaw14_wakes.f k).bind fun t318 => (some t318)))) else (none))) else (none))) else (some false)))
end
def remontoirlaw14_GuardWrong.f (k : Nat) (a0 : ByteArray) (a1 : Int) : Option (Bool) := if (wrap64 ((a0.size : Int) + 8)) > 60 then ((remontoirlaw14_wakes.f k).bind fun t282 => (some t282)) else ((guard_Parse.f k a0).bind fun bt283 => (if bt283.2 = 0 then ((some (([(⟨#[32, 97]⟩ : ByteArray), (⟨#[32, 49]⟩ : ByteArray), (⟨#[32, 60, 32, 49]⟩ : ByteArray), (⟨#[32, 41]⟩ : ByteArray), (⟨#[32, 40, 32, 97, 32, 60, 32, 49]⟩ : ByteArray), (⟨#[32, 33]⟩ : ByteArray), (⟨#[32, 38]⟩ : ByteArray), (⟨#[32, 93]⟩ : ByteArray)] : List ByteArray) : List ByteArray)).bind fun y288 => (remontoirlaw14_GuardWrong.l0 k a0 a1 bt283.1 y288 (y288.length : Int) 0)) else ((remontoirlaw14_wakes.f k).bind fun t287 => (some t287))))
theorem remontoirlaw14_GuardWrong.mono_l : ∀ k, (∀ y0 y1 y2 y3 y4 y5, LeO (remontoirlaw14_GuardWrong.l0 k y0 y1 y2 y3 y4 y5) (remontoirlaw14_GuardWrong.l0 (k + 1) y0 y1 y2 y3 y4 y5)) ∧ (∀ y0 y1 y2 y3, LeO (remontoirlaw14_GuardWrong.j1 k y0 y1 y2 y3) (remontoirlaw14_GuardWrong.j1 (k + 1) y0 y1 y2 y3)) ∧ (∀ y0 y1, LeO (remontoirlaw14_GuardWrong.j2 k y0 y1) (remontoirlaw14_GuardWrong.j2 (k + 1) y0 y1)) ∧ (∀ y0 y1, LeO (remontoirlaw14_GuardWrong.j3 k y0 y1) (remontoirlaw14_GuardWrong.j3 (k + 1) y0 y1))
  | 0 => ⟨fun _ _ _ _ _ _ r h => by simp [remontoirlaw14_GuardWrong.l0] at h, fun _ _ _ _ r h => by simp [remontoirlaw14_GuardWrong.j1] at h, fun _ _ r h => by simp [remontoirlaw14_GuardWrong.j2] at h, fun _ _ r h => by simp [remontoirlaw14_GuardWrong.j3] at h⟩
  | k + 1 => by
    obtain ⟨ih0, ih1, ih2, ih3⟩ := remontoirlaw14_GuardWrong.mono_l k
    refine ⟨?_, ?_, ?_, ?_⟩
    · intro y0 y1 y2 y3 y4 y5
      unfold remontoirlaw14_GuardWrong.l0
      repeat' first
      | (with_reducible exact ih0 _ _ _ _ _ _)
      | (with_reducible exact ih1 _ _ _ _)
      | (with_reducible exact ih2 _ _)
      | (with_reducible exact ih3 _ _)
      | (with_reducible exact guard_Good.mono _ _)
      | (with_reducible exact guard_Parse.mono _ _)
      | (with_reducible exact remontoirlaw14_wakes.mono _)
      | (with_reducible exact LeO.refl _)
      | (with_reducible exact LeO.none _)
      | (with_reducible refine LeO.ite ?_ ?_)
      | (with_reducible refine LeO.bind ?_ (fun _ => ?_))
      | exact ih0 _ _ _ _ _ _
      | exact ih1 _ _ _ _
      | exact ih2 _ _
      | exact ih3 _ _
      | exact guard_Good.mono _ _
      | exact guard_Parse.mono _ _
      | exact remontoirlaw14_wakes.mono _
      | exact LeO.none _
      | refine LeO.ite ?_ ?_
      | refine LeO.bind ?_ (fun _ => ?_)
    · intro y0 y1 y2 y3
      unfold remontoirlaw14_GuardWrong.j1
      repeat' first
      | (with_reducible exact ih0 _ _ _ _ _ _)
      | (with_reducible exact ih1 _ _ _ _)
      | (with_reducible exact ih2 _ _)
      | (with_reducible exact ih3 _ _)
      | (with_reducible exact guard_Good.mono _ _)
      | (with_reducible exact guard_Parse.mono _ _)
      | (with_reducible exact remontoirlaw14_wakes.mono _)
      | (with_reducible exact LeO.refl _)
      | (with_reducible exact LeO.none _)
      | (with_reducible refine LeO.ite ?_ ?_)
      | (with_reducible refine LeO.bind ?_ (fun _ => ?_))
      | exact ih0 _ _ _ _ _ _
      | exact ih1 _ _ _ _
      | exact ih2 _ _
      | exact ih3 _ _
      | exact guard_Good.mono _ _
      | exact guard_Parse.mono _ _
      | exact remontoirlaw14_wakes.mono _
      | exact LeO.none _
      | refine LeO.ite ?_ ?_
      | refine LeO.bind ?_ (fun _ => ?_)
    · intro y0 y1
      unfold remontoirlaw14_GuardWrong.j2
      repeat' first
      | (with_reducible exact ih0 _ _ _ _ _ _)
      | (with_reducible exact ih1 _ _ _ _)
      | (with_reducible exact ih2 _ _)
      | (with_reducible exact ih3 _ _)
      | (with_reducible exact guard_Good.mono _ _)
      | (with_reducible exact guard_Parse.mono _ _)
      | (with_reducible exact remontoirlaw14_wakes.mono _)
      | (with_reducible exact LeO.refl _)
      | (with_reducible exact LeO.none _)
      | (with_reducible refine LeO.ite ?_ ?_)
      | (with_reducible refine LeO.bind ?_ (fun _ => ?_))
      | exact ih0 _ _ _ _ _ _
      | exact ih1 _ _ _ _
      | exact ih2 _ _
      | exact ih3 _ _
      | exact guard_Good.mono _ _
      | exact guard_Parse.mono _ _
      | exact remontoirlaw14_wakes.mono _
      | exact LeO.none _
      | refine LeO.ite ?_ ?_
      | refine LeO.bind ?_ (fun _ => ?_)
    · intro y0 y1
      unfold remontoirlaw14_GuardWrong.j3
      repeat' first
      | (with_reducible exact ih0 _ _ _ _ _ _)
      | (with_reducible exact ih1 _ _ _ _)
      | (with_reducible exact ih2 _ _)
      | (with_reducible exact ih3 _ _)
      | (with_reducible exact guard_Good.mono _ _)
      | (with_reducible exact guard_Parse.mono _ _)
      | (with_reducible exact remontoirlaw14_wakes.mono _)
      | (with_reducible exact LeO.refl _)
      | (with_reducible exact LeO.none _)
      | (with_reducible refine LeO.ite ?_ ?_)
      | (with_reducible refine LeO.bind ?_ (fun _ => ?_))
      | exact ih0 _ _ _ _ _ _
      | exact ih1 _ _ _ _
      | exact ih2 _ _
      | exact ih3 _ _
      | exact guard_Good.mono _ _
      | exact guard_Parse.mono _ _
      | exact remontoirlaw14_wakes.mono _
      | exact LeO.none _
      | refine LeO.ite ?_ ?_
      | refine LeO.bind ?_ (fun _ => ?_)
theorem remontoirlaw14_GuardWrong.mono : ∀ a0 a1 k, LeO (remontoirlaw14_GuardWrong.f k a0 a1) (remontoirlaw14_GuardWrong.f (k + 1) a0 a1) := by
  intro a0 a1 k
  obtain ⟨ih0, ih1, ih2, ih3⟩ := remontoirlaw14_GuardWrong.mono_l k
  unfold remontoirlaw14_GuardWrong.f
  repeat' first
      | (with_reducible exact ih0 _ _ _ _ _ _)
      | (with_reducible exact ih1 _ _ _ _)
      | (with_reducible exact ih2 _ _)
      | (with_reducible exact ih3 _ _)
      | (with_reducible exact guard_Good.mono _ _)
      | (with_reducible exact guard_Parse.mono _ _)
      | (with_reducible exact remontoirlaw14_wakes.mono _)
      | (with_reducible exact LeO.refl _)
      | (with_reducible exact LeO.none _)
      | (with_reducible refine LeO.ite ?_ ?_)
      | (with_reducible refine LeO.bind ?_ (fun _ => ?_))
      | exact ih0 _ _ _ _ _ _
      | exact ih1 _ _ _ _
      | exact ih2 _ _
      | exact ih3 _ _
      | exact guard_Good.mono _ _
      | exact guard_Parse.mono _ _
      | exact remontoirlaw14_wakes.mono _
      | exact LeO.none _
      | refine LeO.ite ?_ ?_
      | refine LeO.bind ?_ (fun _ => ?_)
set_option maxHeartbeats 8000000 in
set_option maxRecDepth 100000 in
theorem remontoirlaw14_GuardWrong.calls (k : Nat) (a0 : ByteArray) (a1 : Int) (r : Bool) (w : World) (hT : Tabs2 w) (h : remontoirlaw14_GuardWrong.f k a0 a1 = some r) :
    Calls Tryd.prog 6 #[.string a0, .int .u16 a1] w fun e w' => e = .returned (.bool r) ∧ Below w.heap.size w w' := by
  have hu33 := Tryd.underlying33
  have HB := Aside0.mk (Below.refl w.heap.size w)
  have H : (if (wrap64 ((a0.size : Int) + 8)) > 60 then ((remontoirlaw14_wakes.f k).bind fun t282 => (some t282)) else ((guard_Parse.f k a0).bind fun bt283 => (if bt283.2 = 0 then ((some (([(⟨#[32, 97]⟩ : ByteArray), (⟨#[32, 49]⟩ : ByteArray), (⟨#[32, 60, 32, 49]⟩ : ByteArray), (⟨#[32, 41]⟩ : ByteArray), (⟨#[32, 40, 32, 97, 32, 60, 32, 49]⟩ : ByteArray), (⟨#[32, 33]⟩ : ByteArray), (⟨#[32, 38]⟩ : ByteArray), (⟨#[32, 93]⟩ : ByteArray)] : List ByteArray) : List ByteArray)).bind fun y288 => (remontoirlaw14_GuardWrong.l0 k a0 a1 bt283.1 y288 (y288.length : Int) 0)) else ((remontoirlaw14_wakes.f k).bind fun t287 => (some t287))))) = some r := h
  clear h
  by_cases c3 : (wrap64 ((a0.size : Int) + 8)) > 60
  · rw [if_pos c3] at H
    have c3b0 : decide (60 < (wrap64 ((a0.size : Int) + 8))) = true := decide_eq_true c3
    clear c3
    replace H := Option.bind_eq_some_iff.mp H
    obtain ⟨t282, A40, H⟩ := H
    replace H : (some t282) = some r := H
    have A4 := Aside0.mk A40
    clear A40
    obtain rfl := Option.some.inj H
    go_enter Tryd.func6, Tryd.ntmps6
    go_wp2_with (first | ((with_reducible refine gate_callee (f := 7) rfl ?_); refine goesL_ (some 18) rfl rfl Tryd.func7 (by kernel_rfl) rfl #[] rfl (by (try simp only [List.map_toArray, List.map_cons, List.map_nil]); first | done | rfl | (simp only [List.length_drop, List.length_take]; rfl)) ?_; (with_reducible refine (remontoirlaw14_wakes.calls k  t282 _ (Tabs2.below hT (by repeat (first | (with_reducible first | exact HB.out | apply below_alloc | apply pw_below_drewN | apply below_drew1) | exact HB.out))) A4.out).mono ?_); rintro e w5 ⟨rfl, hb⟩; refine ⟨_, rfl, ?_⟩; have n0_ := Aside0.mk (below_step (by repeat (first | (with_reducible first | exact HB.out | apply below_alloc | apply pw_below_drewN | apply below_drew1) | exact HB.out)) hb); clear HB; have HB := n0_; clear n0_; (try clear hb); (try clear hb2); (try clear hk); (try clear hi)))
    go_ret
    exact ⟨by first | rfl | (simp [errW_none, errW_some] <;> rfl) | (simp [*, errW_none, errW_some] <;> rfl), by repeat (first | (with_reducible first | exact HB.out | apply below_alloc | apply pw_below_drewN | apply below_drew1) | exact HB.out)⟩
  · rw [if_neg c3] at H
    have c3b0 : decide (60 < (wrap64 ((a0.size : Int) + 8))) = false := decide_eq_false c3
    clear c3
    replace H := Option.bind_eq_some_iff.mp H
    obtain ⟨⟨t283, t284⟩, A60, H⟩ := H
    replace H : (if t284 = 0 then ((some (([(⟨#[32, 97]⟩ : ByteArray), (⟨#[32, 49]⟩ : ByteArray), (⟨#[32, 60, 32, 49]⟩ : ByteArray), (⟨#[32, 41]⟩ : ByteArray), (⟨#[32, 40, 32, 97, 32, 60, 32, 49]⟩ : ByteArray), (⟨#[32, 33]⟩ : ByteArray), (⟨#[32, 38]⟩ : ByteArray), (⟨#[32, 93]⟩ : ByteArray)] : List ByteArray) : List ByteArray)).bind fun y288 => (remontoirlaw14_GuardWrong.l0 k a0 a1 t283 y288 (y288.length : Int) 0)) else ((remontoirlaw14_wakes.f k).bind fun t287 => (some t287))) = some r := H
    have A6 := Aside0.mk A60
    clear A60
    by_cases c7 : t284 = 0
    · rw [if_pos c7] at H
      have c7b0 : (t284 == 0) = true := beq_iff_eq.mpr c7
      have c7b1 : (t284 != 0) = false := bne_eq_false_iff_eq.mpr c7
      clear c7
      obtain ⟨y288, hy288⟩ : ∃ y_ : List ByteArray, y_ = (([(⟨#[32, 97]⟩ : ByteArray), (⟨#[32, 49]⟩ : ByteArray), (⟨#[32, 60, 32, 49]⟩ : ByteArray), (⟨#[32, 41]⟩ : ByteArray), (⟨#[32, 40, 32, 97, 32, 60, 32, 49]⟩ : ByteArray), (⟨#[32, 33]⟩ : ByteArray), (⟨#[32, 38]⟩ : ByteArray), (⟨#[32, 93]⟩ : ByteArray)] : List ByteArray)) := ⟨_, rfl⟩
      replace H : (remontoirlaw14_GuardWrong.l0 k a0 a1 t283 y288 (y288.length : Int) 0) = some r := by first | (rw [hy288]; with_reducible exact H) | (have H2_ := (Option.bind_some _ _).symm.trans H; rw [hy288]; with_reducible exact H2_) | (have H2_ := (Option.bind_some _ _).symm.trans H; with_reducible exact H2_) | with_reducible exact H | (rw [hy288]; exact H) | exact H
      have Ny288 := Aside0.mk hy288
      clear hy288
      have H' := Aside0.mk H
      clear H
      go_enter Tryd.func6, Tryd.ntmps6
      go_wp2_with (first | ((with_reducible refine gate_callee (f := 9) rfl ?_); refine goesL_ (some 21) rfl rfl Tryd.func9 (by kernel_rfl) rfl #[.string a0] rfl (by (try simp only [List.map_toArray, List.map_cons, List.map_nil]); first | done | rfl | (simp only [List.length_drop, List.length_take]; rfl)) ?_; (with_reducible refine (guard_Parse.calls k a0 t283 t284 _ (Tabs2.below hT (by repeat (first | (with_reducible first | exact HB.out | apply below_alloc | apply pw_below_drewN | apply below_drew1) | exact HB.out))) A6.out).mono ?_); rintro e w8 ⟨v285, rfl, ho0, hb⟩; refine ⟨_, rfl, ?_⟩; have n0_ := Aside0.mk (Kd.R_lower ho0 (below_size (by repeat (first | (with_reducible first | exact HB.out | apply below_alloc | apply pw_below_drewN | apply below_drew1) | exact HB.out)))); have n1_ := Aside0.mk (below_step (by repeat (first | (with_reducible first | exact HB.out | apply below_alloc | apply pw_below_drewN | apply below_drew1) | exact HB.out)) hb); clear HB; have HO286 := n0_; have HB := n1_; clear n0_ n1_; (try clear hb); (try clear hb2); (try clear hk); (try clear hi); (try clear ho0)) | ((with_reducible refine gate_dst (N := 27) rfl ?_); (try (refine gate_guard (by rfl) ?_; dsimp only)); refine Kd.R_lit Kd.string _ 9 ?hg (N := 27) ?hd (xs := ([(⟨#[32, 97]⟩ : ByteArray), (⟨#[32, 49]⟩ : ByteArray), (⟨#[32, 60, 32, 49]⟩ : ByteArray), (⟨#[32, 41]⟩ : ByteArray), (⟨#[32, 40, 32, 97, 32, 60, 32, 49]⟩ : ByteArray), (⟨#[32, 33]⟩ : ByteArray), (⟨#[32, 38]⟩ : ByteArray), (⟨#[32, 93]⟩ : ByteArray)] : List ByteArray)) (inner := [.string (⟨#[32, 97]⟩ : ByteArray), .string (⟨#[32, 49]⟩ : ByteArray), .string (⟨#[32, 60, 32, 49]⟩ : ByteArray), .string (⟨#[32, 41]⟩ : ByteArray), .string (⟨#[32, 40, 32, 97, 32, 60, 32, 49]⟩ : ByteArray), .string (⟨#[32, 33]⟩ : ByteArray), .string (⟨#[32, 38]⟩ : ByteArray), .string (⟨#[32, 93]⟩ : ByteArray)]) (ok := fun _ => True) (okp := fun _ => True) ?hr ?hp (fun _ hk => hk) trivial (Below.refl _ _) (Nat.le_refl _) (by simp) ?_; (case hd => rfl); (case hg => rfl); (case hr => first | (go_simp; done) | (go_simp; rfl)); (case hp => exact (Reps.one (show Kd.M Kd.string _ _ _ (⟨#[32, 97]⟩ : ByteArray) [.string (⟨#[32, 97]⟩ : ByteArray)] from rfl) (Reps.one (show Kd.M Kd.string _ _ _ (⟨#[32, 49]⟩ : ByteArray) [.string (⟨#[32, 49]⟩ : ByteArray)] from rfl) (Reps.one (show Kd.M Kd.string _ _ _ (⟨#[32, 60, 32, 49]⟩ : ByteArray) [.string (⟨#[32, 60, 32, 49]⟩ : ByteArray)] from rfl) (Reps.one (show Kd.M Kd.string _ _ _ (⟨#[32, 41]⟩ : ByteArray) [.string (⟨#[32, 41]⟩ : ByteArray)] from rfl) (Reps.one (show Kd.M Kd.string _ _ _ (⟨#[32, 40, 32, 97, 32, 60, 32, 49]⟩ : ByteArray) [.string (⟨#[32, 40, 32, 97, 32, 60, 32, 49]⟩ : ByteArray)] from rfl) (Reps.one (show Kd.M Kd.string _ _ _ (⟨#[32, 33]⟩ : ByteArray) [.string (⟨#[32, 33]⟩ : ByteArray)] from rfl) (Reps.one (show Kd.M Kd.string _ _ _ (⟨#[32, 38]⟩ : ByteArray) [.string (⟨#[32, 38]⟩ : ByteArray)] from rfl) (Reps.one (show Kd.M Kd.string _ _ _ (⟨#[32, 93]⟩ : ByteArray) [.string (⟨#[32, 93]⟩ : ByteArray)] from rfl) (Reps.none _ _)))))))))); intro v289 w9 ho10 hb hg_ hnew_; clear hg_ hnew_; (first | rw [← Ny288.out] at ho10 | (simp only [Int.reduceToNat] at ho10; rw [← Ny288.out] at ho10)); have n0_ := Aside0.mk (Kd.R_below (by (with_reducible repeat (first | apply Kd.R_alloc | apply Kd.R_drewN | apply Kd.R_drew)); exact HO286.out) hb); have n1_ := Aside0.mk (Kd.R_lower ho10 (below_size (by repeat (first | (with_reducible first | exact HB.out | apply below_alloc | apply pw_below_drewN | apply below_drew1) | exact HB.out)))); have n2_ := Aside0.mk (below_step (by repeat (first | (with_reducible first | exact HB.out | apply below_alloc | apply pw_below_drewN | apply below_drew1) | exact HB.out)) hb); clear HO286; clear HB; have HO286 := n0_; have HO290 := n1_; have HB := n2_; clear n0_ n1_ n2_; clear hb ho10; obtain ⟨Ao11, co11, eo11⟩ := Kd.R_slice HO290.out; subst eo11))
      go_loopg [29] k (fun kq v29 w' => ∃ (x29_1 : Int), v29 = .int .i64 x29_1 ∧ Aside0 (remontoirlaw14_GuardWrong.l0 kq a0 a1 t283 y288 (y288.length : Int) x29_1 = some r) ∧ Aside0 (kq ≤ k) ∧ Aside0 (Kd.R k33 33 w' w.heap.size (fun _ => True) v285 t283) ∧ Aside0 (Kd.R Kd.string 9 w' w.heap.size (fun _ => True) (.slice Ao11 y288.length co11) y288) ∧ Aside0 (Below w.heap.size w w'))
      case atStart => exact ⟨(0), (by first | rfl | (simp; done) | (simp [*]; done)), H', ⟨Nat.le_refl _⟩, ⟨by (with_reducible repeat (first | apply Kd.R_alloc | apply Kd.R_drewN | apply Kd.R_drew)); exact HO286.out⟩, ⟨by (with_reducible repeat (first | apply Kd.R_alloc | apply Kd.R_drewN | apply Kd.R_drew)); exact HO290.out⟩, ⟨by repeat (first | (with_reducible first | exact HB.out | apply below_alloc | apply pw_below_drewN | apply below_drew1) | exact HB.out)⟩⟩
      case round =>
        clear H'
        try clear p2
        try clear c3
        try clear c3b0
        try clear c6
        try clear p6
        try clear c7
        try clear c7b0
        try clear c7b1
        try clear c9
        obtain ⟨x29_1, rfl, HA, HK1, HO_5, HO_27, HB⟩ := hrel
        cases gk with
        | zero => exact absurd HA.out (by simp [remontoirlaw14_GuardWrong.l0])
        | succ k1 =>
          have H := HA.out
          clear HA
          simp only [remontoirlaw14_GuardWrong.l0] at H
          by_cases c12 : x29_1 < (y288.length : Int)
          · rw [if_pos c12] at H
            have c12b0 : decide (x29_1 < (y288.length : Int)) = true := decide_eq_true c12
            clear c12
            by_cases c13 : 0 ≤ x29_1
            · rw [if_pos c13] at H
              have c13b0 : decide (0 ≤ x29_1) = true := decide_eq_true c13
              clear c13
              by_cases c14 : x29_1 < (y288.length : Int)
              · rw [if_pos c14] at H
                have c14b0 : decide (x29_1 < (y288.length : Int)) = true := decide_eq_true c14
                clear c14
                by_cases c15 : a0.size + (rdOf ByteArray.empty y288 x29_1).size ≤ 9223372036854775807
                · rw [if_pos c15] at H
                  have c15b0 := eq_true c15
                  have c15b1 : decide (a0.size + (rdOf ByteArray.empty y288 x29_1).size ≤ 9223372036854775807) = true := decide_eq_true c15
                  try have c15b2 : (9223372036854775807 < a0.size + (rdOf ByteArray.empty y288 x29_1).size) = False := eq_false (Nat.not_lt.2 c15)
                  replace H := Option.bind_eq_some_iff.mp H
                  obtain ⟨⟨t292, t293⟩, A160, H⟩ := H
                  replace H : (if t293 = 2 then (if (t292.length : Int) = 0 then (remontoirlaw14_GuardWrong.l0 k1 a0 a1 t283 y288 (y288.length : Int) (wrap64 (x29_1 + 1))) else (some false)) else (some false)) = some r := H
                  have A16 := Aside0.mk A160
                  clear A160
                  by_cases c17 : t293 = 2
                  · rw [if_pos c17] at H
                    have c17b0 : (t293 == 2) = true := beq_iff_eq.mpr c17
                    have c17b1 : (t293 != 2) = false := bne_eq_false_iff_eq.mpr c17
                    clear c17
                    by_cases c18 : (t292.length : Int) = 0
                    · rw [if_pos c18] at H
                      have c18b0 : ((t292.length : Int) == 0) = true := beq_iff_eq.mpr c18
                      have c18b1 : ((t292.length : Int) != 0) = false := bne_eq_false_iff_eq.mpr c18
                      clear c18
                      have H' := Aside0.mk H
                      clear H
                      have p291 : 0 ≤ (x29_1 : Int) := of_decide_eq_true (by first | (with_reducible assumption) | assumption)
                      have q291 : x29_1 < (y288.length : Int) := of_decide_eq_true (by first | (with_reducible assumption) | assumption)
                      obtain ⟨ad291, e291, hx291_0⟩ := Kd.at_string (Kd.R_reads' HO_27.out).2.2 x29_1 p291 q291
                      cases e291
                      replace p291 := eq_true p291
                      replace q291 := eq_true q291
                      go_wp2_with (first | ((with_reducible refine gate_callee (f := 9) rfl ?_); refine goesL_ (some 37) rfl rfl Tryd.func9 (by kernel_rfl) rfl #[.string (a0 ++ (rdOf ByteArray.empty y288 x29_1))] rfl (by (try simp only [List.map_toArray, List.map_cons, List.map_nil]); first | done | rfl | (simp only [List.length_drop, List.length_take]; rfl)) ?_; (with_reducible refine (guard_Parse.calls k1 (a0 ++ (rdOf ByteArray.empty y288 x29_1)) t292 t293 _ (Tabs2.below hT (by repeat (first | (with_reducible first | exact HB.out | apply below_alloc | apply pw_below_drewN | apply below_drew1) | exact HB.out))) A16.out).mono ?_); rintro e w19 ⟨v294, rfl, ho0, hb⟩; refine ⟨_, rfl, ?_⟩; have n0_ := Aside0.mk (Kd.R_elder' (by (with_reducible repeat (first | apply Kd.R_alloc | apply Kd.R_drewN | apply Kd.R_drew)); exact HO_5.out) (Kd.R_base ho0) hb); have n1_ := Aside0.mk (Kd.R_below (by (with_reducible repeat (first | apply Kd.R_alloc | apply Kd.R_drewN | apply Kd.R_drew)); exact HO_27.out) hb); have n2_ := Aside0.mk (Kd.R_lower (Kd.R_new' ho0 (Kd.R_lt (by (with_reducible repeat (first | apply Kd.R_alloc | apply Kd.R_drewN | apply Kd.R_drew)); exact HO_5.out))) (below_size (by repeat (first | (with_reducible first | exact HB.out | apply below_alloc | apply pw_below_drewN | apply below_drew1) | exact HB.out)))); have n3_ := Aside0.mk (below_step (by repeat (first | (with_reducible first | exact HB.out | apply below_alloc | apply pw_below_drewN | apply below_drew1) | exact HB.out)) hb); clear HO_5; clear HO_27; clear HB; have HO_5 := n0_; have HO_27 := n1_; have HO295 := n2_; have HB := n3_; clear n0_ n1_ n2_ n3_; (try clear hb); (try clear hb2); (try clear hk); (try clear hi); (try clear ho0); obtain ⟨Ao20, co20, eo20⟩ := Kd.R_slice HO295.out; subst eo20))
                      go_roundg k1
                      case measure => have := HK1.out; omega
                      case rel => exact ⟨(wrap64 (x29_1 + 1)), (by first | rfl | (simp; done) | (simp [*]; done)), H', ⟨by have := HK1.out; omega⟩, ⟨by (with_reducible repeat (first | apply Kd.R_alloc | apply Kd.R_drewN | apply Kd.R_drew)); exact Kd.R_mono HO_5.out (fun _ hk => trivial)⟩, ⟨by (with_reducible repeat (first | apply Kd.R_alloc | apply Kd.R_drewN | apply Kd.R_drew)); exact HO_27.out⟩, ⟨by repeat (first | (with_reducible first | exact HB.out | apply below_alloc | apply pw_below_drewN | apply below_drew1) | exact HB.out)⟩⟩
                    · rw [if_neg c18] at H
                      have c18b0 : ((t292.length : Int) == 0) = false := beq_eq_false_iff_ne.mpr c18
                      have c18b1 : ((t292.length : Int) != 0) = true := bne_iff_ne.mpr c18
                      have c18b2 : ¬ (t292 = []) := fun h_ => c18 (by rw [h_]; rfl)
                      obtain rfl := Option.some.inj H
                      have p291 : 0 ≤ (x29_1 : Int) := of_decide_eq_true (by first | (with_reducible assumption) | assumption)
                      have q291 : x29_1 < (y288.length : Int) := of_decide_eq_true (by first | (with_reducible assumption) | assumption)
                      obtain ⟨ad291, e291, hx291_0⟩ := Kd.at_string (Kd.R_reads' HO_27.out).2.2 x29_1 p291 q291
                      cases e291
                      replace p291 := eq_true p291
                      replace q291 := eq_true q291
                      go_wp2_with (first | ((with_reducible refine gate_callee (f := 9) rfl ?_); refine goesL_ (some 37) rfl rfl Tryd.func9 (by kernel_rfl) rfl #[.string (a0 ++ (rdOf ByteArray.empty y288 x29_1))] rfl (by (try simp only [List.map_toArray, List.map_cons, List.map_nil]); first | done | rfl | (simp only [List.length_drop, List.length_take]; rfl)) ?_; (with_reducible refine (guard_Parse.calls k1 (a0 ++ (rdOf ByteArray.empty y288 x29_1)) t292 t293 _ (Tabs2.below hT (by repeat (first | (with_reducible first | exact HB.out | apply below_alloc | apply pw_below_drewN | apply below_drew1) | exact HB.out))) A16.out).mono ?_); rintro e w21 ⟨v294, rfl, ho0, hb⟩; refine ⟨_, rfl, ?_⟩; have n0_ := Aside0.mk (Kd.R_elder' (by (with_reducible repeat (first | apply Kd.R_alloc | apply Kd.R_drewN | apply Kd.R_drew)); exact HO_5.out) (Kd.R_base ho0) hb); have n1_ := Aside0.mk (Kd.R_below (by (with_reducible repeat (first | apply Kd.R_alloc | apply Kd.R_drewN | apply Kd.R_drew)); exact HO_27.out) hb); have n2_ := Aside0.mk (Kd.R_lower (Kd.R_new' ho0 (Kd.R_lt (by (with_reducible repeat (first | apply Kd.R_alloc | apply Kd.R_drewN | apply Kd.R_drew)); exact HO_5.out))) (below_size (by repeat (first | (with_reducible first | exact HB.out | apply below_alloc | apply pw_below_drewN | apply below_drew1) | exact HB.out)))); have n3_ := Aside0.mk (below_step (by repeat (first | (with_reducible first | exact HB.out | apply below_alloc | apply pw_below_drewN | apply below_drew1) | exact HB.out)) hb); clear HO_5; clear HO_27; clear HB; have HO_5 := n0_; have HO_27 := n1_; have HO295 := n2_; have HB := n3_; clear n0_ n1_ n2_ n3_; (try clear hb); (try clear hb2); (try clear hk); (try clear hi); (try clear ho0); obtain ⟨Ao22, co22, eo22⟩ := Kd.R_slice HO295.out; subst eo22))
                      go_ret
                      exact ⟨by first | rfl | (simp [errW_none, errW_some] <;> rfl) | (simp [*, errW_none, errW_some] <;> rfl), by repeat (first | (with_reducible first | exact HB.out | apply below_alloc | apply pw_below_drewN | apply below_drew1) | exact HB.out)⟩
                  · rw [if_neg c17] at H
                    have c17b0 : (t293 == 2) = false := beq_eq_false_iff_ne.mpr c17
                    have c17b1 : (t293 != 2) = true := bne_iff_ne.mpr c17
                    obtain rfl := Option.some.inj H
                    have p291 : 0 ≤ (x29_1 : Int) := of_decide_eq_true (by first | (with_reducible assumption) | assumption)
                    have q291 : x29_1 < (y288.length : Int) := of_decide_eq_true (by first | (with_reducible assumption) | assumption)
                    obtain ⟨ad291, e291, hx291_0⟩ := Kd.at_string (Kd.R_reads' HO_27.out).2.2 x29_1 p291 q291
                    cases e291
                    replace p291 := eq_true p291
                    replace q291 := eq_true q291
                    go_wp2_with (first | ((with_reducible refine gate_callee (f := 9) rfl ?_); refine goesL_ (some 37) rfl rfl Tryd.func9 (by kernel_rfl) rfl #[.string (a0 ++ (rdOf ByteArray.empty y288 x29_1))] rfl (by (try simp only [List.map_toArray, List.map_cons, List.map_nil]); first | done | rfl | (simp only [List.length_drop, List.length_take]; rfl)) ?_; (with_reducible refine (guard_Parse.calls k1 (a0 ++ (rdOf ByteArray.empty y288 x29_1)) t292 t293 _ (Tabs2.below hT (by repeat (first | (with_reducible first | exact HB.out | apply below_alloc | apply pw_below_drewN | apply below_drew1) | exact HB.out))) A16.out).mono ?_); rintro e w23 ⟨v294, rfl, ho0, hb⟩; refine ⟨_, rfl, ?_⟩; have n0_ := Aside0.mk (Kd.R_elder' (by (with_reducible repeat (first | apply Kd.R_alloc | apply Kd.R_drewN | apply Kd.R_drew)); exact HO_5.out) (Kd.R_base ho0) hb); have n1_ := Aside0.mk (Kd.R_below (by (with_reducible repeat (first | apply Kd.R_alloc | apply Kd.R_drewN | apply Kd.R_drew)); exact HO_27.out) hb); have n2_ := Aside0.mk (Kd.R_lower (Kd.R_new' ho0 (Kd.R_lt (by (with_reducible repeat (first | apply Kd.R_alloc | apply Kd.R_drewN | apply Kd.R_drew)); exact HO_5.out))) (below_size (by repeat (first | (with_reducible first | exact HB.out | apply below_alloc | apply pw_below_drewN | apply below_drew1) | exact HB.out)))); have n3_ := Aside0.mk (below_step (by repeat (first | (with_reducible first | exact HB.out | apply below_alloc | apply pw_below_drewN | apply below_drew1) | exact HB.out)) hb); clear HO_5; clear HO_27; clear HB; have HO_5 := n0_; have HO_27 := n1_; have HO295 := n2_; have HB := n3_; clear n0_ n1_ n2_ n3_; (try clear hb); (try clear hb2); (try clear hk); (try clear hi); (try clear ho0)))
                    go_ret
                    exact ⟨by first | rfl | (simp [errW_none, errW_some] <;> rfl) | (simp [*, errW_none, errW_some] <;> rfl), by repeat (first | (with_reducible first | exact HB.out | apply below_alloc | apply pw_below_drewN | apply below_drew1) | exact HB.out)⟩
                · rw [if_neg c15] at H
                  exact absurd H (by simp)
              · rw [if_neg c14] at H
                exact absurd H (by simp)
            · rw [if_neg c13] at H
              exact absurd H (by simp)
          · rw [if_neg c12] at H
            have c12b0 : decide (x29_1 < (y288.length : Int)) = false := decide_eq_false c12
            clear c12
            by_cases c24 : (t283.length : Int) = 0
            · rw [if_pos c24] at H
              exact absurd H (by simp)
            · rw [if_neg c24] at H
              have c24b0 : ((t283.length : Int) == 0) = false := beq_eq_false_iff_ne.mpr c24
              have c24b1 : ((t283.length : Int) != 0) = true := bne_iff_ne.mpr c24
              have c24b2 : ¬ (t283 = []) := fun h_ => c24 (by rw [h_]; rfl)
              have HC25 := Aside0.mk H
              clear H
              obtain ⟨Ao26, co26, eo26⟩ := Kd.R_slice HO_5.out
              subst eo26
              go_upto_region 14 with (fail)
              go_cut [72] (fun v72 wc => ∃ (kq : Nat) (x72_24 : Bool), v72 = .bool x72_24 ∧ Aside0 (remontoirlaw14_GuardWrong.j1 kq a0 t283 (Int.tmod (wrap64 (a1)) (t283.length : Int)) x72_24 = some r) ∧ Aside0 (kq ≤ k1) ∧ Aside0 (Kd.R k33 33 wc w.heap.size (fun _ => True) (.slice Ao26 t283.length co26) t283) ∧ Aside0 (Below w.heap.size w wc))
              case first =>
                have H := HC25.out
                clear HC25
                by_cases c27 : (Int.tmod (wrap64 (a1)) (t283.length : Int)) = 0
                · rw [if_pos c27] at H
                  have c27b0 : ((Int.tmod (wrap64 (a1)) (t283.length : Int)) == 0) = true := beq_iff_eq.mpr c27
                  have c27b1 : ((Int.tmod (wrap64 (a1)) (t283.length : Int)) != 0) = false := bne_eq_false_iff_eq.mpr c27
                  clear c27
                  (first | rw [c27b0] | (simp only [i64_w, i32_w]; rw [c27b0]) | skip)
                  have H' := Aside0.mk H
                  clear H
                  go_wp2
                  (try subst hji28)
                  (try subst hji34)
                  go_meet
                  case rel => exact ⟨_, (true), (by first | rfl | (simp; done) | (simp [*]; done)), H', ⟨by have := HK1.out; first | omega | exact Nat.le_refl _⟩, ⟨by (with_reducible repeat (first | apply Kd.R_alloc | apply Kd.R_drewN | apply Kd.R_drew)); exact HO_5.out⟩, ⟨by repeat (first | (with_reducible first | exact HB.out | apply below_alloc | apply pw_below_drewN | apply below_drew1) | exact HB.out)⟩⟩
                · rw [if_neg c27] at H
                  have c27b0 : ((Int.tmod (wrap64 (a1)) (t283.length : Int)) == 0) = false := beq_eq_false_iff_ne.mpr c27
                  have c27b1 : ((Int.tmod (wrap64 (a1)) (t283.length : Int)) != 0) = true := bne_iff_ne.mpr c27
                  (first | rw [c27b0] | (simp only [i64_w, i32_w]; rw [c27b0]) | skip)
                  obtain ⟨ji28, hji28⟩ : ∃ j_ : Int, (wrap64 ((Int.tmod (wrap64 (a1)) (t283.length : Int)) - 1)) = j_ := ⟨_, rfl⟩
                  replace H : (if 0 ≤ (ji28) then (if (ji28) < (t283.length : Int) then (if ((rd_T33 t283 (ji28)).f0) = 1 then (remontoirlaw14_GuardWrong.j1 k1 a0 t283 (Int.tmod (wrap64 (a1)) (t283.length : Int)) true) else (remontoirlaw14_GuardWrong.j1 k1 a0 t283 (Int.tmod (wrap64 (a1)) (t283.length : Int)) (((rd_T33 t283 (ji28)).f0) == 2))) else (none)) else (none)) = some r := by first | (rw [hji28] at H; exact H) | (simp only [hji28] at H ⊢; exact H)
                  have hji28w : (IntKind.i64.wrap ((Int.tmod (wrap64 (a1)) (t283.length : Int)) - 1)) = ji28 := (i64_w _).trans hji28
                  by_cases c29 : 0 ≤ (ji28)
                  · rw [if_pos c29] at H
                    have c29b0 : decide (0 ≤ (ji28)) = true := decide_eq_true c29
                    clear c29
                    by_cases c30 : (ji28) < (t283.length : Int)
                    · rw [if_pos c30] at H
                      have c30b0 : decide ((ji28) < (t283.length : Int)) = true := decide_eq_true c30
                      clear c30
                      by_cases c31 : ((rd_T33 t283 (ji28)).f0) = 1
                      · rw [if_pos c31] at H
                        have c31b0 : (((rd_T33 t283 (ji28)).f0) == 1) = true := beq_iff_eq.mpr c31
                        have c31b1 : (((rd_T33 t283 (ji28)).f0) != 1) = false := bne_eq_false_iff_eq.mpr c31
                        clear c31
                        have H' := Aside0.mk H
                        clear H
                        have p296 : 0 ≤ ((ji28) : Int) := of_decide_eq_true (by first | (with_reducible assumption) | assumption)
                        have q296 : (ji28) < (t283.length : Int) := of_decide_eq_true (by first | (with_reducible assumption) | assumption)
                        obtain ⟨ad296, e296, hx296_0, hx296_1⟩ := at_T33 (Kd.R_reads' HO_5.out).2.2 (ji28) p296 q296
                        cases e296
                        replace p296 := eq_true p296
                        replace q296 := eq_true q296
                        go_wp2
                        (try subst hji28)
                        (try subst hji34)
                        go_meet
                        case rel => exact ⟨_, (true), (by first | rfl | (simp; done) | (simp [*]; done)), H', ⟨by have := HK1.out; first | omega | exact Nat.le_refl _⟩, ⟨by (with_reducible repeat (first | apply Kd.R_alloc | apply Kd.R_drewN | apply Kd.R_drew)); exact HO_5.out⟩, ⟨by repeat (first | (with_reducible first | exact HB.out | apply below_alloc | apply pw_below_drewN | apply below_drew1) | exact HB.out)⟩⟩
                      · rw [if_neg c31] at H
                        have c31b0 : (((rd_T33 t283 (ji28)).f0) == 1) = false := beq_eq_false_iff_ne.mpr c31
                        have c31b1 : (((rd_T33 t283 (ji28)).f0) != 1) = true := bne_iff_ne.mpr c31
                        have H' := Aside0.mk H
                        clear H
                        have p296 : 0 ≤ ((ji28) : Int) := of_decide_eq_true (by first | (with_reducible assumption) | assumption)
                        have q296 : (ji28) < (t283.length : Int) := of_decide_eq_true (by first | (with_reducible assumption) | assumption)
                        obtain ⟨ad296, e296, hx296_0, hx296_1⟩ := at_T33 (Kd.R_reads' HO_5.out).2.2 (ji28) p296 q296
                        cases e296
                        replace p296 := eq_true p296
                        replace q296 := eq_true q296
                        have p297 : 0 ≤ ((ji28) : Int) := of_decide_eq_true (by first | (with_reducible assumption) | assumption)
                        have q297 : (ji28) < (t283.length : Int) := of_decide_eq_true (by first | (with_reducible assumption) | assumption)
                        obtain ⟨ad297, e297, hx297_0, hx297_1⟩ := at_T33 (Kd.R_reads' HO_5.out).2.2 (ji28) p297 q297
                        obtain rfl : ad296 = ad297 := (by injection e297)
                        replace p297 := eq_true p297
                        replace q297 := eq_true q297
                        go_wp2
                        go_meet
                        case rel => exact ⟨_, ((((rd_T33 t283 (ji28)).f0) == 2)), (by first | rfl | (simp; done) | (simp only [← hji28] <;> (first | rfl | simp)) | (simp [*]; done)), H', ⟨by have := HK1.out; first | omega | exact Nat.le_refl _⟩, ⟨by (with_reducible repeat (first | apply Kd.R_alloc | apply Kd.R_drewN | apply Kd.R_drew)); exact HO_5.out⟩, ⟨by repeat (first | (with_reducible first | exact HB.out | apply below_alloc | apply pw_below_drewN | apply below_drew1) | exact HB.out)⟩⟩
                    · rw [if_neg c30] at H
                      exact absurd H (by simp)
                  · rw [if_neg c29] at H
                    exact absurd H (by simp)
              case rest =>
                clear HC25
                try clear c1
                try clear c2
                try clear p2
                try clear q2
                try clear hx2
                try clear c3
                try clear c3b0
                try clear c6
                try clear p6
                try clear c7
                try clear c7b0
                try clear c7b1
                try clear c9
                try clear c12
                try clear c12b0
                try clear c13
                try clear c13b0
                try clear c14
                try clear c14b0
                try clear c15
                try clear c15b0
                try clear c15b1
                try clear c15b2
                try clear c17
                try clear c17b0
                try clear c17b1
                try clear c18
                try clear c18b0
                try clear c18b1
                try clear c18b2
                try clear c24
                try clear c24b0
                try clear c24b1
                try clear c24b2
                try clear c27
                try clear c27b0
                try clear c27b1
                try clear c29
                try clear c29b0
                try clear p29
                try clear q29
                try clear hx29
                try clear c30
                try clear c30b0
                try clear c31
                try clear c31b0
                try clear c31b1
                try clear hx291_0
                try clear hx296_0
                try clear hx296_1
                try clear hx297_0
                try clear hx297_1
                try clear p2
                try clear p291
                try clear p296
                try clear p297
                try clear p6
                try clear q291
                try clear q296
                try clear q297
                obtain ⟨kq, x72_24, rfl, HA, HJ24, HO_5, HB⟩ := hcut
                cases kq with
                | zero => exact absurd HA.out (by simp [remontoirlaw14_GuardWrong.j1])
                | succ kj24 =>
                  have H := HA.out
                  clear HA
                  simp only [remontoirlaw14_GuardWrong.j1] at H
                  have HC32 := Aside0.mk H
                  clear H
                  go_upto_if 72 with (fail)
                  go_cut [] (fun wc => ∃ (kq : Nat), Aside0 (remontoirlaw14_GuardWrong.j2 kq a0 t283 = some r) ∧ Aside0 (kq ≤ kj24) ∧ Aside0 (Kd.R k33 33 wc w.heap.size (fun _ => True) (.slice Ao26 t283.length co26) t283) ∧ Aside0 (Below w.heap.size w wc))
                  case first =>
                    have H := HC32.out
                    clear HC32
                    by_cases c33 : x72_24 = true
                    · subst c33
                      have H1 : (if 0 ≤ (Int.tmod (wrap64 (a1)) (t283.length : Int)) then (if (Int.tmod (wrap64 (a1)) (t283.length : Int)) ≤ (t283.length : Int) then ((guard_Good.f kj24 (t283.take ((Int.tmod (wrap64 (a1)) (t283.length : Int)) : Int).toNat)).bind fun t302 => (if t302 = true then (some false) else (remontoirlaw14_GuardWrong.j2 kj24 a0 t283))) else (none)) else (none)) = some r := by rw [if_pos rfl] at H; exact H
                      clear H
                      have H := H1
                      clear H1
                      obtain ⟨ji34, hji34⟩ : ∃ j_ : Int, (Int.tmod (wrap64 (a1)) (t283.length : Int)) = j_ := ⟨_, rfl⟩
                      replace H : (if 0 ≤ (ji34) then (if (ji34) ≤ (t283.length : Int) then ((guard_Good.f kj24 (t283.take ((ji34) : Int).toNat)).bind fun t302 => (if t302 = true then (some false) else (remontoirlaw14_GuardWrong.j2 kj24 a0 t283))) else (none)) else (none)) = some r := by first | (rw [hji34] at H; exact H) | (simp only [hji34] at H ⊢; exact H)
                      by_cases c35 : 0 ≤ (ji34)
                      · rw [if_pos c35] at H
                        have c35b0 := eq_true c35
                        have c35b1 : decide (0 ≤ (ji34)) = true := decide_eq_true c35
                        clear c35
                        by_cases c36 : (ji34) ≤ (t283.length : Int)
                        · rw [if_pos c36] at H
                          have c36b0 := eq_true c36
                          have c36b1 : decide ((ji34) ≤ (t283.length : Int)) = true := decide_eq_true c36
                          clear c36
                          obtain ⟨y298, hy298⟩ : ∃ y_ : List (S33), y_ = (t283.take ((ji34) : Int).toNat) := ⟨_, rfl⟩
                          replace H : ((guard_Good.f kj24 y298).bind fun t302 => (if t302 = true then (some false) else (remontoirlaw14_GuardWrong.j2 kj24 a0 t283))) = some r := by first | (rw [hy298]; with_reducible exact H) | (have H2_ := (Option.bind_some _ _).symm.trans H; rw [hy298]; with_reducible exact H2_) | (have H2_ := (Option.bind_some _ _).symm.trans H; with_reducible exact H2_) | with_reducible exact H | (rw [hy298]; exact H) | exact H
                          have Ny298 := Aside0.mk hy298
                          clear hy298
                          replace H := Option.bind_eq_some_iff.mp H
                          obtain ⟨t302, A370, H⟩ := H
                          replace H : (if t302 = true then (some false) else (remontoirlaw14_GuardWrong.j2 kj24 a0 t283)) = some r := H
                          have A37 := Aside0.mk A370
                          clear A370
                          by_cases c38 : t302 = true
                          · subst c38
                            have H1 : (some false) = some r := by rw [if_pos rfl] at H; exact H
                            clear H
                            have H := H1
                            clear H1
                            obtain rfl := Option.some.inj H
                            have q39 : ((ji34) : Int) ≤ ((t283.length : Int) : Int) := of_decide_eq_true (by first | (with_reducible assumption) | assumption)
                            obtain ⟨i039, hi039, _, hsz39, _⟩ := info_parts info33
                            have hroom39 : t283.length ≤ co26 := (Kd.R_reads' HO_5.out).2.1
                            have hC39 : Kd.C k33 _ Ao26 t283.length t283 := (Kd.R_reads' HO_5.out).2.2
                            have hcut39 := cut_to (P := Tryd.prog) 22 33 .i64 Tryd.underlying22 hi039 Ao26 t283.length co26 (ji34) (of_decide_eq_true (by first | (with_reducible assumption) | assumption)) q39 hroom39
                            have hr39 := Kd.C_take (m := ((ji34) : Int).toNat) hC39 (by omega)
                            have hy39 : y298.length = ((ji34) : Int).toNat := (by rw [Ny298.out, List.length_take]; omega)
                            rw [← Ny298.out] at hr39
                            rw [← hy39] at hcut39
                            have HR301 := Aside0.mk hr39
                            have HC301 := Aside0.mk (show y298.length ≤ co26 from by omega)
                            clear hr39 hC39 hroom39 hi039 hsz39
                            have KY39 := Aside0.mk hy39
                            clear hy39
                            have KL39 := Aside0.mk (show ((ji34) : Int).toNat ≤ t283.length from by omega)
                            replace q39 := eq_true q39
                            go_wp2_with (first | ((with_reducible refine gate_callee (f := 11) rfl ?_); refine goesL_ (some 76) rfl rfl Tryd.func11 (by kernel_rfl) rfl #[.slice Ao26 y298.length co26] rfl (by (try simp only [List.map_toArray, List.map_cons, List.map_nil]); first | done | rfl | (simp only [List.length_drop, List.length_take]; rfl)) ?_; (with_reducible refine (guard_Good.calls kj24 _ _ y298 true _ ?side1 ?side2 A37.out).mono ?_); (case side1 => repeat (first | exact (by repeat (first | (with_reducible exact HR301.out) | (with_reducible refine Kd.C_alloc ?_ _) | (with_reducible refine Kd.C_drewN ?_ _) | (with_reducible refine Kd.C_drew ?_) | exact HR301.out)) | (with_reducible refine Kd.C_alloc ?_ _) | (with_reducible refine Kd.C_drewN ?_ _) | (with_reducible refine Kd.C_drew ?_))); (case side2 => exact HC301.out); rintro e w40 ⟨rfl, hb⟩; refine ⟨_, rfl, ?_⟩; have n0_ := Aside0.mk (Kd.R_below (by (with_reducible repeat (first | apply Kd.R_alloc | apply Kd.R_drewN | apply Kd.R_drew)); exact HO_5.out) hb); have n1_ := Aside0.mk (Kd.C_below (by repeat (first | (with_reducible exact HR301.out) | (with_reducible refine Kd.C_alloc ?_ _) | (with_reducible refine Kd.C_drewN ?_ _) | (with_reducible refine Kd.C_drew ?_) | exact HR301.out)) hb); have n2_ := Aside0.mk (below_step (by repeat (first | (with_reducible first | exact HB.out | apply below_alloc | apply pw_below_drewN | apply below_drew1) | exact HB.out)) hb); clear HO_5; clear HR301; clear HB; have HO_5 := n0_; have HR301 := n1_; have HB := n2_; clear n0_ n1_ n2_; (try clear hb); (try clear hb2); (try clear hk); (try clear hi)))
                            go_ret
                            exact ⟨by first | rfl | (simp [errW_none, errW_some] <;> rfl) | (simp only [← hji34]; first | rfl | (simp [errW_none, errW_some] <;> rfl)) | (simp [*, errW_none, errW_some] <;> rfl), by repeat (first | (with_reducible first | exact HB.out | apply below_alloc | apply pw_below_drewN | apply below_drew1) | exact HB.out)⟩
                          · replace c38 := Bool.eq_false_iff.mpr c38
                            subst c38
                            have H1 : (remontoirlaw14_GuardWrong.j2 kj24 a0 t283) = some r := by rw [if_neg (show ¬ (false = true) by decide)] at H; exact H
                            clear H
                            have H := H1
                            clear H1
                            have H' := Aside0.mk H
                            clear H
                            have q41 : ((ji34) : Int) ≤ ((t283.length : Int) : Int) := of_decide_eq_true (by first | (with_reducible assumption) | assumption)
                            obtain ⟨i041, hi041, _, hsz41, _⟩ := info_parts info33
                            have hroom41 : t283.length ≤ co26 := (Kd.R_reads' HO_5.out).2.1
                            have hC41 : Kd.C k33 _ Ao26 t283.length t283 := (Kd.R_reads' HO_5.out).2.2
                            have hcut41 := cut_to (P := Tryd.prog) 22 33 .i64 Tryd.underlying22 hi041 Ao26 t283.length co26 (ji34) (of_decide_eq_true (by first | (with_reducible assumption) | assumption)) q41 hroom41
                            have hr41 := Kd.C_take (m := ((ji34) : Int).toNat) hC41 (by omega)
                            have hy41 : y298.length = ((ji34) : Int).toNat := (by rw [Ny298.out, List.length_take]; omega)
                            rw [← Ny298.out] at hr41
                            rw [← hy41] at hcut41
                            have HR301 := Aside0.mk hr41
                            have HC301 := Aside0.mk (show y298.length ≤ co26 from by omega)
                            clear hr41 hC41 hroom41 hi041 hsz41
                            have KY41 := Aside0.mk hy41
                            clear hy41
                            have KL41 := Aside0.mk (show ((ji34) : Int).toNat ≤ t283.length from by omega)
                            replace q41 := eq_true q41
                            go_wp2_with (first | ((with_reducible refine gate_callee (f := 11) rfl ?_); refine goesL_ (some 76) rfl rfl Tryd.func11 (by kernel_rfl) rfl #[.slice Ao26 y298.length co26] rfl (by (try simp only [List.map_toArray, List.map_cons, List.map_nil]); first | done | rfl | (simp only [List.length_drop, List.length_take]; rfl)) ?_; (with_reducible refine (guard_Good.calls kj24 _ _ y298 false _ ?side1 ?side2 A37.out).mono ?_); (case side1 => repeat (first | exact (by repeat (first | (with_reducible exact HR301.out) | (with_reducible refine Kd.C_alloc ?_ _) | (with_reducible refine Kd.C_drewN ?_ _) | (with_reducible refine Kd.C_drew ?_) | exact HR301.out)) | (with_reducible refine Kd.C_alloc ?_ _) | (with_reducible refine Kd.C_drewN ?_ _) | (with_reducible refine Kd.C_drew ?_))); (case side2 => exact HC301.out); rintro e w42 ⟨rfl, hb⟩; refine ⟨_, rfl, ?_⟩; have n0_ := Aside0.mk (Kd.R_below (by (with_reducible repeat (first | apply Kd.R_alloc | apply Kd.R_drewN | apply Kd.R_drew)); exact HO_5.out) hb); have n1_ := Aside0.mk (Kd.C_below (by repeat (first | (with_reducible exact HR301.out) | (with_reducible refine Kd.C_alloc ?_ _) | (with_reducible refine Kd.C_drewN ?_ _) | (with_reducible refine Kd.C_drew ?_) | exact HR301.out)) hb); have n2_ := Aside0.mk (below_step (by repeat (first | (with_reducible first | exact HB.out | apply below_alloc | apply pw_below_drewN | apply below_drew1) | exact HB.out)) hb); clear HO_5; clear HR301; clear HB; have HO_5 := n0_; have HR301 := n1_; have HB := n2_; clear n0_ n1_ n2_; (try clear hb); (try clear hb2); (try clear hk); (try clear hi)))
                            (try subst hji28)
                            (try subst hji34)
                            go_meet
                            case rel => exact ⟨_, H', ⟨by have := HK1.out; have := HJ24.out; first | omega | exact Nat.le_refl _⟩, ⟨by (with_reducible repeat (first | apply Kd.R_alloc | apply Kd.R_drewN | apply Kd.R_drew)); exact HO_5.out⟩, ⟨by repeat (first | (with_reducible first | exact HB.out | apply below_alloc | apply pw_below_drewN | apply below_drew1) | exact HB.out)⟩⟩
                        · rw [if_neg c36] at H
                          exact absurd H (by simp)
                      · rw [if_neg c35] at H
                        exact absurd H (by simp)
                    · replace c33 := Bool.eq_false_iff.mpr c33
                      subst c33
                      have H1 : (remontoirlaw14_GuardWrong.j2 kj24 a0 t283) = some r := by rw [if_neg (show ¬ (false = true) by decide)] at H; exact H
                      clear H
                      have H := H1
                      clear H1
                      have H' := Aside0.mk H
                      clear H
                      go_wp2
                      (try subst hji28)
                      (try subst hji34)
                      go_meet
                      case rel => exact ⟨_, H', ⟨by have := HK1.out; have := HJ24.out; first | omega | exact Nat.le_refl _⟩, ⟨by (with_reducible repeat (first | apply Kd.R_alloc | apply Kd.R_drewN | apply Kd.R_drew)); exact HO_5.out⟩, ⟨by repeat (first | (with_reducible first | exact HB.out | apply below_alloc | apply pw_below_drewN | apply below_drew1) | exact HB.out)⟩⟩
                  case rest =>
                    clear HC32
                    try clear c1
                    try clear c2
                    try clear p2
                    try clear q2
                    try clear hx2
                    try clear c3
                    try clear c3b0
                    try clear q3
                    try clear q4
                    try clear c6
                    try clear p6
                    try clear c7
                    try clear c7b0
                    try clear c7b1
                    try clear c9
                    try clear c11
                    try clear c12
                    try clear c12b0
                    try clear c13
                    try clear c13b0
                    try clear c14
                    try clear c14b0
                    try clear c15
                    try clear c15b0
                    try clear c15b1
                    try clear c15b2
                    try clear c17
                    try clear c17b0
                    try clear c17b1
                    try clear c18
                    try clear c18b0
                    try clear c18b1
                    try clear c18b2
                    try clear c24
                    try clear c24b0
                    try clear c24b1
                    try clear c24b2
                    try clear c27
                    try clear c27b0
                    try clear c27b1
                    try clear c29
                    try clear c29b0
                    try clear p29
                    try clear q29
                    try clear hx29
                    try clear c30
                    try clear c30b0
                    try clear c31
                    try clear c31b0
                    try clear c31b1
                    try clear c33
                    try clear c35
                    try clear c35b0
                    try clear c35b1
                    try clear c36
                    try clear c36b0
                    try clear c36b1
                    try clear c38
                    try clear q39
                    try clear q41
                    try clear hx291_0
                    try clear hx296_0
                    try clear hx296_1
                    try clear hx297_0
                    try clear hx297_1
                    try clear p2
                    try clear p29
                    try clear p291
                    try clear p296
                    try clear p297
                    try clear p6
                    try clear q2
                    try clear q29
                    try clear q291
                    try clear q296
                    try clear q297
                    try clear q39
                    try clear q41
                    obtain ⟨kq, HA, HJ31, HO_5, HB⟩ := hcut
                    cases kq with
                    | zero => exact absurd HA.out (by simp [remontoirlaw14_GuardWrong.j2])
                    | succ kj31 =>
                      have H := HA.out
                      clear HA
                      simp only [remontoirlaw14_GuardWrong.j2] at H
                      by_cases c43 : 1 + a0.size ≤ 9223372036854775807
                      · rw [if_pos c43] at H
                        have c43b0 := eq_true c43
                        have c43b1 : decide (1 + a0.size ≤ 9223372036854775807) = true := decide_eq_true c43
                        try have c43b2 : (9223372036854775807 < 1 + a0.size) = False := eq_false (Nat.not_lt.2 c43)
                        by_cases c44 : ((⟨#[91]⟩ : ByteArray) ++ a0).size + 1 ≤ 9223372036854775807
                        · rw [if_pos c44] at H
                          have c44b0 := eq_true c44
                          have c44b1 : decide (((⟨#[91]⟩ : ByteArray) ++ a0).size + 1 ≤ 9223372036854775807) = true := decide_eq_true c44
                          try (have sz0_ : (⟨#[91]⟩ : ByteArray).size = 1 := rfl; have c44b4 := c44; simp only [ByteArray.size_append, sz0_] at c44b4; have c44b5 := eq_false (Nat.not_lt.2 c44b4); clear sz0_)
                          try have c44b2 : (9223372036854775807 < ((⟨#[91]⟩ : ByteArray) ++ a0).size + 1) = False := eq_false (Nat.not_lt.2 c44)
                          replace H := Option.bind_eq_some_iff.mp H
                          obtain ⟨⟨t303, t304⟩, A450, H⟩ := H
                          replace H : (if t304 = 2 then (remontoirlaw14_GuardWrong.j3 kj31 t283 ((t303.length : Int) != 0)) else (remontoirlaw14_GuardWrong.j3 kj31 t283 true)) = some r := H
                          have A45 := Aside0.mk A450
                          clear A450
                          have HC46 := Aside0.mk H
                          clear H
                          go_upto_region 18 with (first | ((with_reducible refine gate_callee (f := 9) rfl ?_); refine goesL_ (some 81) rfl rfl Tryd.func9 (by kernel_rfl) rfl #[.string (((⟨#[91]⟩ : ByteArray) ++ a0) ++ (⟨#[93]⟩ : ByteArray))] rfl (by (try simp only [List.map_toArray, List.map_cons, List.map_nil]); first | done | rfl | (simp only [List.length_drop, List.length_take]; rfl)) ?_; (with_reducible refine (guard_Parse.calls kj31 (((⟨#[91]⟩ : ByteArray) ++ a0) ++ (⟨#[93]⟩ : ByteArray)) t303 t304 _ (Tabs2.below hT (by repeat (first | (with_reducible first | exact HB.out | apply below_alloc | apply pw_below_drewN | apply below_drew1) | exact HB.out))) A45.out).mono ?_); rintro e w47 ⟨v305, rfl, ho0, hb⟩; refine ⟨_, rfl, ?_⟩; have n0_ := Aside0.mk (Kd.R_elder' (by (with_reducible repeat (first | apply Kd.R_alloc | apply Kd.R_drewN | apply Kd.R_drew)); exact HO_5.out) (Kd.R_base ho0) hb); have n1_ := Aside0.mk (Kd.R_lower (Kd.R_new' ho0 (Kd.R_lt (by (with_reducible repeat (first | apply Kd.R_alloc | apply Kd.R_drewN | apply Kd.R_drew)); exact HO_5.out))) (below_size (by repeat (first | (with_reducible first | exact HB.out | apply below_alloc | apply pw_below_drewN | apply below_drew1) | exact HB.out)))); have n2_ := Aside0.mk (below_step (by repeat (first | (with_reducible first | exact HB.out | apply below_alloc | apply pw_below_drewN | apply below_drew1) | exact HB.out)) hb); clear HO_5; clear HB; have HO_5 := n0_; have HO306 := n1_; have HB := n2_; clear n0_ n1_ n2_; (try clear hb); (try clear hb2); (try clear hk); (try clear hi); (try clear ho0)))
                          (try simp only [Act.put, List.setIfInBounds_toArray, List.set_cons_zero, List.set_cons_succ])
                          go_cut [90] (fun v90 wc => ∃ (kq : Nat) (x90_45 : Bool), v90 = .bool x90_45 ∧ Aside0 (remontoirlaw14_GuardWrong.j3 kq t283 x90_45 = some r) ∧ Aside0 (kq ≤ kj31) ∧ Aside0 (Kd.R k33 33 wc w.heap.size (fun _ => True) (.slice Ao26 t283.length co26) t283) ∧ Aside0 (Below w.heap.size w wc))
                          case first =>
                            have H := HC46.out
                            clear HC46
                            by_cases c48 : t304 = 2
                            · rw [if_pos c48] at H
                              have c48b0 : (t304 == 2) = true := beq_iff_eq.mpr c48
                              have c48b1 : (t304 != 2) = false := bne_eq_false_iff_eq.mpr c48
                              clear c48
                              (first | rw [c48b0] | (simp only [i64_w, i32_w]; rw [c48b0]) | skip)
                              have H' := Aside0.mk H
                              clear H
                              obtain ⟨Ao49, co49, eo49⟩ := Kd.R_slice HO306.out
                              subst eo49
                              go_wp2
                              (try subst hji28)
                              (try subst hji34)
                              go_meet
                              case rel => exact ⟨_, (((t303.length : Int) != 0)), (by first | rfl | (simp; done) | (simp [*]; done)), H', ⟨by have := HK1.out; have := HJ24.out; have := HJ31.out; first | omega | exact Nat.le_refl _⟩, ⟨by (with_reducible repeat (first | apply Kd.R_alloc | apply Kd.R_drewN | apply Kd.R_drew)); exact Kd.R_mono HO_5.out (fun _ hk => trivial)⟩, ⟨by repeat (first | (with_reducible first | exact HB.out | apply below_alloc | apply pw_below_drewN | apply below_drew1) | exact HB.out)⟩⟩
                            · rw [if_neg c48] at H
                              have c48b0 : (t304 == 2) = false := beq_eq_false_iff_ne.mpr c48
                              have c48b1 : (t304 != 2) = true := bne_iff_ne.mpr c48
                              (first | rw [c48b0] | (simp only [i64_w, i32_w]; rw [c48b0]) | skip)
                              have H' := Aside0.mk H
                              clear H
                              go_wp2
                              (try subst hji28)
                              (try subst hji34)
                              go_meet
                              case rel => exact ⟨_, (true), (by first | rfl | (simp; done) | (simp [*]; done)), H', ⟨by have := HK1.out; have := HJ24.out; have := HJ31.out; first | omega | exact Nat.le_refl _⟩, ⟨by (with_reducible repeat (first | apply Kd.R_alloc | apply Kd.R_drewN | apply Kd.R_drew)); exact Kd.R_mono HO_5.out (fun _ hk => trivial)⟩, ⟨by repeat (first | (with_reducible first | exact HB.out | apply below_alloc | apply pw_below_drewN | apply below_drew1) | exact HB.out)⟩⟩
                          case rest =>
                            clear HC46
                            try clear c1
                            try clear c2
                            try clear p2
                            try clear q2
                            try clear hx2
                            try clear c3
                            try clear c3b0
                            try clear q3
                            try clear c4
                            try clear q4
                            try clear c6
                            try clear p6
                            try clear c7
                            try clear c7b0
                            try clear c7b1
                            try clear c9
                            try clear c11
                            try clear c12
                            try clear c12b0
                            try clear c13
                            try clear c13b0
                            try clear c14
                            try clear c14b0
                            try clear c15
                            try clear c15b0
                            try clear c15b1
                            try clear c15b2
                            try clear c17
                            try clear c17b0
                            try clear c17b1
                            try clear c18
                            try clear c18b0
                            try clear c18b1
                            try clear c18b2
                            try clear c24
                            try clear c24b0
                            try clear c24b1
                            try clear c24b2
                            try clear c27
                            try clear c27b0
                            try clear c27b1
                            try clear c29
                            try clear c29b0
                            try clear p29
                            try clear q29
                            try clear hx29
                            try clear c30
                            try clear c30b0
                            try clear c31
                            try clear c31b0
                            try clear c31b1
                            try clear c33
                            try clear c35
                            try clear c35b0
                            try clear c35b1
                            try clear c36
                            try clear c36b0
                            try clear c36b1
                            try clear c38
                            try clear q39
                            try clear q41
                            try clear c43
                            try clear c43b0
                            try clear c43b1
                            try clear c43b2
                            try clear c44
                            try clear c44b0
                            try clear c44b1
                            try clear c44b2
                            try clear c48
                            try clear c48b0
                            try clear c48b1
                            try clear hx291_0
                            try clear hx296_0
                            try clear hx296_1
                            try clear hx297_0
                            try clear hx297_1
                            try clear p2
                            try clear p29
                            try clear p291
                            try clear p296
                            try clear p297
                            try clear p6
                            try clear q2
                            try clear q29
                            try clear q291
                            try clear q296
                            try clear q297
                            try clear q3
                            try clear q39
                            try clear q4
                            try clear q41
                            obtain ⟨kq, x90_45, rfl, HA, HJ45, HO_5, HB⟩ := hcut
                            cases kq with
                            | zero => exact absurd HA.out (by simp [remontoirlaw14_GuardWrong.j3])
                            | succ kj45 =>
                              have H := HA.out
                              clear HA
                              simp only [remontoirlaw14_GuardWrong.j3] at H
                              by_cases c50 : x90_45 = true
                              · subst c50
                                have H1 : (some false) = some r := by rw [if_pos rfl] at H; exact H
                                clear H
                                have H := H1
                                clear H1
                                obtain rfl := Option.some.inj H
                                go_wp2
                                go_ret
                                exact ⟨by first | rfl | (simp [errW_none, errW_some] <;> rfl) | (simp [*, errW_none, errW_some] <;> rfl), by repeat (first | (with_reducible first | exact HB.out | apply below_alloc | apply pw_below_drewN | apply below_drew1) | exact HB.out)⟩
                              · replace c50 := Bool.eq_false_iff.mpr c50
                                subst c50
                                have H1 : ((guard_Good.f kj45 t283).bind fun t307 => (if t307 = true then ((some (([] : List (S33)) : List (S33))).bind fun y308 => (if y308.length + t283.length < 8796093022208 then ((some (y308 ++ t283 : List (S33))).bind fun y311 => (if y311.length < 8796093022208 then ((guard_Good.f kj45 (y311 ++ [(⟨1, 1⟩ : S33)])).bind fun t317 => (if t317 = true then (some false) else ((remontoirlaw14_wakes.f kj45).bind fun t318 => (some t318)))) else (none))) else (none))) else (some false))) = some r := by rw [if_neg (show ¬ (false = true) by decide)] at H; exact H
                                clear H
                                have H := H1
                                clear H1
                                replace H := Option.bind_eq_some_iff.mp H
                                obtain ⟨t307, A510, H⟩ := H
                                replace H : (if t307 = true then ((some (([] : List (S33)) : List (S33))).bind fun y308 => (if y308.length + t283.length < 8796093022208 then ((some (y308 ++ t283 : List (S33))).bind fun y311 => (if y311.length < 8796093022208 then ((guard_Good.f kj45 (y311 ++ [(⟨1, 1⟩ : S33)])).bind fun t317 => (if t317 = true then (some false) else ((remontoirlaw14_wakes.f kj45).bind fun t318 => (some t318)))) else (none))) else (none))) else (some false)) = some r := H
                                have A51 := Aside0.mk A510
                                clear A510
                                by_cases c52 : t307 = true
                                · subst c52
                                  have H1 : ((some (([] : List (S33)) : List (S33))).bind fun y308 => (if y308.length + t283.length < 8796093022208 then ((some (y308 ++ t283 : List (S33))).bind fun y311 => (if y311.length < 8796093022208 then ((guard_Good.f kj45 (y311 ++ [(⟨1, 1⟩ : S33)])).bind fun t317 => (if t317 = true then (some false) else ((remontoirlaw14_wakes.f kj45).bind fun t318 => (some t318)))) else (none))) else (none))) = some r := by rw [if_pos rfl] at H; exact H
                                  clear H
                                  have H := H1
                                  clear H1
                                  obtain ⟨y308, hy308⟩ : ∃ y_ : List (S33), y_ = (([] : List (S33))) := ⟨_, rfl⟩
                                  replace H : (if y308.length + t283.length < 8796093022208 then ((some (y308 ++ t283 : List (S33))).bind fun y311 => (if y311.length < 8796093022208 then ((guard_Good.f kj45 (y311 ++ [(⟨1, 1⟩ : S33)])).bind fun t317 => (if t317 = true then (some false) else ((remontoirlaw14_wakes.f kj45).bind fun t318 => (some t318)))) else (none))) else (none)) = some r := by first | (rw [hy308]; with_reducible exact H) | (have H2_ := (Option.bind_some _ _).symm.trans H; rw [hy308]; with_reducible exact H2_) | (have H2_ := (Option.bind_some _ _).symm.trans H; with_reducible exact H2_) | with_reducible exact H | (rw [hy308]; exact H) | exact H
                                  have Ny308 := Aside0.mk hy308
                                  clear hy308
                                  by_cases c53 : y308.length + t283.length < 8796093022208
                                  · rw [if_pos c53] at H
                                    have LMc53 := Aside0.mk c53
                                    clear c53
                                    obtain ⟨y311, hy311⟩ : ∃ y_ : List (S33), y_ = (y308 ++ t283) := ⟨_, rfl⟩
                                    replace H : (if y311.length < 8796093022208 then ((guard_Good.f kj45 (y311 ++ [(⟨1, 1⟩ : S33)])).bind fun t317 => (if t317 = true then (some false) else ((remontoirlaw14_wakes.f kj45).bind fun t318 => (some t318)))) else (none)) = some r := by first | (rw [hy311]; with_reducible exact H) | (have H2_ := (Option.bind_some _ _).symm.trans H; rw [hy311]; with_reducible exact H2_) | (have H2_ := (Option.bind_some _ _).symm.trans H; with_reducible exact H2_) | with_reducible exact H | (rw [hy311]; exact H) | exact H
                                    have Ny311 := Aside0.mk hy311
                                    clear hy311
                                    by_cases c54 : y311.length < 8796093022208
                                    · rw [if_pos c54] at H
                                      have LMc54 := Aside0.mk c54
                                      clear c54
                                      obtain ⟨y314, hy314⟩ : ∃ y_ : List (S33), y_ = (y311 ++ [(⟨1, 1⟩ : S33)]) := ⟨_, rfl⟩
                                      replace H : ((guard_Good.f kj45 y314).bind fun t317 => (if t317 = true then (some false) else ((remontoirlaw14_wakes.f kj45).bind fun t318 => (some t318)))) = some r := by first | (rw [hy314]; with_reducible exact H) | (have H2_ := (Option.bind_some _ _).symm.trans H; rw [hy314]; with_reducible exact H2_) | (have H2_ := (Option.bind_some _ _).symm.trans H; with_reducible exact H2_) | with_reducible exact H | (rw [hy314]; exact H) | exact H
                                      have Ny314 := Aside0.mk hy314
                                      clear hy314
                                      replace H := Option.bind_eq_some_iff.mp H
                                      obtain ⟨t317, A550, H⟩ := H
                                      replace H : (if t317 = true then (some false) else ((remontoirlaw14_wakes.f kj45).bind fun t318 => (some t318))) = some r := H
                                      have A55 := Aside0.mk A550
                                      clear A550
                                      by_cases c56 : t317 = true
                                      · subst c56
                                        have H1 : (some false) = some r := by rw [if_pos rfl] at H; exact H
                                        clear H
                                        have H := H1
                                        clear H1
                                        obtain rfl := Option.some.inj H
                                        go_wp2_with (first | ((with_reducible refine gate_callee (f := 11) rfl ?_); refine goesL_ (some 92) rfl rfl Tryd.func11 (by kernel_rfl) rfl #[.slice Ao26 t283.length co26] rfl (by (try simp only [List.map_toArray, List.map_cons, List.map_nil]); first | done | rfl | (simp only [List.length_drop, List.length_take]; rfl)) ?_; (with_reducible refine (guard_Good.calls kj45 _ _ t283 true _ ?side1 ?side2 A51.out).mono ?_); (case side1 => repeat (first | exact (Kd.R_reads' HO_5.out).2.2 | (with_reducible refine Kd.C_alloc ?_ _) | (with_reducible refine Kd.C_drewN ?_ _) | (with_reducible refine Kd.C_drew ?_))); (case side2 => exact (Kd.R_reads' HO_5.out).2.1); rintro e w57 ⟨rfl, hb⟩; refine ⟨_, rfl, ?_⟩; have n0_ := Aside0.mk (Kd.R_below (by (with_reducible repeat (first | apply Kd.R_alloc | apply Kd.R_drewN | apply Kd.R_drew)); exact HO_5.out) hb); have n1_ := Aside0.mk (below_step (by repeat (first | (with_reducible first | exact HB.out | apply below_alloc | apply pw_below_drewN | apply below_drew1) | exact HB.out)) hb); clear HO_5; clear HB; have HO_5 := n0_; have HB := n1_; clear n0_ n1_; (try clear hb); (try clear hb2); (try clear hk); (try clear hi)) | ((with_reducible refine gate_dst (N := 94) rfl ?_); (try (refine gate_guard (by rfl) ?_; dsimp only)); refine Kd.R_lit k33 _ 33 ?hg (N := 94) ?hd (xs := ([] : List (S33))) (inner := []) (ok := fun _ => True) (okp := fun _ => True) ?hr ?hp (fun _ hk => hk) trivial (Below.refl _ _) (Nat.le_refl _) (by simp) ?_; (case hd => rfl); (case hg => rfl); (case hr => first | (go_simp; done) | (go_simp; rfl)); (case hp => exact (Reps.none _ _)); intro v309 w58 ho59 hb hg_ hnew_; clear hg_ hnew_; (first | rw [← Ny308.out] at ho59 | (simp only [Int.reduceToNat] at ho59; rw [← Ny308.out] at ho59)); have n0_ := Aside0.mk (Kd.R_elder' (by (with_reducible repeat (first | apply Kd.R_alloc | apply Kd.R_drewN | apply Kd.R_drew)); exact HO_5.out) (Kd.R_base ho59) hb); have n1_ := Aside0.mk (Kd.R_lower (Kd.R_new' ho59 (Kd.R_lt (by (with_reducible repeat (first | apply Kd.R_alloc | apply Kd.R_drewN | apply Kd.R_drew)); exact HO_5.out))) (below_size (by repeat (first | (with_reducible first | exact HB.out | apply below_alloc | apply pw_below_drewN | apply below_drew1) | exact HB.out)))); have n2_ := Aside0.mk (below_step (by repeat (first | (with_reducible first | exact HB.out | apply below_alloc | apply pw_below_drewN | apply below_drew1) | exact HB.out)) hb); clear HO_5; clear HB; have HO_5 := n0_; have HO310 := n1_; have HB := n2_; clear n0_ n1_ n2_; clear hb ho59) | ((with_reducible refine gate_builtin (b := .append) (xs := #[.tmp 94, .tmp 95]) rfl ?_); (try (refine gate_guard (by rfl) ?_; dsimp only)); at_builtin; refine Kd.R_append_rows k33 (w0 := w) w.heap.size rfl (.tmp 94) (.tmp 95) 22 33 (.agg #[(.int .i64 0), (.int .i64 0)]) 16 rfl Tryd.underlying22 info33 rfl (by decide) (by omega) v309 y308 t283 _ _ _ (fun k_ => some k_ ≠ (.slice Ao26 t283.length co26 : Value).ownBlock) (fun _ => False) rfl rfl ?aO ?aR (fun _ _ h => h) (fun _ h => h.elim) ?aF ?aB ?aS ?aL ?_; (case aR => repeat (first | exact (Kd.R_reads' HO_5.out).2.2 | (with_reducible refine Kd.C_alloc ?_ _) | (with_reducible refine Kd.C_drewN ?_ _) | (with_reducible refine Kd.C_drew ?_))); (case aB => exact (by repeat (first | (with_reducible first | exact HB.out | apply below_alloc | apply pw_below_drewN | apply below_drew1) | exact HB.out))); (case aF => exact (fun k_ hk => Kd.fresh' (Kd.R_lt (by (with_reducible repeat (first | apply Kd.R_alloc | apply Kd.R_drewN | apply Kd.R_drew)); exact HO_5.out)) k_ hk)); (case aO => exact (by (with_reducible repeat (first | apply Kd.R_alloc | apply Kd.R_drewN | apply Kd.R_drew)); exact Kd.R_mono HO310.out (fun _ hk => hk.2))); (case aS => exact (below_size (by repeat (first | (with_reducible first | exact HB.out | apply below_alloc | apply pw_below_drewN | apply below_drew1) | exact HB.out)))); (case aL => have := LMc53.out; omega); intro v312 w60 ho hb hg hat; rw [← Ny311.out] at ho; have n0_ := Aside0.mk (Kd.R_after (ok := (fun _ => True)) (by (with_reducible repeat (first | apply Kd.R_alloc | apply Kd.R_drewN | apply Kd.R_drew)); exact HO_5.out) hg hat); have n1_ := Aside0.mk (hb); have n2_ := Aside0.mk (ho); clear HO_5; clear HB; clear HO310; have HO_5 := n0_; have HB := n1_; have HO313 := n2_; clear n0_ n1_ n2_; clear ho hb hg hat) | ((with_reducible refine gate_builtin (b := .append) (xs := #[.tmp 96, .tmp 98]) rfl ?_); (try (refine gate_guard (by rfl) ?_; dsimp only)); at_builtin; refine Kd.R_append k33 (w0 := w) w.heap.size rfl (.tmp 96) (.tmp 98) 22 33 (.agg #[(.int .i64 0), (.int .i64 0)]) 16 rfl Tryd.underlying22 info33 rfl (by decide) (by omega) v312 y311 (⟨1, 1⟩ : S33) [.int .i64 1, .int .i64 1] (fun k_ => some k_ ≠ (.slice Ao26 t283.length co26 : Value).ownBlock) (fun _ => False) rfl rfl ?aP (fun _ hk => hk.elim) ?aF ?aO ?aB ?aS ?aL ?_; (case aP => exact k33_mkM _ _ _ (⟨1, 1⟩ : S33)); (case aB => exact (by repeat (first | (with_reducible first | exact HB.out | apply below_alloc | apply pw_below_drewN | apply below_drew1) | exact HB.out))); (case aF => exact (fun k_ hk => Kd.fresh' (Kd.R_lt (by (with_reducible repeat (first | apply Kd.R_alloc | apply Kd.R_drewN | apply Kd.R_drew)); exact HO_5.out)) k_ hk)); (case aO => exact (by (with_reducible repeat (first | apply Kd.R_alloc | apply Kd.R_drewN | apply Kd.R_drew)); exact HO313.out)); (case aS => exact (below_size (by repeat (first | (with_reducible first | exact HB.out | apply below_alloc | apply pw_below_drewN | apply below_drew1) | exact HB.out)))); (case aL => have := LMc54.out; omega); intro v315 w61 ho hb hg hat; rw [← Ny314.out] at ho; have n0_ := Aside0.mk (Kd.R_after (ok := (fun _ => True)) (by (with_reducible repeat (first | apply Kd.R_alloc | apply Kd.R_drewN | apply Kd.R_drew)); exact HO_5.out) hg hat); have n1_ := Aside0.mk (hb); have n2_ := Aside0.mk (ho); clear HO_5; clear HB; clear HO313; have HO_5 := n0_; have HB := n1_; have HO316 := n2_; clear n0_ n1_ n2_; clear ho hb hg hat; obtain ⟨Ao62, co62, eo62⟩ := Kd.R_slice HO316.out; subst eo62) | (go_at_call 11; (with_reducible refine (guard_Good.calls kj45 _ _ y314 true _ ?side1 ?side2 A55.out).mono ?_); (case side1 => repeat (first | exact (Kd.R_reads' HO316.out).2.2 | (with_reducible refine Kd.C_alloc ?_ _) | (with_reducible refine Kd.C_drewN ?_ _) | (with_reducible refine Kd.C_drew ?_))); (case side2 => exact (Kd.R_reads' HO316.out).2.1); rintro e w63 ⟨rfl, hb⟩; have n0_ := Aside0.mk (Kd.R_below (by (with_reducible repeat (first | apply Kd.R_alloc | apply Kd.R_drewN | apply Kd.R_drew)); exact HO_5.out) hb); have n1_ := Aside0.mk (Kd.R_below (by (with_reducible repeat (first | apply Kd.R_alloc | apply Kd.R_drewN | apply Kd.R_drew)); exact HO316.out) hb); have n2_ := Aside0.mk (below_step (by repeat (first | (with_reducible first | exact HB.out | apply below_alloc | apply pw_below_drewN | apply below_drew1) | exact HB.out)) hb); clear HO_5; clear HO316; clear HB; have HO_5 := n0_; have HO316 := n1_; have HB := n2_; clear n0_ n1_ n2_; (try clear hb); (try clear hb2); (try clear hk); (try clear hi)))
                                        go_ret
                                        exact ⟨by first | rfl | (simp [errW_none, errW_some] <;> rfl) | (simp [*, errW_none, errW_some] <;> rfl), by repeat (first | (with_reducible first | exact HB.out | apply below_alloc | apply pw_below_drewN | apply below_drew1) | exact HB.out)⟩
                                      · replace c56 := Bool.eq_false_iff.mpr c56
                                        subst c56
                                        have H1 : ((remontoirlaw14_wakes.f kj45).bind fun t318 => (some t318)) = some r := by rw [if_neg (show ¬ (false = true) by decide)] at H; exact H
                                        clear H
                                        have H := H1
                                        clear H1
                                        replace H := Option.bind_eq_some_iff.mp H
                                        obtain ⟨t318, A640, H⟩ := H
                                        replace H : (some t318) = some r := H
                                        have A64 := Aside0.mk A640
                                        clear A640
                                        obtain rfl := Option.some.inj H
                                        go_wp2_with (first | ((with_reducible refine gate_callee (f := 11) rfl ?_); refine goesL_ (some 92) rfl rfl Tryd.func11 (by kernel_rfl) rfl #[.slice Ao26 t283.length co26] rfl (by (try simp only [List.map_toArray, List.map_cons, List.map_nil]); first | done | rfl | (simp only [List.length_drop, List.length_take]; rfl)) ?_; (with_reducible refine (guard_Good.calls kj45 _ _ t283 true _ ?side1 ?side2 A51.out).mono ?_); (case side1 => repeat (first | exact (Kd.R_reads' HO_5.out).2.2 | (with_reducible refine Kd.C_alloc ?_ _) | (with_reducible refine Kd.C_drewN ?_ _) | (with_reducible refine Kd.C_drew ?_))); (case side2 => exact (Kd.R_reads' HO_5.out).2.1); rintro e w65 ⟨rfl, hb⟩; refine ⟨_, rfl, ?_⟩; have n0_ := Aside0.mk (Kd.R_below (by (with_reducible repeat (first | apply Kd.R_alloc | apply Kd.R_drewN | apply Kd.R_drew)); exact HO_5.out) hb); have n1_ := Aside0.mk (below_step (by repeat (first | (with_reducible first | exact HB.out | apply below_alloc | apply pw_below_drewN | apply below_drew1) | exact HB.out)) hb); clear HO_5; clear HB; have HO_5 := n0_; have HB := n1_; clear n0_ n1_; (try clear hb); (try clear hb2); (try clear hk); (try clear hi)) | ((with_reducible refine gate_dst (N := 94) rfl ?_); (try (refine gate_guard (by rfl) ?_; dsimp only)); refine Kd.R_lit k33 _ 33 ?hg (N := 94) ?hd (xs := ([] : List (S33))) (inner := []) (ok := fun _ => True) (okp := fun _ => True) ?hr ?hp (fun _ hk => hk) trivial (Below.refl _ _) (Nat.le_refl _) (by simp) ?_; (case hd => rfl); (case hg => rfl); (case hr => first | (go_simp; done) | (go_simp; rfl)); (case hp => exact (Reps.none _ _)); intro v309 w66 ho67 hb hg_ hnew_; clear hg_ hnew_; (first | rw [← Ny308.out] at ho67 | (simp only [Int.reduceToNat] at ho67; rw [← Ny308.out] at ho67)); have n0_ := Aside0.mk (Kd.R_elder' (by (with_reducible repeat (first | apply Kd.R_alloc | apply Kd.R_drewN | apply Kd.R_drew)); exact HO_5.out) (Kd.R_base ho67) hb); have n1_ := Aside0.mk (Kd.R_lower (Kd.R_new' ho67 (Kd.R_lt (by (with_reducible repeat (first | apply Kd.R_alloc | apply Kd.R_drewN | apply Kd.R_drew)); exact HO_5.out))) (below_size (by repeat (first | (with_reducible first | exact HB.out | apply below_alloc | apply pw_below_drewN | apply below_drew1) | exact HB.out)))); have n2_ := Aside0.mk (below_step (by repeat (first | (with_reducible first | exact HB.out | apply below_alloc | apply pw_below_drewN | apply below_drew1) | exact HB.out)) hb); clear HO_5; clear HB; have HO_5 := n0_; have HO310 := n1_; have HB := n2_; clear n0_ n1_ n2_; clear hb ho67) | ((with_reducible refine gate_builtin (b := .append) (xs := #[.tmp 94, .tmp 95]) rfl ?_); (try (refine gate_guard (by rfl) ?_; dsimp only)); at_builtin; refine Kd.R_append_rows k33 (w0 := w) w.heap.size rfl (.tmp 94) (.tmp 95) 22 33 (.agg #[(.int .i64 0), (.int .i64 0)]) 16 rfl Tryd.underlying22 info33 rfl (by decide) (by omega) v309 y308 t283 _ _ _ (fun k_ => some k_ ≠ (.slice Ao26 t283.length co26 : Value).ownBlock) (fun _ => False) rfl rfl ?aO ?aR (fun _ _ h => h) (fun _ h => h.elim) ?aF ?aB ?aS ?aL ?_; (case aR => repeat (first | exact (Kd.R_reads' HO_5.out).2.2 | (with_reducible refine Kd.C_alloc ?_ _) | (with_reducible refine Kd.C_drewN ?_ _) | (with_reducible refine Kd.C_drew ?_))); (case aB => exact (by repeat (first | (with_reducible first | exact HB.out | apply below_alloc | apply pw_below_drewN | apply below_drew1) | exact HB.out))); (case aF => exact (fun k_ hk => Kd.fresh' (Kd.R_lt (by (with_reducible repeat (first | apply Kd.R_alloc | apply Kd.R_drewN | apply Kd.R_drew)); exact HO_5.out)) k_ hk)); (case aO => exact (by (with_reducible repeat (first | apply Kd.R_alloc | apply Kd.R_drewN | apply Kd.R_drew)); exact Kd.R_mono HO310.out (fun _ hk => hk.2))); (case aS => exact (below_size (by repeat (first | (with_reducible first | exact HB.out | apply below_alloc | apply pw_below_drewN | apply below_drew1) | exact HB.out)))); (case aL => have := LMc53.out; omega); intro v312 w68 ho hb hg hat; rw [← Ny311.out] at ho; have n0_ := Aside0.mk (Kd.R_after (ok := (fun _ => True)) (by (with_reducible repeat (first | apply Kd.R_alloc | apply Kd.R_drewN | apply Kd.R_drew)); exact HO_5.out) hg hat); have n1_ := Aside0.mk (hb); have n2_ := Aside0.mk (ho); clear HO_5; clear HB; clear HO310; have HO_5 := n0_; have HB := n1_; have HO313 := n2_; clear n0_ n1_ n2_; clear ho hb hg hat) | ((with_reducible refine gate_builtin (b := .append) (xs := #[.tmp 96, .tmp 98]) rfl ?_); (try (refine gate_guard (by rfl) ?_; dsimp only)); at_builtin; refine Kd.R_append k33 (w0 := w) w.heap.size rfl (.tmp 96) (.tmp 98) 22 33 (.agg #[(.int .i64 0), (.int .i64 0)]) 16 rfl Tryd.underlying22 info33 rfl (by decide) (by omega) v312 y311 (⟨1, 1⟩ : S33) [.int .i64 1, .int .i64 1] (fun k_ => some k_ ≠ (.slice Ao26 t283.length co26 : Value).ownBlock) (fun _ => False) rfl rfl ?aP (fun _ hk => hk.elim) ?aF ?aO ?aB ?aS ?aL ?_; (case aP => exact k33_mkM _ _ _ (⟨1, 1⟩ : S33)); (case aB => exact (by repeat (first | (with_reducible first | exact HB.out | apply below_alloc | apply pw_below_drewN | apply below_drew1) | exact HB.out))); (case aF => exact (fun k_ hk => Kd.fresh' (Kd.R_lt (by (with_reducible repeat (first | apply Kd.R_alloc | apply Kd.R_drewN | apply Kd.R_drew)); exact HO_5.out)) k_ hk)); (case aO => exact (by (with_reducible repeat (first | apply Kd.R_alloc | apply Kd.R_drewN | apply Kd.R_drew)); exact HO313.out)); (case aS => exact (below_size (by repeat (first | (with_reducible first | exact HB.out | apply below_alloc | apply pw_below_drewN | apply below_drew1) | exact HB.out)))); (case aL => have := LMc54.out; omega); intro v315 w69 ho hb hg hat; rw [← Ny314.out] at ho; have n0_ := Aside0.mk (Kd.R_after (ok := (fun _ => True)) (by (with_reducible repeat (first | apply Kd.R_alloc | apply Kd.R_drewN | apply Kd.R_drew)); exact HO_5.out) hg hat); have n1_ := Aside0.mk (hb); have n2_ := Aside0.mk (ho); clear HO_5; clear HB; clear HO313; have HO_5 := n0_; have HB := n1_; have HO316 := n2_; clear n0_ n1_ n2_; clear ho hb hg hat; obtain ⟨Ao70, co70, eo70⟩ := Kd.R_slice HO316.out; subst eo70) | (go_at_call 11; (with_reducible refine (guard_Good.calls kj45 _ _ y314 false _ ?side1 ?side2 A55.out).mono ?_); (case side1 => repeat (first | exact (Kd.R_reads' HO316.out).2.2 | (with_reducible refine Kd.C_alloc ?_ _) | (with_reducible refine Kd.C_drewN ?_ _) | (with_reducible refine Kd.C_drew ?_))); (case side2 => exact (Kd.R_reads' HO316.out).2.1); rintro e w71 ⟨rfl, hb⟩; have n0_ := Aside0.mk (Kd.R_below (by (with_reducible repeat (first | apply Kd.R_alloc | apply Kd.R_drewN | apply Kd.R_drew)); exact HO_5.out) hb); have n1_ := Aside0.mk (Kd.R_below (by (with_reducible repeat (first | apply Kd.R_alloc | apply Kd.R_drewN | apply Kd.R_drew)); exact HO316.out) hb); have n2_ := Aside0.mk (below_step (by repeat (first | (with_reducible first | exact HB.out | apply below_alloc | apply pw_below_drewN | apply below_drew1) | exact HB.out)) hb); clear HO_5; clear HO316; clear HB; have HO_5 := n0_; have HO316 := n1_; have HB := n2_; clear n0_ n1_ n2_; (try clear hb); (try clear hb2); (try clear hk); (try clear hi)) | (go_at_call 7; (with_reducible refine (remontoirlaw14_wakes.calls kj45  t318 _ (Tabs2.below hT (by repeat (first | (with_reducible first | exact HB.out | apply below_alloc | apply pw_below_drewN | apply below_drew1) | exact HB.out))) A64.out).mono ?_); rintro e w72 ⟨rfl, hb⟩; have n0_ := Aside0.mk (Kd.R_below (by (with_reducible repeat (first | apply Kd.R_alloc | apply Kd.R_drewN | apply Kd.R_drew)); exact HO_5.out) hb); have n1_ := Aside0.mk (Kd.R_below (by (with_reducible repeat (first | apply Kd.R_alloc | apply Kd.R_drewN | apply Kd.R_drew)); exact HO316.out) hb); have n2_ := Aside0.mk (below_step (by repeat (first | (with_reducible first | exact HB.out | apply below_alloc | apply pw_below_drewN | apply below_drew1) | exact HB.out)) hb); clear HO_5; clear HO316; clear HB; have HO_5 := n0_; have HO316 := n1_; have HB := n2_; clear n0_ n1_ n2_; (try clear hb); (try clear hb2); (try clear hk); (try clear hi)))
                                        go_ret
                                        exact ⟨by first | rfl | (simp [errW_none, errW_some] <;> rfl) | (simp [*, errW_none, errW_some] <;> rfl), by repeat (first | (with_reducible first | exact HB.out | apply below_alloc | apply pw_below_drewN | apply below_drew1) | exact HB.out)⟩
                                    · rw [if_neg c54] at H
                                      exact absurd H (by simp)
                                  · rw [if_neg c53] at H
                                    exact absurd H (by simp)
                                · replace c52 := Bool.eq_false_iff.mpr c52
                                  subst c52
                                  have H1 : (some false) = some r := by rw [if_neg (show ¬ (false = true) by decide)] at H; exact H
                                  clear H
                                  have H := H1
                                  clear H1
                                  obtain rfl := Option.some.inj H
                                  go_wp2_with (first | ((with_reducible refine gate_callee (f := 11) rfl ?_); refine goesL_ (some 92) rfl rfl Tryd.func11 (by kernel_rfl) rfl #[.slice Ao26 t283.length co26] rfl (by (try simp only [List.map_toArray, List.map_cons, List.map_nil]); first | done | rfl | (simp only [List.length_drop, List.length_take]; rfl)) ?_; (with_reducible refine (guard_Good.calls kj45 _ _ t283 false _ ?side1 ?side2 A51.out).mono ?_); (case side1 => repeat (first | exact (Kd.R_reads' HO_5.out).2.2 | (with_reducible refine Kd.C_alloc ?_ _) | (with_reducible refine Kd.C_drewN ?_ _) | (with_reducible refine Kd.C_drew ?_))); (case side2 => exact (Kd.R_reads' HO_5.out).2.1); rintro e w73 ⟨rfl, hb⟩; refine ⟨_, rfl, ?_⟩; have n0_ := Aside0.mk (Kd.R_below (by (with_reducible repeat (first | apply Kd.R_alloc | apply Kd.R_drewN | apply Kd.R_drew)); exact HO_5.out) hb); have n1_ := Aside0.mk (below_step (by repeat (first | (with_reducible first | exact HB.out | apply below_alloc | apply pw_below_drewN | apply below_drew1) | exact HB.out)) hb); clear HO_5; clear HB; have HO_5 := n0_; have HB := n1_; clear n0_ n1_; (try clear hb); (try clear hb2); (try clear hk); (try clear hi)))
                                  go_ret
                                  exact ⟨by first | rfl | (simp [errW_none, errW_some] <;> rfl) | (simp [*, errW_none, errW_some] <;> rfl), by repeat (first | (with_reducible first | exact HB.out | apply below_alloc | apply pw_below_drewN | apply below_drew1) | exact HB.out)⟩
                        · rw [if_neg c44] at H
                          exact absurd H (by simp)
                      · rw [if_neg c43] at H
                        exact absurd H (by simp)
    · rw [if_neg c7] at H
      have c7b0 : (t284 == 0) = false := beq_eq_false_iff_ne.mpr c7
      have c7b1 : (t284 != 0) = true := bne_iff_ne.mpr c7
      replace H := Option.bind_eq_some_iff.mp H
      obtain ⟨t287, A740, H⟩ := H
      replace H : (some t287) = some r := H
      have A74 := Aside0.mk A740
      clear A740
      obtain rfl := Option.some.inj H
      go_enter Tryd.func6, Tryd.ntmps6
      go_wp2_with (first | ((with_reducible refine gate_callee (f := 9) rfl ?_); refine goesL_ (some 21) rfl rfl Tryd.func9 (by kernel_rfl) rfl #[.string a0] rfl (by (try simp only [List.map_toArray, List.map_cons, List.map_nil]); first | done | rfl | (simp only [List.length_drop, List.length_take]; rfl)) ?_; (with_reducible refine (guard_Parse.calls k a0 t283 t284 _ (Tabs2.below hT (by repeat (first | (with_reducible first | exact HB.out | apply below_alloc | apply pw_below_drewN | apply below_drew1) | exact HB.out))) A6.out).mono ?_); rintro e w75 ⟨v285, rfl, ho0, hb⟩; refine ⟨_, rfl, ?_⟩; have n0_ := Aside0.mk (Kd.R_lower ho0 (below_size (by repeat (first | (with_reducible first | exact HB.out | apply below_alloc | apply pw_below_drewN | apply below_drew1) | exact HB.out)))); have n1_ := Aside0.mk (below_step (by repeat (first | (with_reducible first | exact HB.out | apply below_alloc | apply pw_below_drewN | apply below_drew1) | exact HB.out)) hb); clear HB; have HO286 := n0_; have HB := n1_; clear n0_ n1_; (try clear hb); (try clear hb2); (try clear hk); (try clear hi); (try clear ho0)) | ((with_reducible refine gate_callee (f := 7) rfl ?_); refine goesL_ (some 26) rfl rfl Tryd.func7 (by kernel_rfl) rfl #[] rfl (by (try simp only [List.map_toArray, List.map_cons, List.map_nil]); first | done | rfl | (simp only [List.length_drop, List.length_take]; rfl)) ?_; (with_reducible refine (remontoirlaw14_wakes.calls k  t287 _ (Tabs2.below hT (by repeat (first | (with_reducible first | exact HB.out | apply below_alloc | apply pw_below_drewN | apply below_drew1) | exact HB.out))) A74.out).mono ?_); rintro e w76 ⟨rfl, hb⟩; refine ⟨_, rfl, ?_⟩; have n0_ := Aside0.mk (Kd.R_below (by (with_reducible repeat (first | apply Kd.R_alloc | apply Kd.R_drewN | apply Kd.R_drew)); exact HO286.out) hb); have n1_ := Aside0.mk (below_step (by repeat (first | (with_reducible first | exact HB.out | apply below_alloc | apply pw_below_drewN | apply below_drew1) | exact HB.out)) hb); clear HO286; clear HB; have HO286 := n0_; have HB := n1_; clear n0_ n1_; (try clear hb); (try clear hb2); (try clear hk); (try clear hi)))
      go_ret
      exact ⟨by first | rfl | (simp [errW_none, errW_some] <;> rfl) | (simp [*, errW_none, errW_some] <;> rfl), by repeat (first | (with_reducible first | exact HB.out | apply below_alloc | apply pw_below_drewN | apply below_drew1) | exact HB.out)⟩

/-- THE ONE PURE STATEMENT of remontoirlaw14_GuardWrong: yours. -/
def remontoirlaw14_GuardWrong.Pure : Prop := ∀ (a0 : ByteArray) (a1 : Int), a0.size ≤ 140737488351232 → (Lit.int .u16 a1).wf = true → ∃ k, remontoirlaw14_GuardWrong.f k a0 a1 = some true
end Go.Proofs.YtikbgoppmailjaaDoor.H
/- What guard.Parse says of a text. -/
namespace Go.Proofs.YtikbgoppmailjaaDoor.Pure
open Go.RowKit Go.Proofs.YtikbgoppmailjaaDoor.H Go.Proofs.YtikbgoppmailjaaDoorW.PrintWords Go.Proofs.YtikbgoppmailjaaDoorW.PrintLast Go.Proofs.YtikbgoppmailjaaDoorW.PrintMore
set_option linter.unusedVariables false
set_option linter.unusedSimpArgs false
theorem gx_size {l : List UInt8} {o : List S33} (h : Gx l o) : o.length ≤ l.length := by
  obtain ⟨x, hx, k, hk⟩ := h
  obtain ⟨k2, r, h1, h2⟩ := PF_total _ x.length 0 (x, []) rfl (by omega) rfl trivial
  have e1 := PF_mono (Nat.le_max_left k k2) hk
  have e2 := PF_mono (Nat.le_max_right k k2) h1
  rw [e1] at e2
  obtain rfl := Option.some.inj e2
  have := (h2 _ rfl).2
  have hl := hx.len
  simp only [List.length_nil] at this
  omega
theorem parse_gx {s : ByteArray} {o : List S33} (hs : s.size ≤ 60) (h : Gx s.data.toList o) : ∃ K, ∀ k, K ≤ k → guard_Parse.f k s = some (o, 0) := by
  obtain ⟨x, hx, k, hk⟩ := h
  refine ⟨k, fun k' hk' => ?_⟩
  unfold guard_Parse.f
  rw [lex_list, if_neg (by omega)]
  have e : lexF s.data.toList [] = some (x, 0) := hx
  rw [e]
  simp only [Option.bind_some, if_true]
  rw [PF_mono hk' hk]
  rfl
/-- Signs that the reader gives up at, or of which some are left. -/
def Ungood (x : List S33) : Prop := ∃ k r, PF k 0 (x, []) = some r ∧ ∀ o, r ≠ some ([], o)
theorem parse_bad {s : ByteArray} {x : List S33} (hs : s.size ≤ 60) (hx : Lx s.data.toList x) (h : Ungood x) : ∃ K, ∀ k, K ≤ k → guard_Parse.f k s = some ([], 2) := by
  obtain ⟨k, r, hk, hr⟩ := h
  refine ⟨k, fun k' hk' => ?_⟩
  unfold guard_Parse.f
  rw [lex_list, if_neg (by omega)]
  have e : lexF s.data.toList [] = some (x, 0) := hx
  rw [e]
  simp only [Option.bind_some, if_true]
  rw [PF_mono hk' hk]
  cases r with
  | none => rfl
  | some st =>
    obtain ⟨l, o⟩ := st
    cases l with
    | nil => exact absurd rfl (hr o)
    | cons a l => rfl
/-- Of any text: a guard, and how it lies behind; or an error. -/
theorem parse_any (s : ByteArray) : (s.size ≤ 60 ∧ ∃ o, Gx s.data.toList o ∧ o.length ≤ 60 ∧ ∃ K, ∀ k, K ≤ k → guard_Parse.f k s = some (o, 0)) ∨ (∃ e : Int, e ≠ 0 ∧ ∃ K, ∀ k, K ≤ k → guard_Parse.f k s = some ([], e)) := by
  by_cases hs : s.size ≤ 60
  · obtain ⟨y, e, hl⟩ := lexF_some _ s.data.toList [] (Nat.le_refl _)
    by_cases he : e = 0
    · subst he
      obtain ⟨k, r, h1, h2⟩ := PF_total _ y.length 0 (y, []) rfl (by omega) rfl trivial
      by_cases hg : ∃ o, r = some ([], o)
      · obtain ⟨o, rfl⟩ := hg
        have hgx : Gx s.data.toList o := ⟨y, hl, k, h1⟩
        have hlen := gx_size hgx
        have hdl : s.data.toList.length = s.size := by rw [Array.length_toList]; rfl
        exact .inl ⟨hs, o, hgx, by omega, parse_gx hs hgx⟩
      · exact .inr ⟨2, by decide, parse_bad hs hl ⟨k, r, h1, fun o q => hg ⟨o, q⟩⟩⟩
    · refine .inr ⟨e, he, 0, fun k _ => ?_⟩
      unfold guard_Parse.f
      rw [lex_list, if_neg (by omega), hl]
      simp only [Option.bind_some]
      rw [if_neg he]
  · refine .inr ⟨15, by decide, 0, fun k _ => ?_⟩
    unfold guard_Parse.f
    rw [lex_list, if_pos (by omega)]
    rfl
end Go.Proofs.YtikbgoppmailjaaDoor.Pure
/- Signs behind a guard, and brackets about it, that make it none. -/
namespace Go.Proofs.YtikbgoppmailjaaDoor.Pure
open Go.RowKit Go.Proofs.YtikbgoppmailjaaDoor.H Go.Proofs.YtikbgoppmailjaaDoorW.PrintWords Go.Proofs.YtikbgoppmailjaaDoorW.PrintLast Go.Proofs.YtikbgoppmailjaaDoorW.PrintMore
set_option linter.unusedVariables false
set_option linter.unusedSimpArgs false
theorem ungood_more {x o : List S33} (h : Guard x o) (c : S33) (hc : OKc 0 c.f0) (r : List S33) : Ungood (x ++ c :: r) := by
  obtain ⟨k, hk⟩ := h
  have h1 := ext c r k 0 x [] [] o hk (fun _ => hc)
  exact ⟨k, _, h1, fun q e => by cases e⟩
theorem none2 (o : List S33) : PF 20 2 ([], o) = some none := by rfl
/-- A row of level 1 that was read whole gives up at one & more. -/
theorem amp1 {x o q : List S33} {k : Nat} (h : PF k 1 (x, q) = some (some ([], o))) (n : Int) : ∃ K, ∀ k', K ≤ k' → PF k' 1 (x ++ [⟨12, n⟩], q) = some none := by
  cases k with
  | zero => cases h
  | succ k =>
    rw [PF_succ, step1] at h
    rcases rowF_some h with ⟨_, h2⟩ | ⟨l1, o1, h1, h2⟩
    · cases h2
    · have okc : OKc 2 12 := ⟨fun q => by omega, fun q => by omega, fun _ => by decide, fun _ => by decide⟩
      have hth : ∀ K, ∀ l o l' o', PF K 2 (l, o) = some (some (l', o')) → PF K 2 (l ++ (⟨12, n⟩ : S33) :: [], o) = some (some (l' ++ (⟨12, n⟩ : S33) :: [], o')) := fun K l o l' o' q => ext _ _ K 2 l o l' o' q (fun _ => okc)
      have h5 := rowL_mono (PF k 2) (PF (k + 20) 2) [12] (fun st r q => PF_mono (by omega) q) k k _ _ (Nat.le_refl _) h2
      have h6 : rowL (PF (k + 20) 2) [12] 2 ((⟨12, n⟩ : S33) :: [], o) = some none := by
        simp only [rowL]
        rw [if_pos (by simp), bnd_mk_none (PF_mono (k' := k + 20) (by omega) (none2 o))]
      have h7 := cont_row (hth (k + 20)) k l1 o1 o h5 2 _ h6
      refine ⟨k + 20 + 2 + 1, fun k' hk' => PF_mono hk' ?_⟩
      rw [PF_succ, step1, rowF_mk (PF_mono (by omega) (hth k _ _ _ _ h1))]
      exact rowL_mono (PF (k + 20) 2) (PF (k + 20 + 2) 2) [12] (fun st r q => PF_mono (by omega) q) (k + 2) (k + 20 + 2) _ _ (by omega) h7
theorem amp_row : ∀ (k : Nat) (K : Nat) (l o o' : List S33) (n : Int), l ≠ [] → rowL (PF K 1) [13] k (l, o) = some (some ([], o')) → ∃ K', ∀ k', K' ≤ k' → rowL (PF k' 1) [13] k' (l ++ [⟨12, n⟩], o) = some none
  | 0, _, _, _, _, _, _, h => by cases h
  | k + 1, K, [], o, o', n, hl, h => absurd rfl hl
  | k + 1, K, a :: l, o, o', n, hl, h => by
    rcases rowL_cons h with ⟨hc, h1⟩ | ⟨hc, ⟨_, h1⟩ | ⟨l1, o1, h1, h2⟩⟩
    · cases (Prod.mk.inj (Option.some.inj h1)).1
    · cases h1
    · by_cases hn : l1 = []
      · subst hn
        obtain ⟨K1, hK1⟩ := amp1 h1 n
        refine ⟨K1 + 1, fun k' hk' => ?_⟩
        obtain ⟨k', rfl⟩ : ∃ m, k' = m + 1 := ⟨k' - 1, by omega⟩
        show rowL (PF (k' + 1) 1) [13] (k' + 1) (a :: (l ++ [⟨12, n⟩]), o) = some none
        simp only [rowL]
        rw [if_pos hc, bnd_mk_none (hK1 _ (by omega))]
      · obtain ⟨K1, hK1⟩ := amp_row k K l1 _ o' n hn h2
        have h3 := ext (⟨12, n⟩ : S33) [] K 1 l o l1 o1 h1 (fun e => absurd e hn)
        refine ⟨K + K1 + 1, fun k' hk' => ?_⟩
        obtain ⟨k', rfl⟩ : ∃ m, k' = m + 1 := ⟨k' - 1, by omega⟩
        show rowL (PF (k' + 1) 1) [13] (k' + 1) (a :: (l ++ [⟨12, n⟩]), o) = some none
        rw [rowL_go hc (PF_mono (k' := k' + 1) (by omega) h3)]
        exact rowL_mono (PF k' 1) (PF (k' + 1) 1) [13] (fun st r q => PF_mono (by omega) q) k' k' _ _ (Nat.le_refl _) (hK1 k' (by omega))
theorem ungood_amp {x o : List S33} (h : Guard x o) (n : Int) : Ungood (x ++ [⟨12, n⟩]) := by
  obtain ⟨k, hk⟩ := h
  cases k with
  | zero => cases hk
  | succ k =>
    rw [PF_succ, step0] at hk
    rcases rowF_some hk with ⟨_, h2⟩ | ⟨l1, o1, h1, h2⟩
    · cases h2
    · by_cases hn : l1 = []
      · subst hn
        obtain ⟨K1, hK1⟩ := amp1 h1 n
        refine ⟨K1 + 1, none, ?_, fun q e => by cases e⟩
        rw [PF_succ, step0]
        exact bnd_mk_none (hK1 K1 (Nat.le_refl _))
      · obtain ⟨K1, hK1⟩ := amp_row k k l1 o1 o n hn h2
        have h3 := ext (⟨12, n⟩ : S33) [] k 1 x [] l1 o1 h1 (fun e => absurd e hn)
        refine ⟨k + K1 + 1, none, ?_, fun q e => by cases e⟩
        rw [PF_succ, step0, rowF_mk (PF_mono (by omega) h3)]
        exact rowL_mono (PF (k + K1) 1) (PF (k + K1) 1) [13] (fun _ _ q => q) (k + K1) (k + K1) _ _ (Nat.le_refl _) (hK1 _ (by omega))
/-- Where a level gives up, the one above does. -/
theorem up_none {lev lev2 : Nat} {ks : List Int} (hs : ∀ k st, PF (k + 1) lev st = rowF (PF k lev2) ks k st) {st : ST} (h : ∃ k, PF k lev2 st = some none) : ∃ k, PF k lev st = some none := by
  obtain ⟨k, hk⟩ := h
  exact ⟨k + 1, by rw [hs]; exact bnd_mk_none hk⟩
theorem ungood_square {x o : List S33} (h : Guard x o) (n m : Int) : Ungood (⟨17, n⟩ :: (x ++ [⟨18, m⟩])) := by
  -- what is read first of x
  have h2 : ∃ k l1 o1, PF k 2 (x, []) = some (some (l1, o1)) := by
    obtain ⟨k, hk⟩ := h
    cases k with
    | zero => cases hk
    | succ k =>
      rw [PF_succ, step0] at hk
      rcases rowF_some hk with ⟨_, h2⟩ | ⟨l1, o1, h1, _⟩
      · cases h2
      · cases k with
        | zero => cases h1
        | succ k =>
          rw [PF_succ, step1] at h1
          rcases rowF_some h1 with ⟨_, h2⟩ | ⟨l2, o2, h3, _⟩
          · cases h2
          · exact ⟨k, l2, o2, h3⟩
  have h5 : ∃ k, PF k 5 (⟨17, n⟩ :: (x ++ [⟨18, m⟩]), []) = some none := by
    obtain ⟨k, l1, o1, hk⟩ := h2
    cases k with
    | zero => cases hk
    | succ k =>
      rw [PF_succ, step2] at hk
      have bad : ∀ (a : S33) (l : List S33), x = a :: l → (a.f0 = 14 ∨ a.f0 = 15) → ∃ k, PF k 5 (⟨17, n⟩ :: (x ++ [⟨18, m⟩]), []) = some none := by
        rintro a l rfl ha
        have f5 : ∃ k, PF k 5 (a :: (l ++ [⟨18, m⟩]), []) = some none := ⟨1, by
          rw [PF_succ, step5]
          dsimp only
          rw [if_neg (by omega), if_neg (by omega), if_neg (by omega)]⟩
        obtain ⟨k3, hk3⟩ := up_none (lev := 3) (lev2 := 4) (ks := [3, 4]) (fun _ _ => rfl) (up_none (lev := 4) (lev2 := 5) (ks := [5]) (fun _ _ => rfl) f5)
        refine ⟨k3 + 1, ?_⟩
        rw [PF_succ, step5]
        dsimp only
        rw [if_neg (by omega), if_neg (by omega), if_pos rfl]
        exact bnd_mk_none hk3
      have head : ∀ kind : Int, seesF kind (x, []) = true → ∃ a l, x = a :: l ∧ a.f0 = kind := by
        intro kind hs
        cases x with
        | nil => cases hs
        | cons a l => exact ⟨a, l, rfl, by have : (a.f0 == kind) = true := hs; simpa using this⟩
      split at hk
      · rename_i c
        obtain ⟨a, l, e, ha⟩ := head 14 c
        exact bad a l e (Or.inl ha)
      · split at hk
        · rename_i c
          obtain ⟨a, l, e, ha⟩ := head 15 c
          exact bad a l e (Or.inr ha)
        · rcases bnd_some hk with ⟨_, h3⟩ | ⟨⟨l2, o2⟩, h3, h4⟩
          · cases h3
          · cases l2 with
            | nil => cases h4
            | cons a l2 =>
              dsimp only at h4
              split at h4
              · rename_i c
                have c := of_decide_eq_true c
                have h6 := ext (⟨18, m⟩ : S33) [] k 3 x [] (a :: l2) o2 h3 (fun e => by cases e)
                refine ⟨k + 1, ?_⟩
                rw [PF_succ, step5]
                dsimp only
                rw [if_neg (by omega), if_neg (by omega), if_pos rfl, bnd_mk h6]
                unfold takeF
                rw [if_neg (by show ¬ ((a.f0 == 18) = true); simp; omega)]
              · cases h4
  obtain ⟨k, hk⟩ := h5
  obtain ⟨k3, hk3⟩ := up_none (lev := 3) (lev2 := 4) (ks := [3, 4]) (fun _ _ => rfl) (up_none (lev := 4) (lev2 := 5) (ks := [5]) (fun _ _ => rfl) ⟨k, hk⟩)
  have h7 : ∃ k, PF k 2 (⟨17, n⟩ :: (x ++ [⟨18, m⟩]), []) = some none := ⟨k3 + 1, by
    rw [PF_succ, step2, if_neg (show ¬ (seesF 14 _ = true) by show ¬ (((17 : Int) == 14) = true); decide), if_neg (show ¬ (seesF 15 _ = true) by show ¬ (((17 : Int) == 15) = true); decide)]
    exact bnd_mk_none hk3⟩
  obtain ⟨k0, hk0⟩ := up_none (lev := 0) (lev2 := 1) (ks := [13]) (fun _ _ => rfl) (up_none (lev := 1) (lev2 := 2) (ks := [12]) (fun _ _ => rfl) h7)
  exact ⟨k0, none, hk0, fun q e => by cases e⟩
theorem goS_leaf (s : S33) (hs : s.f0 = 1 ∨ s.f0 = 2) : ∀ (p : List S33) (st : List Bool), goS (p ++ [s]) st = false
  | [], st => by
    have e : (tk s.f0 s.f1) = (0, false, false) ∨ (tk s.f0 s.f1) = (-1, false, false) := by
      unfold tk
      rcases hs with h | h
      · rw [if_pos h]
        split
        · exact .inl rfl
        · exact .inr rfl
      · rw [if_neg (by omega), if_pos h]
        split
        · exact .inl rfl
        · exact .inr rfl
    show goS [s] st = false
    simp only [goS]
    rcases e with e | e
    · rw [e]
      simp
    · rw [e]
      simp
  | a :: p, st => by
    have ih := goS_leaf s hs p
    show goS (a :: (p ++ [s])) st = false
    simp only [goS]
    split
    · rfl
    · split
      · rfl
      · exact ih _
/-! texts -/
/-- No digit, and never behind the first byte of a sign's text. -/
def Sep2 (c : UInt8) : Prop := dg c = false ∧ ∀ t ∈ lexT, c ∉ t.data.toList.tail
theorem pre_app2 (c : UInt8) (r : List UInt8) (t l : List UInt8) (hl : l ≠ []) (h : c ∉ t.tail) : t.isPrefixOf (l ++ c :: r) = t.isPrefixOf l := by
  cases t with
  | nil => simp
  | cons a t => cases l with
    | nil => exact absurd rfl hl
    | cons b l =>
      simp only [List.cons_append, List.isPrefixOf]
      rw [pre_app c r t l h]
theorem lexT_mem2 (k : Nat) (c : UInt8) (h : ∀ t ∈ lexT, c ∉ t.data.toList.tail) : c ∉ (lexT.getD k ⟨#[]⟩).data.toList.tail := by
  by_cases hk : k < lexT.length
  · have e : lexT.getD k ⟨#[]⟩ = lexT[k] := by simp [List.getD, hk]
    rw [e]
    exact h _ (List.getElem_mem hk)
  · have e : lexT.getD k ⟨#[]⟩ = ⟨#[]⟩ := by rw [List.getD_eq_getElem?_getD, List.getElem?_eq_none (by omega)]; rfl
    rw [e]; simp
theorem longL_app2 (c : UInt8) (r l : List UInt8) (hl : l ≠ []) (h : Sep2 c) : ∀ k, longL (l ++ c :: r) k = longL l k
  | 0 => rfl
  | k + 1 => by
    unfold longL
    rw [longL_app2 c r l hl h k]
    unfold Lib.hasPrefix
    rw [pre_app2 c r _ l hl (lexT_mem2 k c h.2)]
theorem lex_app2 (c : UInt8) (r : List UInt8) (hc : Sep2 c) : ∀ (n : Nat) (l : List UInt8) (x : List S33), l.length ≤ n →
    (∃ y, lexF l x = some (y, 0) ∧ lexF (l ++ c :: r) x = lexF (c :: r) y) ∨ (∃ e, e ≠ 0 ∧ lexF l x = some ([], e) ∧ lexF (l ++ c :: r) x = some ([], e)) := by
  intro n
  induction n with
  | zero =>
    intro l x h
    obtain rfl : l = [] := List.eq_nil_of_length_eq_zero (by omega)
    exact Or.inl ⟨x, rfl, rfl⟩
  | succ n ih =>
    intro l x h
    rw [lexF_eq l x, lexF_eq (l ++ c :: r) x, dw_app]
    cases hl : l.dropWhile (· == 32) with
    | nil =>
      refine Or.inl ⟨x, rfl, ?_⟩
      rw [if_pos rfl, lexF_eq (c :: r) x]
    | cons a t =>
      rw [if_neg (by simp)]
      simp only [List.cons_append]
      rw [← List.cons_append, tw_app c r hc.1, longL_app2 c r _ (by simp) hc]
      have hd : ∀ m, m ≤ (a :: t).length → ((a :: t) ++ c :: r).drop m = (a :: t).drop m ++ c :: r := fun m hm => List.drop_append_of_le_length hm
      have hlt : ∀ m, 0 < m → ((a :: t).drop m).length ≤ n := fun m hm => by have := drop_lt l a t m hl hm; omega
      split
      · rename_i hdg
        split
        · exact Or.inr ⟨2, by decide, rfl, rfl⟩
        · split
          · exact Or.inr ⟨3, by decide, rfl, rfl⟩
          · split
            · exact Or.inr ⟨3, by decide, rfl, rfl⟩
            · rw [hd _ ((List.takeWhile_sublist dg).length_le)]
              exact ih _ _ (hlt _ (tw_pos a t hdg))
      · split
        · exact ih t _ (hlt 1 (by omega))
        · split
          · exact Or.inr ⟨2, by decide, rfl, rfl⟩
          · rename_i hz
            have := longL_pos (a :: t) 19
            rw [hd _ (longL_le _ _)]
            exact ih _ _ (hlt _ (by omega))
theorem sep_to : Sep2 93 := ⟨by decide, by decide⟩
/-- A byte that begins one sign's text alone, and is it. -/
theorem longL_one (c : UInt8) (t : List UInt8) (h : ∀ x ∈ lexT, x.data.toList.isPrefixOf (c :: t) = x.data.toList.isPrefixOf [c]) : ∀ k, longL (c :: t) k = longL [c] k
  | 0 => rfl
  | k + 1 => by
    unfold longL
    rw [longL_one c t h k]
    unfold Lib.hasPrefix
    have e : (lexT.getD k ⟨#[]⟩).data.toList.isPrefixOf (c :: t) = (lexT.getD k ⟨#[]⟩).data.toList.isPrefixOf [c] := by
      by_cases hk : k < lexT.length
      · have e : lexT.getD k ⟨#[]⟩ = lexT[k] := by simp [List.getD, hk]
        rw [e]
        exact h _ (List.getElem_mem hk)
      · have e : lexT.getD k ⟨#[]⟩ = ⟨#[]⟩ := by rw [List.getD_eq_getElem?_getD, List.getElem?_eq_none (by omega)]; rfl
        rw [e]; simp
    rw [e]
theorem long_from : longL [91] 19 = (17, 1) := by kernel_rfl
theorem lexF_from (t : List UInt8) (x : List S33) : lexF (91 :: t) x = lexF t (x ++ [⟨17, 0⟩]) := by
  obtain ⟨n, hn⟩ : ∃ n : Nat, n = 19 := ⟨19, rfl⟩
  rw [lexF_symN 91 t x (by decide) (by decide) (by decide) n hn, longL_one 91 t (by
    intro y hy
    simp only [lexT, List.mem_cons, List.mem_nil_iff, or_false] at hy
    rcases hy with rfl | rfl | rfl | rfl | rfl | rfl | rfl | rfl | rfl | rfl | rfl | rfl | rfl | rfl | rfl | rfl | rfl | rfl | rfl <;> simp [List.isPrefixOf])]
  subst hn
  rw [long_from, if_neg (by decide)]
  have key : ∀ F : List UInt8 → List S33 → Option (List S33 × Int), F ((91 :: t).drop ((17 : Int), (1 : Int)).2.toNat) (x ++ [(⟨((17 : Int), (1 : Int)).1, 0⟩ : S33)]) = F t (x ++ [⟨17, 0⟩]) := fun F => rfl
  exact key lexF
theorem lx_to : Lx [93] [⟨18, 0⟩] := by unfold Lx; kernel_rfl
theorem lx_square {l : List UInt8} {x : List S33} (h : Lx l x) : Lx ([91] ++ l ++ [93]) (⟨17, 0⟩ :: (x ++ [⟨18, 0⟩])) := by
  unfold Lx
  have e0 : ([91] ++ l ++ [93] : List UInt8) = 91 :: (l ++ [93]) := by simp
  rw [e0, lexF_from]
  have ha := h.ahead [(⟨17, 0⟩ : S33)]
  rcases lex_app2 93 [] sep_to _ l ([] ++ [(⟨17, 0⟩ : S33)]) (Nat.le_refl _) with ⟨y, h1, h2⟩ | ⟨e, he, h1, _⟩
  · have ha : lexF l ([] ++ [(⟨17, 0⟩ : S33)]) = some ([(⟨17, 0⟩ : S33)] ++ x, 0) := ha
    rw [ha] at h1
    obtain ⟨rfl, -⟩ := Prod.mk.inj (Option.some.inj h1)
    rw [h2, lx_to.ahead]
    simp
  · have ha : lexF l ([] ++ [(⟨17, 0⟩ : S33)]) = some ([(⟨17, 0⟩ : S33)] ++ x, 0) := ha
    rw [ha] at h1
    exact absurd (Prod.mk.inj (Option.some.inj h1)).2.symm he
end Go.Proofs.YtikbgoppmailjaaDoor.Pure
/- A sign's text; signs' texts, joined. -/
namespace Go.Proofs.YtikbgoppmailjaaDoor.Pure
open Go.RowKit Go.Proofs.YtikbgoppmailjaaDoor.H Go.Proofs.YtikbgoppmailjaaDoorW.PrintWords Go.Proofs.YtikbgoppmailjaaDoorW.PrintLast Go.Proofs.YtikbgoppmailjaaDoorW.PrintMore
set_option linter.unusedVariables false
set_option linter.unusedSimpArgs false
/-- What signs are written as. -/
def txts (l : List S33) : List (List UInt8) := l.map fun s => (lex_Text.t s.f0 s.f1).data.toList
def goodAll (l : List S33) : Bool := l.all fun s => goodB s.f0 s.f1
def prL (l : List S33) : List UInt8 := Lib.join (txts l) [32]
def prS (l : List S33) : ByteArray × Bool := if goodAll l = true then (⟨(prL l).toArray⟩, true) else (⟨#[]⟩, false)
theorem take_snoc (l : List S33) (i : Nat) (h : i < l.length) : l.take (i + 1) = l.take i ++ [l[i]] := by
  rw [List.take_add_one, List.getElem?_eq_getElem h]
  rfl
end Go.Proofs.YtikbgoppmailjaaDoor.Pure
/- The examples of chapter 14. -/
namespace Go.Proofs.YtikbgoppmailjaaDoor.Pure
open Go.RowKit Go.Proofs.YtikbgoppmailjaaDoor.H Go.Proofs.YtikbgoppmailjaaDoorW.PrintWords Go.Proofs.YtikbgoppmailjaaDoorW.PrintLast
theorem wakes14_50 : remontoirlaw14_wakes.f 50 = some true := by kernel_rfl
theorem wakes14 (k : Nat) (hk : 50 ≤ k) : remontoirlaw14_wakes.f k = some true := at_rounds (remontoirlaw14_wakes.mono) hk wakes14_50
end Go.Proofs.YtikbgoppmailjaaDoor.Pure
/- GuardWrong: a text that is a guard, with one more name, number, comparison, bracket or operator behind it, or in square brackets, is none; its signs cut short behind a number or a name, or with a number more, are not Good. -/
namespace Go.Proofs.YtikbgoppmailjaaDoor.Pure
open Go.RowKit Go.Proofs.YtikbgoppmailjaaDoor.H Go.Proofs.YtikbgoppmailjaaDoorW.PrintWords Go.Proofs.YtikbgoppmailjaaDoorW.PrintLast Go.Proofs.YtikbgoppmailjaaDoorW.PrintMore
set_option linter.unusedVariables false
set_option linter.unusedSimpArgs false
def TX : List ByteArray := [(⟨#[32, 97]⟩ : ByteArray), (⟨#[32, 49]⟩ : ByteArray), (⟨#[32, 60, 32, 49]⟩ : ByteArray), (⟨#[32, 41]⟩ : ByteArray), (⟨#[32, 40, 32, 97, 32, 60, 32, 49]⟩ : ByteArray), (⟨#[32, 33]⟩ : ByteArray), (⟨#[32, 38]⟩ : ByteArray), (⟨#[32, 93]⟩ : ByteArray)]
theorem okw (k : Int) (h : k = 2 ∨ k = 1 ∨ k = 6 ∨ k = 16 ∨ k = 15 ∨ k = 14 ∨ k = 18) : OKc 0 k := ⟨fun _ => by omega, fun _ => by omega, fun _ => by omega, fun _ => by omega⟩
theorem wrong_one {s : ByteArray} {x o : List S33} (hs : s.size ≤ 52) (hx : Lx s.data.toList x) (hg : Guard x o) (r : List UInt8) (c : S33) (tx : List S33) (hl : r.length ≤ 7) (h : Lx r (c :: tx)) (hc : Ungood (x ++ c :: tx)) : ∃ K, ∀ k, K ≤ k → guard_Parse.f k (s ++ ⟨(32 :: r).toArray⟩) = some ([], 2) := by
  refine parse_bad ?_ (x := x ++ c :: tx) ?_ hc
  · rw [ByteArray.size_append]
    have e : (⟨(32 :: r).toArray⟩ : ByteArray).size = r.length + 1 := by simp [ByteArray.size]
    omega
  · have := hx.app h
    simpa using this
theorem wrong_all {s : ByteArray} {x o : List S33} (hs : s.size ≤ 52) (hx : Lx s.data.toList x) (hg : Guard x o) : ∃ K, ∀ (i : Nat), i < 8 → ∀ k, K ≤ k → guard_Parse.f k (s ++ rdOf ByteArray.empty TX (i : Int)) = some ([], 2) := by
  have one : ∀ (r : List UInt8) (c : S33) (tx : List S33), r.length ≤ 7 → Lx r (c :: tx) → Ungood (x ++ c :: tx) → ∃ K, ∀ k, K ≤ k → guard_Parse.f k (s ++ ⟨(32 :: r).toArray⟩) = some ([], 2) := fun r c tx => wrong_one hs hx hg r c tx
  obtain ⟨K0, h0⟩ := one [97] ⟨2, 0⟩ [] (by decide) (by unfold Lx; kernel_rfl) (ungood_more hg _ (okw _ (by decide)) _)
  obtain ⟨K1, h1⟩ := one [49] ⟨1, 1⟩ [] (by decide) (by unfold Lx; kernel_rfl) (ungood_more hg _ (okw _ (by decide)) _)
  obtain ⟨K2, h2⟩ := one [60, 32, 49] ⟨6, 0⟩ [⟨1, 1⟩] (by decide) (by unfold Lx; kernel_rfl) (ungood_more hg _ (okw _ (by decide)) _)
  obtain ⟨K3, h3⟩ := one [41] ⟨16, 0⟩ [] (by decide) (by unfold Lx; kernel_rfl) (ungood_more hg _ (okw _ (by decide)) _)
  obtain ⟨K4, h4⟩ := one [40, 32, 97, 32, 60, 32, 49] ⟨15, 0⟩ [⟨2, 0⟩, ⟨6, 0⟩, ⟨1, 1⟩] (by decide) (by unfold Lx; kernel_rfl) (ungood_more hg _ (okw _ (by decide)) _)
  obtain ⟨K5, h5⟩ := one [33] ⟨14, 0⟩ [] (by decide) (by unfold Lx; kernel_rfl) (ungood_more hg _ (okw _ (by decide)) _)
  obtain ⟨K6, h6⟩ := one [38] ⟨12, 0⟩ [] (by decide) (by unfold Lx; kernel_rfl) (ungood_amp hg 0)
  obtain ⟨K7, h7⟩ := one [93] ⟨18, 0⟩ [] (by decide) (by unfold Lx; kernel_rfl) (ungood_more hg _ (okw _ (by decide)) _)
  refine ⟨K0 + K1 + K2 + K3 + K4 + K5 + K6 + K7, fun i hi k hk => ?_⟩
  rcases (by omega : i = 0 ∨ i = 1 ∨ i = 2 ∨ i = 3 ∨ i = 4 ∨ i = 5 ∨ i = 6 ∨ i = 7) with rfl | rfl | rfl | rfl | rfl | rfl | rfl | rfl
  · exact h0 k (by omega)
  · exact h1 k (by omega)
  · exact h2 k (by omega)
  · exact h3 k (by omega)
  · exact h4 k (by omega)
  · exact h5 k (by omega)
  · exact h6 k (by omega)
  · exact h7 k (by omega)
theorem TX_size : ∀ i : Nat, i < 8 → (rdOf ByteArray.empty TX (i : Int)).size ≤ 8 := by
  intro i hi
  rcases (by omega : i = 0 ∨ i = 1 ∨ i = 2 ∨ i = 3 ∨ i = 4 ∨ i = 5 ∨ i = 6 ∨ i = 7) with rfl | rfl | rfl | rfl | rfl | rfl | rfl | rfl <;> decide
theorem TX_len : (TX.length : Int) = 8 := rfl
theorem wrong_loop (s : ByteArray) (n : Int) (l : List S33) (hs : s.size ≤ 52) (K : Nat) (hK : ∀ (i : Nat), i < 8 → ∀ k, K ≤ k → guard_Parse.f k (s ++ rdOf ByteArray.empty TX (i : Int)) = some ([], 2)) :
    ∀ (d i k : Nat), i + d = 8 → K ≤ k → remontoirlaw14_GuardWrong.l0 (k + d) s n l TX (TX.length : Int) (i : Int) = remontoirlaw14_GuardWrong.l0 k s n l TX (TX.length : Int) ((8 : Nat) : Int) := by
  intro d
  induction d with
  | zero =>
    intro i k h _
    obtain rfl : i = 8 := by omega
    rfl
  | succ d ih =>
    intro i k h hk
    rw [← ih (i + 1) k (by omega) hk]
    have hz := TX_size i (by omega)
    have hlen := TX_len
    show remontoirlaw14_GuardWrong.l0 ((k + d) + 1) s n l TX (TX.length : Int) (i : Int) = _
    generalize hL : (TX.length : Int) = L at *
    simp only [remontoirlaw14_GuardWrong.l0]
    rw [if_pos (by omega), if_pos (by omega), if_pos (by rw [hL]; omega), if_pos (by omega), hK i (by omega) _ (by omega)]
    simp only [Option.bind_some, if_true, List.length_nil]
    have e : wrap64 ((i : Int) + 1) = ((i + 1 : Nat) : Int) := by unfold wrap64; omega
    rw [e]
    rfl
theorem wrong_j2 (s : ByteArray) (x o : List S33) (hs : s.size ≤ 52) (hx : Lx s.data.toList x) (hg : Guard x o) (hp : Post true o) (hl : o.length ≤ 60) : ∃ K, ∀ k, K ≤ k → remontoirlaw14_GuardWrong.j2 k s o = some true := by
  obtain ⟨K, hK⟩ := parse_bad (s := ((⟨#[91]⟩ : ByteArray) ++ s) ++ (⟨#[93]⟩ : ByteArray)) (by simp only [ByteArray.size_append]; show 1 + s.size + 1 ≤ 60; omega) (by simpa using lx_square hx) (ungood_square hg 0 0)
  have hgood : goS o [] = true := by
    have := goS_post hp [] []
    rw [List.append_nil] at this
    rw [this]; rfl
  obtain ⟨Q, hQ⟩ : ∃ Q, Q = K + 500 := ⟨_, rfl⟩
  refine ⟨Q, fun k hk => ?_⟩
  obtain ⟨k, rfl⟩ : ∃ m, k = m + 2 := ⟨k - 2, by omega⟩
  simp only [remontoirlaw14_GuardWrong.j2]
  have z1 : (⟨#[91]⟩ : ByteArray).size = 1 := rfl
  rw [if_pos (by omega), if_pos (by rw [ByteArray.size_append, z1]; omega), hK _ (by omega)]
  simp only [Option.bind_some, if_true]
  have e0 : (((([] : List S33).length : Nat) : Int) != 0) = false := rfl
  rw [e0]
  simp only [remontoirlaw14_GuardWrong.j3, Bool.false_eq_true, if_false]
  rw [good_goS o (by omega) _ (by omega), hgood]
  simp only [Option.bind_some, if_true]
  rw [if_pos (by simp; omega), if_pos (by simp; omega)]
  simp only [List.nil_append]
  rw [good_goS (o ++ [(⟨1, 1⟩ : S33)]) (by simp; omega) _ (by simp; omega), goS_leaf (⟨1, 1⟩ : S33) (Or.inl rfl)]
  simp only [Option.bind_some, Bool.false_eq_true, if_false]
  rw [wakes14 _ (by omega)]
  rfl
theorem wrong_cut (s : ByteArray) (o : List S33) (m Q : Nat) (lo : o.length ≤ 60) (hml : m < o.length) (hQ : 500 ≤ Q) (h2 : remontoirlaw14_GuardWrong.j2 Q s o = some true) (hc : m = 0 ∨ ∃ (h : m - 1 < o.length), o[m - 1].f0 = 1 ∨ o[m - 1].f0 = 2) :
    remontoirlaw14_GuardWrong.j1 (Q + 1) s o (m : Int) true = some true := by
  simp only [remontoirlaw14_GuardWrong.j1, if_true]
  have hf : goS (o.take m) [] = false := by
    rcases hc with h | ⟨h, hk⟩
    · rw [h]; rfl
    · by_cases h0 : m = 0
      · rw [h0]; rfl
      · have e : m = (m - 1) + 1 := by omega
        rw [e, take_snoc o (m - 1) h]
        exact goS_leaf _ hk _ _
  rw [if_pos (by omega), if_pos (by omega), Int.toNat_natCast, good_goS (o.take m) (by rw [List.length_take]; omega) _ (by rw [List.length_take]; omega), hf]
  simp only [Option.bind_some, Bool.false_eq_true, if_false]
  exact h2
theorem rd_at16 (l : List S33) (i : Nat) (h : i < l.length) : rd_T33 l (i : Int) = l[i] := by
  unfold rd_T33
  rw [Int.toNat_natCast, List.getD_eq_getElem?_getD, List.getElem?_eq_getElem h]
  rfl
theorem w_pred (m : Nat) (h0 : m ≠ 0) (h : m ≤ 60) : wrap64 ((m : Int) - 1) = ((m - 1 : Nat) : Int) := by unfold wrap64; omega
theorem wrong_end (s : ByteArray) (n : Int) (o : List S33) (L : Int) (hL : L = 8) (m Q : Nat) (lo : o.length ≤ 60) (hml : m < o.length) (hQ : 500 ≤ Q) (em : Int.tmod (wrap64 n) (o.length : Int) = (m : Int)) (h2 : ∀ k, Q ≤ k → remontoirlaw14_GuardWrong.j2 k s o = some true) :
    remontoirlaw14_GuardWrong.l0 (Q + 2) s n o TX L ((8 : Nat) : Int) = some true := by
  have cut := wrong_cut s o m Q lo hml hQ (h2 Q (Nat.le_refl _))
  have c8 : ¬ (((8 : Nat) : Int) < L) := by rw [hL]; decide
  have c0 : ¬ ((o.length : Int) = 0) := by omega
  show remontoirlaw14_GuardWrong.l0 ((Q + 1) + 1) s n o TX L ((8 : Nat) : Int) = some true
  simp only [remontoirlaw14_GuardWrong.l0]
  rw [if_neg c8, if_neg c0, em]
  clear em c8
  by_cases h0 : m = 0
  · rw [if_pos (by omega)]
    exact cut (Or.inl h0)
  · have e1 := w_pred m h0 (by omega)
    have hm1 : m - 1 < o.length := by omega
    rw [if_neg (by omega), e1]
    clear e1
    rw [if_pos (by omega), if_pos (by omega), rd_at16 o (m - 1) hm1]
    by_cases hk1 : o[m - 1].f0 = 1
    · rw [if_pos hk1]
      exact cut (Or.inr ⟨hm1, Or.inl hk1⟩)
    · rw [if_neg hk1]
      by_cases hk2 : o[m - 1].f0 = 2
      · rw [hk2]
        exact cut (Or.inr ⟨hm1, Or.inr hk2⟩)
      · rw [beq_eq_false_iff_ne.2 hk2]
        simp only [remontoirlaw14_GuardWrong.j1, Bool.false_eq_true, if_false]
        exact h2 _ (Nat.le_refl _)
theorem tmod_nat (u len : Nat) (hu : u ≤ 65535) (hl : 0 < len) : Int.tmod (wrap64 (u : Int)) (len : Int) = ((u % len : Nat) : Int) := by
  have ew : wrap64 (u : Int) = (u : Int) := by unfold wrap64; omega
  rw [ew]
  rfl
theorem size_small (s : ByteArray) (h : ¬ (wrap64 ((s.size : Int) + 8) > 60)) (h2 : s.size ≤ 140737488351232) : s.size ≤ 52 := by unfold wrap64 at h; omega
theorem GuardWrong : remontoirlaw14_GuardWrong.Pure := by
  intro s n hs0 hn
  obtain ⟨u, rfl, hu⟩ : ∃ u : Nat, n = (u : Int) ∧ u ≤ 65535 := by
    simp [Lit.wf, IntKind.min, IntKind.max, IntKind.signed, IntKind.bits] at hn
    exact ⟨n.toNat, by omega, by omega⟩
  clear hn
  by_cases hbig : wrap64 ((s.size : Int) + 8) > 60
  · refine ⟨50, ?_⟩
    unfold remontoirlaw14_GuardWrong.f
    rw [if_pos hbig, wakes14 50 (Nat.le_refl _)]
    rfl
  have hs := size_small s hbig hs0
  rcases parse_any s with ⟨sa, o, ⟨x, hx, hg⟩, lo, K0, p0⟩ | ⟨e, he, K0, p0⟩
  · have hp : Post true o := Gx.post ⟨x, hx, hg⟩
    have hpos : 0 < o.length := by
      cases o with
      | nil => have := goS_post hp [] []; simp [goS] at this
      | cons a o => simp
    obtain ⟨K1, h1⟩ := wrong_all hs hx hg
    obtain ⟨K2, h2⟩ := wrong_j2 s x o hs hx hg hp lo
    obtain ⟨Q, hQ0, hQ1, hQ2, hQ5⟩ : ∃ Q, K0 ≤ Q ∧ K1 ≤ Q ∧ K2 ≤ Q ∧ 500 ≤ Q := ⟨K0 + K1 + K2 + 500, by omega, by omega, by omega, by omega⟩
    refine ⟨Q + 2 + 8, ?_⟩
    unfold remontoirlaw14_GuardWrong.f
    rw [if_neg hbig, p0 _ (Nat.le_trans hQ0 (Nat.le_trans (Nat.le_add_right Q 2) (Nat.le_add_right _ 8)))]
    clear hbig
    simp only [Option.bind_some, if_true]
    show remontoirlaw14_GuardWrong.l0 (Q + 2 + 8) s (u : Int) o TX (TX.length : Int) ((0 : Nat) : Int) = some true
    rw [wrong_loop s (u : Int) o hs K1 h1 8 0 (Q + 2) rfl (Nat.le_trans hQ1 (Nat.le_add_right Q 2))]
    exact wrong_end s (u : Int) o _ TX_len (u % o.length) Q lo (Nat.mod_lt _ hpos) hQ5 (tmod_nat u o.length hu hpos) (fun k hk => h2 k (Nat.le_trans hQ2 hk))
  · refine ⟨K0 + 50, ?_⟩
    unfold remontoirlaw14_GuardWrong.f
    rw [if_neg hbig, p0 _ (Nat.le_add_right _ _)]
    clear hbig
    simp only [Option.bind_some]
    rw [if_neg he, wakes14 _ (Nat.le_add_left _ _)]
    rfl
end Go.Proofs.YtikbgoppmailjaaDoor.Pure
/- What the laid variables of a Guard row give: the power table and guard's own error. -/
namespace Go.Proofs.YtikbgoppmailjaaDoor.H
open Go.RowKit
theorem star_eq : "*" ++ "errors.errorString" = "*errors.errorString" := by decide
theorem tabs2_of {W : World} (h : laidMetH Tryd.prog Rows.guardJoinsRow.laid W) : Tabs2 W := by
  rw [MakeChecks.laidMetH_plain _ _ _ (by kernel_rfl)] at h
  have h1 : laidMet Tryd.prog ((_, Lib.tabData .u64 Lib.pow10Tab) :: _) W := laidMet.tail (laidMet.tail h)
  have h2 : laidMet Tryd.prog (("remontoir/guard.wrong", .iface "*errors.errorString" (.ptr (.agg [.lit (.string _)]))) :: _) W := laidMet.tail (laidMet.tail (laidMet.tail (laidMet.tail (laidMet.tail (laidMet.tail h)))))
  have ht : Tabs W := ⟨Lib.tabIs_of_head tabs_glob (by kernel_rfl) (n := 20) (t := 138) (e := 63) (by kernel_rfl) (by kernel_rfl) (by kernel_rfl) (by kernel_rfl) h1⟩
  obtain ⟨a, s, hv, _⟩ := laid_sentinel (g := 0) (ti := 58) (tp := 134) (te := 136) (ts := 9) h2 (by kernel_rfl) (by kernel_rfl) Tryd.underlying58 (by
    intro u hu
    exact typeName_ptr_named (nm := "errors.errorString") (by rw [star_eq]; kernel_rfl) (by kernel_rfl) (by decide) u (by rw [star_eq]; exact hu)) Tryd.underlying134 Tryd.underlying136 rfl rfl (by kernel_rfl) (by kernel_rfl) (by kernel_rfl)
  exact ⟨ht, _, _, World.var?_cell (by kernel_rfl) hv 0⟩
end Go.Proofs.YtikbgoppmailjaaDoor.H
