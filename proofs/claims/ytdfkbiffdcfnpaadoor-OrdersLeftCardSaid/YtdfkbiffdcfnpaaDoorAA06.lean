/- Parts of the proof of LawOrdersLeft: words, contracts of the functions, plain laws. -/
import Derived.Test.YtdfkbiffdcfnpaaDoorAA02
import Derived.Test.YtdfkbiffdcfnpaaDoorAA05
import Derived.Test.YtdfkbiffdcfnpaaDoorAA03
import Derived.Test.YtdfkbiffdcfnpaaDoorAA04
import Derived.Test.YtdfkbiffdcfnpaaDoorAA01
import Derived.OpenShut
import Derived.KernelRfl
-- Written by hp.py (a program of this session, over the kit's print.py), with hand-made contracts beside it.
namespace Go.Proofs.YtdfkbiffdcfnpaaDoor.H
open Go.RowKit Go.Proofs.YtdfkbiffdcfnpaaDoorW.PrintWords Go.Proofs.YtdfkbiffdcfnpaaDoorW.PrintLast Go.Proofs.YtdfkbiffdcfnpaaDoorW.PrintMore
attribute [local go_sem] max2_int min2_int max_two min_two max_three min_three max_four min_four   -- for this text's walks alone
set_option linter.unusedVariables false
set_option linter.unusedSimpArgs false

/-! ### remontoirlaw27_OrdersLeft: function 4 -/
mutual
def remontoirlaw27_OrdersLeft.l0 : Nat → List (S35) → Int → List (S35) → List Int → List Int → List Int → Int → Option (Bool)
  | 0, _, _, _, _, _, _, _ => none
  | k + 1, x0, x1, x5, x6, x7, x8, x9 => if x9 < (x6.length : Int) then (if 0 ≤ x9 then (if (rd x6 x9) = x1 then (remontoirlaw27_OrdersLeft.l0 k x0 x1 x5 x6 x7 x8 (wrap64 (x9 + 1))) else (if x8.length < 17592186044416 then (remontoirlaw27_OrdersLeft.l0 k x0 x1 x5 x6 x7 (x8 ++ [rd x6 x9]) (wrap64 (x9 + 1))) else (none))) else (none)) else ((orders_Timers.f x0).bind fun t213 => ((orders_Timers.f x5).bind fun t216 => (remontoirlaw27_OrdersLeft.l1 k x1 x5 x7 x8 t213 t216 ([] : List (S35)) 0)))
def remontoirlaw27_OrdersLeft.l1 : Nat → Int → List (S35) → List Int → List Int → List (S35) → List (S35) → List (S35) → Int → Option (Bool)
  | 0, _, _, _, _, _, _, _, _ => none
  | k + 1, x1, x5, x7, x8, x10, x11, x12, x13 => if x13 < (x10.length : Int) then (if 0 ≤ x13 then (if ((rd_T35 x10 x13).f1) = x1 then (remontoirlaw27_OrdersLeft.l1 k x1 x5 x7 x8 x10 x11 x12 (wrap64 (x13 + 1))) else (if x12.length < 3518437208883 then (remontoirlaw27_OrdersLeft.l1 k x1 x5 x7 x8 x10 x11 (x12 ++ [(⟨(rd_T35 x10 x13).f0, (rd_T35 x10 x13).f1, (rd_T35 x10 x13).f2, (rd_T35 x10 x13).f3, (rd_T35 x10 x13).f4⟩ : S35)]) (wrap64 (x13 + 1))) else (none))) else (none)) else ((some (([] : List (S35)) : List (S35))).bind fun y224 => (if y224.length + x5.length < 3518437208883 then ((some (y224 ++ x5 : List (S35))).bind fun y227 => ((some (([(⟨1, x1, 0, 0, 0⟩ : S35), (⟨2, x1, 3, 0, 0⟩ : S35)] : List (S35)) : List (S35))).bind fun y230 => (if y227.length + y230.length < 3518437208883 then ((some (y227 ++ y230 : List (S35))).bind fun y233 => ((orders_Jobs.f y233).bind fun t236 => ((orders_Timers.f y233).bind fun t239 => (remontoirlaw27_OrdersLeft.l2 k x1 x7 x8 x11 x12 t236 t239 false 0)))) else (none)))) else (none)))
def remontoirlaw27_OrdersLeft.l2 : Nat → Int → List Int → List Int → List (S35) → List (S35) → List Int → List (S35) → Bool → Int → Option (Bool)
  | 0, _, _, _, _, _, _, _, _, _ => none
  | k + 1, x1, x7, x8, x11, x12, x15, x16, x17, x18 => if x18 < (x15.length : Int) then (if x17 = true then (remontoirlaw27_OrdersLeft.l2 k x1 x7 x8 x11 x12 x15 x16 true (wrap64 (x18 + 1))) else (if 0 ≤ x18 then (remontoirlaw27_OrdersLeft.l2 k x1 x7 x8 x11 x12 x15 x16 ((rd x15 x18) == x1) (wrap64 (x18 + 1))) else (none))) else ((remontoirkeep_Ints.f k x7 x8).bind fun t243 => (if t243 = true then ((remontoirkeep_Orders.f k x11 x12).bind fun t244 => (if t244 = true then (if x17 = true then (if (x15.length : Int) = (wrap64 ((x7.length : Int) + 1)) then (if (x16.length : Int) = (wrap64 ((x11.length : Int) + 1)) then (if 0 ≤ (wrap64 ((x16.length : Int) - 1)) then (if (wrap64 ((x16.length : Int) - 1)) < (x16.length : Int) then (if ((rd_T35 x16 (wrap64 ((x16.length : Int) - 1))).f1) = x1 then ((remontoirlaw27_wakes.f k).bind fun t246 => (some t246)) else (some false)) else (none)) else (none)) else (some false)) else (some false)) else (some false)) else (some false))) else (some false)))
end
def remontoirlaw27_OrdersLeft.f (k : Nat) (l0 : List (S35)) (a1 : Int) : Option (Bool) := if (l0.length : Int) > 60 then ((remontoirlaw27_wakes.f k).bind fun t192 => (some t192)) else ((some (([] : List (S35)) : List (S35))).bind fun y193 => (if y193.length + l0.length < 3518437208883 then ((some (y193 ++ l0 : List (S35))).bind fun y196 => (if y196.length < 3518437208883 then ((some (y196 ++ [(⟨3, a1, 0, 0, 0⟩ : S35)] : List (S35))).bind fun y199 => ((orders_Jobs.f l0).bind fun t202 => ((orders_Jobs.f y199).bind fun t205 => (remontoirlaw27_OrdersLeft.l0 k l0 a1 y199 t202 t205 ([] : List Int) 0)))) else (none))) else (none)))
theorem remontoirlaw27_OrdersLeft.mono_l : ∀ k, (∀ y0 y1 y2 y3 y4 y5 y6, LeO (remontoirlaw27_OrdersLeft.l0 k y0 y1 y2 y3 y4 y5 y6) (remontoirlaw27_OrdersLeft.l0 (k + 1) y0 y1 y2 y3 y4 y5 y6)) ∧ (∀ y0 y1 y2 y3 y4 y5 y6 y7, LeO (remontoirlaw27_OrdersLeft.l1 k y0 y1 y2 y3 y4 y5 y6 y7) (remontoirlaw27_OrdersLeft.l1 (k + 1) y0 y1 y2 y3 y4 y5 y6 y7)) ∧ (∀ y0 y1 y2 y3 y4 y5 y6 y7 y8, LeO (remontoirlaw27_OrdersLeft.l2 k y0 y1 y2 y3 y4 y5 y6 y7 y8) (remontoirlaw27_OrdersLeft.l2 (k + 1) y0 y1 y2 y3 y4 y5 y6 y7 y8))
  | 0 => ⟨fun _ _ _ _ _ _ _ r h => by simp [remontoirlaw27_OrdersLeft.l0] at h, fun _ _ _ _ _ _ _ _ r h => by simp [remontoirlaw27_OrdersLeft.l1] at h, fun _ _ _ _ _ _ _ _ _ r h => by simp [remontoirlaw27_OrdersLeft.l2] at h⟩
  | k + 1 => by
    obtain ⟨ih0, ih1, ih2⟩ := remontoirlaw27_OrdersLeft.mono_l k
    refine ⟨?_, ?_, ?_⟩
    · intro y0 y1 y2 y3 y4 y5 y6
      unfold remontoirlaw27_OrdersLeft.l0
      repeat' first
      | (with_reducible exact ih0 _ _ _ _ _ _ _)
      | (with_reducible exact ih1 _ _ _ _ _ _ _ _)
      | (with_reducible exact ih2 _ _ _ _ _ _ _ _ _)
      | (with_reducible exact remontoirkeep_Ints.mono _ _ _)
      | (with_reducible exact remontoirkeep_Orders.mono _ _ _)
      | (with_reducible exact remontoirlaw27_wakes.mono _)
      | (with_reducible exact LeO.refl _)
      | (with_reducible exact LeO.none _)
      | (with_reducible refine LeO.ite ?_ ?_)
      | (with_reducible refine LeO.bind ?_ (fun _ => ?_))
      | exact ih0 _ _ _ _ _ _ _
      | exact ih1 _ _ _ _ _ _ _ _
      | exact ih2 _ _ _ _ _ _ _ _ _
      | exact remontoirkeep_Ints.mono _ _ _
      | exact remontoirkeep_Orders.mono _ _ _
      | exact remontoirlaw27_wakes.mono _
      | exact LeO.none _
      | refine LeO.ite ?_ ?_
      | refine LeO.bind ?_ (fun _ => ?_)
    · intro y0 y1 y2 y3 y4 y5 y6 y7
      unfold remontoirlaw27_OrdersLeft.l1
      repeat' first
      | (with_reducible exact ih0 _ _ _ _ _ _ _)
      | (with_reducible exact ih1 _ _ _ _ _ _ _ _)
      | (with_reducible exact ih2 _ _ _ _ _ _ _ _ _)
      | (with_reducible exact remontoirkeep_Ints.mono _ _ _)
      | (with_reducible exact remontoirkeep_Orders.mono _ _ _)
      | (with_reducible exact remontoirlaw27_wakes.mono _)
      | (with_reducible exact LeO.refl _)
      | (with_reducible exact LeO.none _)
      | (with_reducible refine LeO.ite ?_ ?_)
      | (with_reducible refine LeO.bind ?_ (fun _ => ?_))
      | exact ih0 _ _ _ _ _ _ _
      | exact ih1 _ _ _ _ _ _ _ _
      | exact ih2 _ _ _ _ _ _ _ _ _
      | exact remontoirkeep_Ints.mono _ _ _
      | exact remontoirkeep_Orders.mono _ _ _
      | exact remontoirlaw27_wakes.mono _
      | exact LeO.none _
      | refine LeO.ite ?_ ?_
      | refine LeO.bind ?_ (fun _ => ?_)
    · intro y0 y1 y2 y3 y4 y5 y6 y7 y8
      unfold remontoirlaw27_OrdersLeft.l2
      repeat' first
      | (with_reducible exact ih0 _ _ _ _ _ _ _)
      | (with_reducible exact ih1 _ _ _ _ _ _ _ _)
      | (with_reducible exact ih2 _ _ _ _ _ _ _ _ _)
      | (with_reducible exact remontoirkeep_Ints.mono _ _ _)
      | (with_reducible exact remontoirkeep_Orders.mono _ _ _)
      | (with_reducible exact remontoirlaw27_wakes.mono _)
      | (with_reducible exact LeO.refl _)
      | (with_reducible exact LeO.none _)
      | (with_reducible refine LeO.ite ?_ ?_)
      | (with_reducible refine LeO.bind ?_ (fun _ => ?_))
      | exact ih0 _ _ _ _ _ _ _
      | exact ih1 _ _ _ _ _ _ _ _
      | exact ih2 _ _ _ _ _ _ _ _ _
      | exact remontoirkeep_Ints.mono _ _ _
      | exact remontoirkeep_Orders.mono _ _ _
      | exact remontoirlaw27_wakes.mono _
      | exact LeO.none _
      | refine LeO.ite ?_ ?_
      | refine LeO.bind ?_ (fun _ => ?_)
theorem remontoirlaw27_OrdersLeft.mono : ∀ a0 a1 k, LeO (remontoirlaw27_OrdersLeft.f k a0 a1) (remontoirlaw27_OrdersLeft.f (k + 1) a0 a1) := by
  intro a0 a1 k
  obtain ⟨ih0, ih1, ih2⟩ := remontoirlaw27_OrdersLeft.mono_l k
  unfold remontoirlaw27_OrdersLeft.f
  repeat' first
      | (with_reducible exact ih0 _ _ _ _ _ _ _)
      | (with_reducible exact ih1 _ _ _ _ _ _ _ _)
      | (with_reducible exact ih2 _ _ _ _ _ _ _ _ _)
      | (with_reducible exact remontoirkeep_Ints.mono _ _ _)
      | (with_reducible exact remontoirkeep_Orders.mono _ _ _)
      | (with_reducible exact remontoirlaw27_wakes.mono _)
      | (with_reducible exact LeO.refl _)
      | (with_reducible exact LeO.none _)
      | (with_reducible refine LeO.ite ?_ ?_)
      | (with_reducible refine LeO.bind ?_ (fun _ => ?_))
      | exact ih0 _ _ _ _ _ _ _
      | exact ih1 _ _ _ _ _ _ _ _
      | exact ih2 _ _ _ _ _ _ _ _ _
      | exact remontoirkeep_Ints.mono _ _ _
      | exact remontoirkeep_Orders.mono _ _ _
      | exact remontoirlaw27_wakes.mono _
      | exact LeO.none _
      | refine LeO.ite ?_ ?_
      | refine LeO.bind ?_ (fun _ => ?_)
set_option maxHeartbeats 8000000 in
set_option maxRecDepth 100000 in
theorem remontoirlaw27_OrdersLeft.calls (k : Nat) (A0 : Option Addr) (c0 : Nat) (l0 : List (S35)) (a1 : Int) (r : Bool) (w : World) (hr0 : Kd.C k35 w A0 l0.length l0) (hc0 : l0.length ≤ c0) (h : remontoirlaw27_OrdersLeft.f k l0 a1 = some r) :
    Calls Tryd.prog 4 #[.slice A0 l0.length c0, .int .i64 a1] w fun e w' => e = .returned (.bool r) ∧ Below w.heap.size w w' := by
  have hu35 := Tryd.underlying35
  have HR0 := Aside0.mk hr0
  have HC0 := Aside0.mk hc0
  clear hr0 hc0
  have HB := Aside0.mk (Below.refl w.heap.size w)
  have H : (if (l0.length : Int) > 60 then ((remontoirlaw27_wakes.f k).bind fun t192 => (some t192)) else ((some (([] : List (S35)) : List (S35))).bind fun y193 => (if y193.length + l0.length < 3518437208883 then ((some (y193 ++ l0 : List (S35))).bind fun y196 => (if y196.length < 3518437208883 then ((some (y196 ++ [(⟨3, a1, 0, 0, 0⟩ : S35)] : List (S35))).bind fun y199 => ((orders_Jobs.f l0).bind fun t202 => ((orders_Jobs.f y199).bind fun t205 => (remontoirlaw27_OrdersLeft.l0 k l0 a1 y199 t202 t205 ([] : List Int) 0)))) else (none))) else (none)))) = some r := h
  clear h
  by_cases c3 : (l0.length : Int) > 60
  · rw [if_pos c3] at H
    have c3b0 : decide (60 < (l0.length : Int)) = true := decide_eq_true c3
    have c3b1 : decide (60 < l0.length) = true := decide_eq_true (by omega)
    clear c3
    replace H := Option.bind_eq_some_iff.mp H
    obtain ⟨t192, A40, H⟩ := H
    replace H : (some t192) = some r := H
    have A4 := Aside0.mk A40
    clear A40
    obtain rfl := Option.some.inj H
    go_enter Tryd.func4, Tryd.ntmps4
    go_wp2_with (first | ((with_reducible refine gate_callee (f := 7) rfl ?_); refine goesL_ (some 22) rfl rfl Tryd.func7 (by kernel_rfl) rfl #[] rfl (by (try simp only [List.map_toArray, List.map_cons, List.map_nil]); first | done | rfl | (simp only [List.length_drop, List.length_take]; rfl)) ?_; (with_reducible refine (remontoirlaw27_wakes.calls k  t192 _ A4.out).mono ?_); rintro e w5 ⟨rfl, hb⟩; refine ⟨_, rfl, ?_⟩; have n0_ := Aside0.mk (below_step (by repeat (first | (with_reducible first | exact HB.out | apply below_alloc | apply pw_below_drewN | apply below_drew1) | exact HB.out)) hb); clear HB; have HB := n0_; clear n0_; (try clear hb); (try clear hb2); (try clear hk); (try clear hi)))
    go_ret
    exact ⟨by first | rfl | (simp [errW_none, errW_some] <;> rfl) | (simp [*, errW_none, errW_some] <;> rfl), by repeat (first | (with_reducible first | exact HB.out | apply below_alloc | apply pw_below_drewN | apply below_drew1) | exact HB.out)⟩
  · rw [if_neg c3] at H
    have c3b0 : decide (60 < (l0.length : Int)) = false := decide_eq_false c3
    have c3b1 : decide (60 < l0.length) = false := decide_eq_false (by omega)
    clear c3
    obtain ⟨y193, hy193⟩ : ∃ y_ : List (S35), y_ = (([] : List (S35))) := ⟨_, rfl⟩
    replace H : (if y193.length + l0.length < 3518437208883 then ((some (y193 ++ l0 : List (S35))).bind fun y196 => (if y196.length < 3518437208883 then ((some (y196 ++ [(⟨3, a1, 0, 0, 0⟩ : S35)] : List (S35))).bind fun y199 => ((orders_Jobs.f l0).bind fun t202 => ((orders_Jobs.f y199).bind fun t205 => (remontoirlaw27_OrdersLeft.l0 k l0 a1 y199 t202 t205 ([] : List Int) 0)))) else (none))) else (none)) = some r := by first | (rw [hy193]; with_reducible exact H) | (have H2_ := (Option.bind_some _ _).symm.trans H; rw [hy193]; with_reducible exact H2_) | (have H2_ := (Option.bind_some _ _).symm.trans H; with_reducible exact H2_) | with_reducible exact H | (rw [hy193]; exact H) | exact H
    have Ny193 := Aside0.mk hy193
    clear hy193
    by_cases c6 : y193.length + l0.length < 3518437208883
    · rw [if_pos c6] at H
      have LMc6 := Aside0.mk c6
      clear c6
      obtain ⟨y196, hy196⟩ : ∃ y_ : List (S35), y_ = (y193 ++ l0) := ⟨_, rfl⟩
      replace H : (if y196.length < 3518437208883 then ((some (y196 ++ [(⟨3, a1, 0, 0, 0⟩ : S35)] : List (S35))).bind fun y199 => ((orders_Jobs.f l0).bind fun t202 => ((orders_Jobs.f y199).bind fun t205 => (remontoirlaw27_OrdersLeft.l0 k l0 a1 y199 t202 t205 ([] : List Int) 0)))) else (none)) = some r := by first | (rw [hy196]; with_reducible exact H) | (have H2_ := (Option.bind_some _ _).symm.trans H; rw [hy196]; with_reducible exact H2_) | (have H2_ := (Option.bind_some _ _).symm.trans H; with_reducible exact H2_) | with_reducible exact H | (rw [hy196]; exact H) | exact H
      have Ny196 := Aside0.mk hy196
      clear hy196
      by_cases c7 : y196.length < 3518437208883
      · rw [if_pos c7] at H
        have LMc7 := Aside0.mk c7
        clear c7
        obtain ⟨y199, hy199⟩ : ∃ y_ : List (S35), y_ = (y196 ++ [(⟨3, a1, 0, 0, 0⟩ : S35)]) := ⟨_, rfl⟩
        replace H : ((orders_Jobs.f l0).bind fun t202 => ((orders_Jobs.f y199).bind fun t205 => (remontoirlaw27_OrdersLeft.l0 k l0 a1 y199 t202 t205 ([] : List Int) 0))) = some r := by first | (rw [hy199]; with_reducible exact H) | (have H2_ := (Option.bind_some _ _).symm.trans H; rw [hy199]; with_reducible exact H2_) | (have H2_ := (Option.bind_some _ _).symm.trans H; with_reducible exact H2_) | with_reducible exact H | (rw [hy199]; exact H) | exact H
        have Ny199 := Aside0.mk hy199
        clear hy199
        replace H := Option.bind_eq_some_iff.mp H
        obtain ⟨t202, A80, H⟩ := H
        replace H : ((orders_Jobs.f y199).bind fun t205 => (remontoirlaw27_OrdersLeft.l0 k l0 a1 y199 t202 t205 ([] : List Int) 0)) = some r := H
        have A8 := Aside0.mk A80
        clear A80
        replace H := Option.bind_eq_some_iff.mp H
        obtain ⟨t205, A90, H⟩ := H
        replace H : (remontoirlaw27_OrdersLeft.l0 k l0 a1 y199 t202 t205 ([] : List Int) 0) = some r := H
        have A9 := Aside0.mk A90
        clear A90
        have H' := Aside0.mk H
        clear H
        go_enter Tryd.func4, Tryd.ntmps4
        go_wp2_with (first | ((with_reducible refine gate_dst (N := 23) rfl ?_); (try (refine gate_guard (by rfl) ?_; dsimp only)); refine Kd.R_lit k35 _ 35 ?hg (N := 23) ?hd (xs := ([] : List (S35))) (inner := []) (ok := fun _ => True) (okp := fun _ => True) ?hr ?hp (fun _ hk => hk) trivial (Below.refl _ _) (Nat.le_refl _) (by simp) ?_; (case hd => rfl); (case hg => rfl); (case hr => first | (go_simp; done) | (go_simp; rfl)); (case hp => exact (Reps.none _ _)); intro v194 w10 ho11 hb hg_ hnew_; clear hg_ hnew_; (first | rw [← Ny193.out] at ho11 | (simp only [Int.reduceToNat] at ho11; rw [← Ny193.out] at ho11)); have n0_ := Aside0.mk (Kd.R_lower ho11 (below_size (by repeat (first | (with_reducible first | exact HB.out | apply below_alloc | apply pw_below_drewN | apply below_drew1) | exact HB.out)))); have n1_ := Aside0.mk (below_step (by repeat (first | (with_reducible first | exact HB.out | apply below_alloc | apply pw_below_drewN | apply below_drew1) | exact HB.out)) hb); clear HB; have HO195 := n0_; have HB := n1_; clear n0_ n1_; clear hb ho11) | ((with_reducible refine gate_builtin (b := .append) (xs := #[.tmp 23, .tmp 24]) rfl ?_); (try (refine gate_guard (by rfl) ?_; dsimp only)); at_builtin; refine Kd.R_append_rows k35 (w0 := w) w.heap.size rfl (.tmp 23) (.tmp 24) 29 35 (.agg #[(.int .i64 0), (.int .i64 0), (.int .i64 0), (.int .i64 0), (.int .u64 0)]) 40 rfl Tryd.underlying29 info35 rfl (by decide) (by omega) v194 y193 l0 _ _ _ (fun _ => True) (fun _ => False) rfl rfl ?aO ?aR (fun _ _ h => h) (fun _ h => h.elim) ?aF ?aB ?aS ?aL ?_; (case aR => repeat (first | exact (Kd.C_below HR0.out HB.out) | (with_reducible refine Kd.C_alloc ?_ _) | (with_reducible refine Kd.C_drewN ?_ _) | (with_reducible refine Kd.C_drew ?_))); (case aB => exact (by repeat (first | (with_reducible first | exact HB.out | apply below_alloc | apply pw_below_drewN | apply below_drew1) | exact HB.out))); (case aF => exact (fun _ _ => trivial)); (case aO => exact (by (with_reducible repeat (first | apply Kd.R_alloc | apply Kd.R_drewN | apply Kd.R_drew)); exact HO195.out)); (case aS => exact (below_size (by repeat (first | (with_reducible first | exact HB.out | apply below_alloc | apply pw_below_drewN | apply below_drew1) | exact HB.out)))); (case aL => have := LMc6.out; omega); intro v197 w12 ho hb hg hat; rw [← Ny196.out] at ho; have n0_ := Aside0.mk (hb); have n1_ := Aside0.mk (ho); clear HB; clear HO195; have HB := n0_; have HO198 := n1_; clear n0_ n1_; clear ho hb hg hat) | ((with_reducible refine gate_builtin (b := .append) (xs := #[.tmp 25, .tmp 28]) rfl ?_); (try (refine gate_guard (by rfl) ?_; dsimp only)); at_builtin; refine Kd.R_append k35 (w0 := w) w.heap.size rfl (.tmp 25) (.tmp 28) 29 35 (.agg #[(.int .i64 0), (.int .i64 0), (.int .i64 0), (.int .i64 0), (.int .u64 0)]) 40 rfl Tryd.underlying29 info35 rfl (by decide) (by omega) v197 y196 (⟨3, a1, 0, 0, 0⟩ : S35) [.int .i64 3, .int .i64 a1, .int .i64 0, .int .i64 0, .int .u64 0] (fun _ => True) (fun _ => False) rfl rfl ?aP (fun _ hk => hk.elim) ?aF ?aO ?aB ?aS ?aL ?_; (case aP => exact k35_mkM _ _ _ (⟨3, a1, 0, 0, 0⟩ : S35)); (case aB => exact (by repeat (first | (with_reducible first | exact HB.out | apply below_alloc | apply pw_below_drewN | apply below_drew1) | exact HB.out))); (case aF => exact (fun _ _ => trivial)); (case aO => exact (by (with_reducible repeat (first | apply Kd.R_alloc | apply Kd.R_drewN | apply Kd.R_drew)); exact HO198.out)); (case aS => exact (below_size (by repeat (first | (with_reducible first | exact HB.out | apply below_alloc | apply pw_below_drewN | apply below_drew1) | exact HB.out)))); (case aL => have := LMc7.out; omega); intro v200 w13 ho hb hg hat; rw [← Ny199.out] at ho; have n0_ := Aside0.mk (hb); have n1_ := Aside0.mk (ho); clear HB; clear HO198; have HB := n0_; have HO201 := n1_; clear n0_ n1_; clear ho hb hg hat) | ((with_reducible refine gate_callee (f := 10) rfl ?_); refine goesL_ (some 31) rfl rfl Tryd.func10 (by kernel_rfl) rfl #[.slice A0 l0.length c0] rfl (by (try simp only [List.map_toArray, List.map_cons, List.map_nil]); first | done | rfl | (simp only [List.length_drop, List.length_take]; rfl)) ?_; (with_reducible refine (orders_Jobs.calls _ _ l0 t202 _ ?side1 ?side2 A8.out).mono ?_); (case side1 => repeat (first | exact (Kd.C_below HR0.out HB.out) | (with_reducible refine Kd.C_alloc ?_ _) | (with_reducible refine Kd.C_drewN ?_ _) | (with_reducible refine Kd.C_drew ?_))); (case side2 => exact HC0.out); rintro e w14 ⟨v203, rfl, ho0, hb⟩; refine ⟨_, rfl, ?_⟩; have n0_ := Aside0.mk (Kd.R_below (by (with_reducible repeat (first | apply Kd.R_alloc | apply Kd.R_drewN | apply Kd.R_drew)); exact HO201.out) hb); have n1_ := Aside0.mk (Kd.R_lower ho0 (below_size (by repeat (first | (with_reducible first | exact HB.out | apply below_alloc | apply pw_below_drewN | apply below_drew1) | exact HB.out)))); have n2_ := Aside0.mk (below_step (by repeat (first | (with_reducible first | exact HB.out | apply below_alloc | apply pw_below_drewN | apply below_drew1) | exact HB.out)) hb); clear HO201; clear HB; have HO201 := n0_; have HO204 := n1_; have HB := n2_; clear n0_ n1_ n2_; (try clear hb); (try clear hb2); (try clear hk); (try clear hi); (try clear ho0); obtain ⟨Ao15, co15, eo15⟩ := Kd.R_slice HO201.out; subst eo15) | ((with_reducible refine gate_callee (f := 10) rfl ?_); refine goesL_ (some 33) rfl rfl Tryd.func10 (by kernel_rfl) rfl #[.slice Ao15 y199.length co15] rfl (by (try simp only [List.map_toArray, List.map_cons, List.map_nil]); first | done | rfl | (simp only [List.length_drop, List.length_take]; rfl)) ?_; (with_reducible refine (orders_Jobs.calls _ _ y199 t205 _ ?side1 ?side2 A9.out).mono ?_); (case side1 => repeat (first | exact (Kd.R_reads' HO201.out).2.2 | (with_reducible refine Kd.C_alloc ?_ _) | (with_reducible refine Kd.C_drewN ?_ _) | (with_reducible refine Kd.C_drew ?_))); (case side2 => exact (Kd.R_reads' HO201.out).2.1); rintro e w16 ⟨v206, rfl, ho0, hb⟩; refine ⟨_, rfl, ?_⟩; have n0_ := Aside0.mk (Kd.R_below (by (with_reducible repeat (first | apply Kd.R_alloc | apply Kd.R_drewN | apply Kd.R_drew)); exact HO201.out) hb); have n1_ := Aside0.mk (Kd.R_elder' (by (with_reducible repeat (first | apply Kd.R_alloc | apply Kd.R_drewN | apply Kd.R_drew)); exact HO204.out) (Kd.R_base ho0) hb); have n2_ := Aside0.mk (Kd.R_lower (Kd.R_new' ho0 (Kd.R_lt (by (with_reducible repeat (first | apply Kd.R_alloc | apply Kd.R_drewN | apply Kd.R_drew)); exact HO204.out))) (below_size (by repeat (first | (with_reducible first | exact HB.out | apply below_alloc | apply pw_below_drewN | apply below_drew1) | exact HB.out)))); have n3_ := Aside0.mk (below_step (by repeat (first | (with_reducible first | exact HB.out | apply below_alloc | apply pw_below_drewN | apply below_drew1) | exact HB.out)) hb); clear HO201; clear HO204; clear HB; have HO201 := n0_; have HO204 := n1_; have HO207 := n2_; have HB := n3_; clear n0_ n1_ n2_ n3_; (try clear hb); (try clear hb2); (try clear hk); (try clear hi); (try clear ho0)))
        go_loopg [8, 9] k (fun kq v8 v9 w' => ∃ (x8_1 : List Int) (x9_1 : Int), v9 = .int .i64 x9_1 ∧ Aside0 (remontoirlaw27_OrdersLeft.l0 kq l0 a1 y199 t202 t205 x8_1 x9_1 = some r) ∧ Aside0 (kq ≤ k) ∧ Aside0 (Kd.R k35 35 w' w.heap.size (fun _ => True) (.slice Ao15 y199.length co15) y199) ∧ Aside0 (Kd.R (Kd.int .i64) 3 w' w.heap.size (fun k_ => some k_ ≠ (v206 : Value).ownBlock ∧ some k_ ≠ (v8 : Value).ownBlock) v203 t202) ∧ Aside0 (Kd.R (Kd.int .i64) 3 w' w.heap.size (fun k_ => some k_ ≠ (v203 : Value).ownBlock ∧ some k_ ≠ (v8 : Value).ownBlock) v206 t205) ∧ Aside0 (Kd.R (Kd.int .i64) 3 w' w.heap.size (fun k_ => some k_ ≠ (v203 : Value).ownBlock ∧ some k_ ≠ (v206 : Value).ownBlock) v8 x8_1) ∧ Aside0 (Below w.heap.size w w'))
        case atStart => exact ⟨(([] : List Int)), (0), (by first | rfl | (simp; done) | (simp [*]; done)), H', ⟨Nat.le_refl _⟩, ⟨by (with_reducible repeat (first | apply Kd.R_alloc | apply Kd.R_drewN | apply Kd.R_drew)); exact HO201.out⟩, ⟨by (with_reducible repeat (first | apply Kd.R_alloc | apply Kd.R_drewN | apply Kd.R_drew)); exact Kd.R_mono HO204.out (fun _ hk => ⟨hk.2, (by simp [Value.ownBlock])⟩)⟩, ⟨by (with_reducible repeat (first | apply Kd.R_alloc | apply Kd.R_drewN | apply Kd.R_drew)); exact Kd.R_mono HO207.out (fun _ hk => ⟨hk.2, (by simp [Value.ownBlock])⟩)⟩, ⟨by first | exact Kd.R_nil _ _ _ _ _ | exact Kd.N_nil _ _ _ _ _ | exact Kd.V_nil _ _ _ _ _ | exact Kd.Q_nil _ _ _ _ _ | exact Kd.S_nil _ _ _ _ _⟩, ⟨by repeat (first | (with_reducible first | exact HB.out | apply below_alloc | apply pw_below_drewN | apply below_drew1) | exact HB.out)⟩⟩
        case round =>
          clear H'
          try clear c1
          try clear p2
          try clear c3
          try clear c3b0
          try clear c3b1
          try clear c4
          try clear c6
          try clear c7
          try clear c10
          obtain ⟨x8_1, x9_1, rfl, HA, HK1, HO_5, HO_6, HO_7, HO_8, HB⟩ := hrel
          cases gk with
          | zero => exact absurd HA.out (by simp [remontoirlaw27_OrdersLeft.l0])
          | succ k1 =>
            have H := HA.out
            clear HA
            simp only [remontoirlaw27_OrdersLeft.l0] at H
            by_cases c17 : x9_1 < (t202.length : Int)
            · rw [if_pos c17] at H
              have c17b0 : decide (x9_1 < (t202.length : Int)) = true := decide_eq_true c17
              clear c17
              by_cases c18 : 0 ≤ x9_1
              · rw [if_pos c18] at H
                have c18b0 : decide (0 ≤ x9_1) = true := decide_eq_true c18
                clear c18
                by_cases c19 : (rd t202 x9_1) = a1
                · rw [if_pos c19] at H
                  have c19b0 : ((rd t202 x9_1) == a1) = true := beq_iff_eq.mpr c19
                  have c19b1 : ((rd t202 x9_1) != a1) = false := bne_eq_false_iff_eq.mpr c19
                  clear c19
                  have H' := Aside0.mk H
                  clear H
                  obtain ⟨Ao20, co20, eo20⟩ := Kd.R_slice HO_6.out
                  subst eo20
                  have p208 : 0 ≤ (x9_1 : Int) := of_decide_eq_true (by first | (with_reducible assumption) | assumption)
                  have q208 : x9_1 < (t202.length : Int) := of_decide_eq_true (by first | (with_reducible assumption) | assumption)
                  obtain ⟨ad208, e208, hx208_0⟩ := Kd.at_int (Kd.R_reads' HO_6.out).2.2 x9_1 p208 q208
                  cases e208
                  replace p208 := eq_true p208
                  replace q208 := eq_true q208
                  go_wp2
                  go_roundg k1
                  case measure => have := HK1.out; omega
                  case rel => exact ⟨(x8_1), (wrap64 (x9_1 + 1)), (by first | rfl | (simp; done) | (simp [*]; done)), H', ⟨by have := HK1.out; omega⟩, ⟨by (with_reducible repeat (first | apply Kd.R_alloc | apply Kd.R_drewN | apply Kd.R_drew)); exact HO_5.out⟩, ⟨by (with_reducible repeat (first | apply Kd.R_alloc | apply Kd.R_drewN | apply Kd.R_drew)); exact HO_6.out⟩, ⟨by (with_reducible repeat (first | apply Kd.R_alloc | apply Kd.R_drewN | apply Kd.R_drew)); exact HO_7.out⟩, ⟨by (with_reducible repeat (first | apply Kd.R_alloc | apply Kd.R_drewN | apply Kd.R_drew)); exact HO_8.out⟩, ⟨by repeat (first | (with_reducible first | exact HB.out | apply below_alloc | apply pw_below_drewN | apply below_drew1) | exact HB.out)⟩⟩
                · rw [if_neg c19] at H
                  have c19b0 : ((rd t202 x9_1) == a1) = false := beq_eq_false_iff_ne.mpr c19
                  have c19b1 : ((rd t202 x9_1) != a1) = true := bne_iff_ne.mpr c19
                  by_cases c21 : x8_1.length < 17592186044416
                  · rw [if_pos c21] at H
                    have LMc21 := Aside0.mk c21
                    clear c21
                    obtain ⟨y210, hy210⟩ : ∃ y_ : List Int, y_ = (x8_1 ++ [rd t202 x9_1]) := ⟨_, rfl⟩
                    replace H : (remontoirlaw27_OrdersLeft.l0 k1 l0 a1 y199 t202 t205 y210 (wrap64 (x9_1 + 1))) = some r := by first | (rw [hy210]; with_reducible exact H) | (have H2_ := (Option.bind_some _ _).symm.trans H; rw [hy210]; with_reducible exact H2_) | (have H2_ := (Option.bind_some _ _).symm.trans H; with_reducible exact H2_) | with_reducible exact H | (rw [hy210]; exact H) | exact H
                    have Ny210 := Aside0.mk hy210
                    clear hy210
                    have H' := Aside0.mk H
                    clear H
                    obtain ⟨Ao22, co22, eo22⟩ := Kd.R_slice HO_6.out
                    subst eo22
                    have p208 : 0 ≤ (x9_1 : Int) := of_decide_eq_true (by first | (with_reducible assumption) | assumption)
                    have q208 : x9_1 < (t202.length : Int) := of_decide_eq_true (by first | (with_reducible assumption) | assumption)
                    obtain ⟨ad208, e208, hx208_0⟩ := Kd.at_int (Kd.R_reads' HO_6.out).2.2 x9_1 p208 q208
                    cases e208
                    replace p208 := eq_true p208
                    replace q208 := eq_true q208
                    have p209 : 0 ≤ (x9_1 : Int) := of_decide_eq_true (by first | (with_reducible assumption) | assumption)
                    have q209 : x9_1 < (t202.length : Int) := of_decide_eq_true (by first | (with_reducible assumption) | assumption)
                    obtain ⟨ad209, e209, hx209_0⟩ := Kd.at_int (Kd.R_reads' HO_6.out).2.2 x9_1 p209 q209
                    obtain rfl : ad208 = ad209 := (by injection e209)
                    replace p209 := eq_true p209
                    replace q209 := eq_true q209
                    go_wp2_with (first | ((with_reducible refine gate_builtin (b := .append) (xs := #[.tmp 46, .tmp 51]) rfl ?_); (try (refine gate_guard (by rfl) ?_; dsimp only)); at_builtin; refine Kd.R_append (Kd.int .i64) (w0 := w) w.heap.size rfl (.tmp 46) (.tmp 51) 38 3 (.int .i64 0) 8 rfl Tryd.underlying38 info3 rfl (by decide) (by omega) u8 x8_1 (rd t202 x9_1) [.int .i64 (rd t202 x9_1)] (fun k_ => some k_ ≠ (.slice (some ad208) t202.length co22 : Value).ownBlock ∧ some k_ ≠ (v206 : Value).ownBlock) (fun _ => False) rfl rfl ?aP (fun _ hk => hk.elim) ?aF ?aO ?aB ?aS ?aL ?_; (case aP => exact rfl); (case aB => exact (by repeat (first | (with_reducible first | exact HB.out | apply below_alloc | apply pw_below_drewN | apply below_drew1) | exact HB.out))); (case aF => exact (fun k_ hk => ⟨Kd.fresh' (Kd.R_lt (by (with_reducible repeat (first | apply Kd.R_alloc | apply Kd.R_drewN | apply Kd.R_drew)); exact HO_6.out)) k_ hk, Kd.fresh' (Kd.R_lt (by (with_reducible repeat (first | apply Kd.R_alloc | apply Kd.R_drewN | apply Kd.R_drew)); exact HO_7.out)) k_ hk⟩)); (case aO => exact (by (with_reducible repeat (first | apply Kd.R_alloc | apply Kd.R_drewN | apply Kd.R_drew)); exact HO_8.out)); (case aS => exact (below_size (by repeat (first | (with_reducible first | exact HB.out | apply below_alloc | apply pw_below_drewN | apply below_drew1) | exact HB.out)))); (case aL => have := LMc21.out; omega); intro v211 w23 ho hb hg hat; rw [← Ny210.out] at ho; have n0_ := Aside0.mk (Kd.R_over' (by (with_reducible repeat (first | apply Kd.R_alloc | apply Kd.R_drewN | apply Kd.R_drew)); exact HO_5.out) (Kd.R_typed (by (with_reducible repeat (first | apply Kd.R_alloc | apply Kd.R_drewN | apply Kd.R_drew)); exact HO_8.out)) (by decide) hg); have n1_ := Aside0.mk (Kd.R_after (ok := (fun k_ => some k_ ≠ (v206 : Value).ownBlock)) (by (with_reducible repeat (first | apply Kd.R_alloc | apply Kd.R_drewN | apply Kd.R_drew)); exact HO_6.out) hg hat); have n2_ := Aside0.mk (Kd.R_after (ok := (fun k_ => some k_ ≠ (.slice (some ad208) t202.length co22 : Value).ownBlock)) (by (with_reducible repeat (first | apply Kd.R_alloc | apply Kd.R_drewN | apply Kd.R_drew)); exact HO_7.out) hg hat); have n3_ := Aside0.mk (hb); have n4_ := Aside0.mk (ho); clear HO_5; clear HO_6; clear HO_7; clear HB; clear HO_8; have HO_5 := n0_; have HO_6 := n1_; have HO_7 := n2_; have HB := n3_; have HO212 := n4_; clear n0_ n1_ n2_ n3_ n4_; clear ho hb hg hat))
                    go_roundg k1
                    case measure => have := HK1.out; omega
                    case rel => exact ⟨(y210), (wrap64 (x9_1 + 1)), (by first | rfl | (simp; done) | (simp [*]; done)), H', ⟨by have := HK1.out; omega⟩, ⟨by (with_reducible repeat (first | apply Kd.R_alloc | apply Kd.R_drewN | apply Kd.R_drew)); exact HO_5.out⟩, ⟨by (with_reducible repeat (first | apply Kd.R_alloc | apply Kd.R_drewN | apply Kd.R_drew)); exact HO_6.out⟩, ⟨by (with_reducible repeat (first | apply Kd.R_alloc | apply Kd.R_drewN | apply Kd.R_drew)); exact HO_7.out⟩, ⟨by (with_reducible repeat (first | apply Kd.R_alloc | apply Kd.R_drewN | apply Kd.R_drew)); exact HO212.out⟩, ⟨by repeat (first | (with_reducible first | exact HB.out | apply below_alloc | apply pw_below_drewN | apply below_drew1) | exact HB.out)⟩⟩
                  · rw [if_neg c21] at H
                    exact absurd H (by simp)
              · rw [if_neg c18] at H
                exact absurd H (by simp)
            · rw [if_neg c17] at H
              have c17b0 : decide (x9_1 < (t202.length : Int)) = false := decide_eq_false c17
              clear c17
              replace H := Option.bind_eq_some_iff.mp H
              obtain ⟨t213, A240, H⟩ := H
              replace H : ((orders_Timers.f y199).bind fun t216 => (remontoirlaw27_OrdersLeft.l1 k1 a1 y199 t205 x8_1 t213 t216 ([] : List (S35)) 0)) = some r := H
              have A24 := Aside0.mk A240
              clear A240
              replace H := Option.bind_eq_some_iff.mp H
              obtain ⟨t216, A250, H⟩ := H
              replace H : (remontoirlaw27_OrdersLeft.l1 k1 a1 y199 t205 x8_1 t213 t216 ([] : List (S35)) 0) = some r := H
              have A25 := Aside0.mk A250
              clear A250
              have H' := Aside0.mk H
              clear H
              obtain ⟨Ao26, co26, eo26⟩ := Kd.R_slice HO_6.out
              subst eo26
              go_wp2_with (first | ((with_reducible refine gate_callee (f := 11) rfl ?_); refine goesL_ (some 54) rfl rfl Tryd.func11 (by kernel_rfl) rfl #[.slice A0 l0.length c0] rfl (by (try simp only [List.map_toArray, List.map_cons, List.map_nil]); first | done | rfl | (simp only [List.length_drop, List.length_take]; rfl)) ?_; (with_reducible refine (orders_Timers.calls _ _ l0 t213 _ ?side1 ?side2 A24.out).mono ?_); (case side1 => repeat (first | exact (Kd.C_below HR0.out HB.out) | (with_reducible refine Kd.C_alloc ?_ _) | (with_reducible refine Kd.C_drewN ?_ _) | (with_reducible refine Kd.C_drew ?_))); (case side2 => exact HC0.out); rintro e w27 ⟨v214, rfl, ho0, hb⟩; refine ⟨_, rfl, ?_⟩; have n0_ := Aside0.mk (Kd.R_elder' (by (with_reducible repeat (first | apply Kd.R_alloc | apply Kd.R_drewN | apply Kd.R_drew)); exact HO_5.out) (Kd.R_base ho0) hb); have n1_ := Aside0.mk (Kd.R_below (by (with_reducible repeat (first | apply Kd.R_alloc | apply Kd.R_drewN | apply Kd.R_drew)); exact HO_6.out) hb); have n2_ := Aside0.mk (Kd.R_below (by (with_reducible repeat (first | apply Kd.R_alloc | apply Kd.R_drewN | apply Kd.R_drew)); exact HO_7.out) hb); have n3_ := Aside0.mk (Kd.R_below (by (with_reducible repeat (first | apply Kd.R_alloc | apply Kd.R_drewN | apply Kd.R_drew)); exact HO_8.out) hb); have n4_ := Aside0.mk (Kd.R_lower (Kd.R_new' ho0 (Kd.R_lt (by (with_reducible repeat (first | apply Kd.R_alloc | apply Kd.R_drewN | apply Kd.R_drew)); exact HO_5.out))) (below_size (by repeat (first | (with_reducible first | exact HB.out | apply below_alloc | apply pw_below_drewN | apply below_drew1) | exact HB.out)))); have n5_ := Aside0.mk (below_step (by repeat (first | (with_reducible first | exact HB.out | apply below_alloc | apply pw_below_drewN | apply below_drew1) | exact HB.out)) hb); clear HO_5; clear HO_6; clear HO_7; clear HO_8; clear HB; have HO_5 := n0_; have HO_6 := n1_; have HO_7 := n2_; have HO_8 := n3_; have HO215 := n4_; have HB := n5_; clear n0_ n1_ n2_ n3_ n4_ n5_; (try clear hb); (try clear hb2); (try clear hk); (try clear hi); (try clear ho0)) | ((with_reducible refine gate_callee (f := 11) rfl ?_); refine goesL_ (some 56) rfl rfl Tryd.func11 (by kernel_rfl) rfl #[.slice Ao15 y199.length co15] rfl (by (try simp only [List.map_toArray, List.map_cons, List.map_nil]); first | done | rfl | (simp only [List.length_drop, List.length_take]; rfl)) ?_; (with_reducible refine (orders_Timers.calls _ _ y199 t216 _ ?side1 ?side2 A25.out).mono ?_); (case side1 => repeat (first | exact (Kd.R_reads' HO_5.out).2.2 | (with_reducible refine Kd.C_alloc ?_ _) | (with_reducible refine Kd.C_drewN ?_ _) | (with_reducible refine Kd.C_drew ?_))); (case side2 => exact (Kd.R_reads' HO_5.out).2.1); rintro e w28 ⟨v217, rfl, ho0, hb⟩; refine ⟨_, rfl, ?_⟩; have n0_ := Aside0.mk (Kd.R_elder' (by (with_reducible repeat (first | apply Kd.R_alloc | apply Kd.R_drewN | apply Kd.R_drew)); exact HO_5.out) (Kd.R_base ho0) hb); have n1_ := Aside0.mk (Kd.R_below (by (with_reducible repeat (first | apply Kd.R_alloc | apply Kd.R_drewN | apply Kd.R_drew)); exact HO_6.out) hb); have n2_ := Aside0.mk (Kd.R_below (by (with_reducible repeat (first | apply Kd.R_alloc | apply Kd.R_drewN | apply Kd.R_drew)); exact HO_7.out) hb); have n3_ := Aside0.mk (Kd.R_below (by (with_reducible repeat (first | apply Kd.R_alloc | apply Kd.R_drewN | apply Kd.R_drew)); exact HO_8.out) hb); have n4_ := Aside0.mk (Kd.R_elder' (by (with_reducible repeat (first | apply Kd.R_alloc | apply Kd.R_drewN | apply Kd.R_drew)); exact HO215.out) (Kd.R_base ho0) hb); have n5_ := Aside0.mk (Kd.R_lower (Kd.R_new' (Kd.R_new' ho0 (Kd.R_lt (by (with_reducible repeat (first | apply Kd.R_alloc | apply Kd.R_drewN | apply Kd.R_drew)); exact HO_5.out))) (Kd.R_lt (by (with_reducible repeat (first | apply Kd.R_alloc | apply Kd.R_drewN | apply Kd.R_drew)); exact HO215.out))) (below_size (by repeat (first | (with_reducible first | exact HB.out | apply below_alloc | apply pw_below_drewN | apply below_drew1) | exact HB.out)))); have n6_ := Aside0.mk (below_step (by repeat (first | (with_reducible first | exact HB.out | apply below_alloc | apply pw_below_drewN | apply below_drew1) | exact HB.out)) hb); clear HO_5; clear HO_6; clear HO_7; clear HO_8; clear HO215; clear HB; have HO_5 := n0_; have HO_6 := n1_; have HO_7 := n2_; have HO_8 := n3_; have HO215 := n4_; have HO218 := n5_; have HB := n6_; clear n0_ n1_ n2_ n3_ n4_ n5_ n6_; (try clear hb); (try clear hb2); (try clear hk); (try clear hi); (try clear ho0)))
              go_loopg [12, 13] k1 (fun kq v12 v13 w' => ∃ (x12_2 : List (S35)) (x13_2 : Int), v13 = .int .i64 x13_2 ∧ Aside0 (remontoirlaw27_OrdersLeft.l1 kq a1 y199 t205 x8_1 t213 t216 x12_2 x13_2 = some r) ∧ Aside0 (kq ≤ k1) ∧ Aside0 (Kd.R k35 35 w' w.heap.size (fun k_ => some k_ ≠ (v214 : Value).ownBlock ∧ some k_ ≠ (v217 : Value).ownBlock ∧ some k_ ≠ (v12 : Value).ownBlock) (.slice Ao15 y199.length co15) y199) ∧ Aside0 (Kd.R (Kd.int .i64) 3 w' w.heap.size (fun k_ => some k_ ≠ (u8 : Value).ownBlock) v206 t205) ∧ Aside0 (Kd.R (Kd.int .i64) 3 w' w.heap.size (fun k_ => some k_ ≠ (v206 : Value).ownBlock) u8 x8_1) ∧ Aside0 (Kd.R k35 35 w' w.heap.size (fun k_ => some k_ ≠ ((.slice Ao15 y199.length co15) : Value).ownBlock ∧ some k_ ≠ (v217 : Value).ownBlock ∧ some k_ ≠ (v12 : Value).ownBlock) v214 t213) ∧ Aside0 (Kd.R k35 35 w' w.heap.size (fun k_ => some k_ ≠ ((.slice Ao15 y199.length co15) : Value).ownBlock ∧ some k_ ≠ (v214 : Value).ownBlock ∧ some k_ ≠ (v12 : Value).ownBlock) v217 t216) ∧ Aside0 (Kd.R k35 35 w' w.heap.size (fun k_ => some k_ ≠ ((.slice Ao15 y199.length co15) : Value).ownBlock ∧ some k_ ≠ (v214 : Value).ownBlock ∧ some k_ ≠ (v217 : Value).ownBlock) v12 x12_2) ∧ Aside0 (Below w.heap.size w w'))
              case atStart => exact ⟨(([] : List (S35))), (0), (by first | rfl | (simp; done) | (simp [*]; done)), H', ⟨Nat.le_refl _⟩, ⟨by (with_reducible repeat (first | apply Kd.R_alloc | apply Kd.R_drewN | apply Kd.R_drew)); exact Kd.R_mono HO_5.out (fun _ hk => ⟨hk.1.2, ⟨hk.2, (by simp [Value.ownBlock])⟩⟩)⟩, ⟨by (with_reducible repeat (first | apply Kd.R_alloc | apply Kd.R_drewN | apply Kd.R_drew)); exact Kd.R_mono HO_7.out (fun _ hk => hk.2)⟩, ⟨by (with_reducible repeat (first | apply Kd.R_alloc | apply Kd.R_drewN | apply Kd.R_drew)); exact Kd.R_mono HO_8.out (fun _ hk => hk.2)⟩, ⟨by (with_reducible repeat (first | apply Kd.R_alloc | apply Kd.R_drewN | apply Kd.R_drew)); exact Kd.R_mono HO215.out (fun _ hk => ⟨hk.1.2, ⟨hk.2, (by simp [Value.ownBlock])⟩⟩)⟩, ⟨by (with_reducible repeat (first | apply Kd.R_alloc | apply Kd.R_drewN | apply Kd.R_drew)); exact Kd.R_mono HO218.out (fun _ hk => ⟨hk.1.2, ⟨hk.2, (by simp [Value.ownBlock])⟩⟩)⟩, ⟨by first | exact Kd.R_nil _ _ _ _ _ | exact Kd.N_nil _ _ _ _ _ | exact Kd.V_nil _ _ _ _ _ | exact Kd.Q_nil _ _ _ _ _ | exact Kd.S_nil _ _ _ _ _⟩, ⟨by repeat (first | (with_reducible first | exact HB.out | apply below_alloc | apply pw_below_drewN | apply below_drew1) | exact HB.out)⟩⟩
              case round =>
                clear H'
                try clear c1
                try clear c2
                try clear p2
                try clear q2
                try clear hx2
                try clear c3
                try clear c3b0
                try clear c3b1
                try clear c4
                try clear c6
                try clear p6
                try clear c7
                try clear c10
                try clear c11
                try clear c17
                try clear c17b0
                try clear c18
                try clear c18b0
                try clear c19
                try clear c19b0
                try clear c19b1
                try clear p20
                try clear q20
                try clear hx20
                try clear c21
                try clear hx208_0
                try clear hx209_0
                try clear p2
                try clear p208
                try clear p209
                try clear q208
                try clear q209
                obtain ⟨x12_2, x13_2, rfl, HA, HK2, HO_5, HO_7, HO_8, HO_10, HO_11, HO_12, HB⟩ := hrel
                cases gk with
                | zero => exact absurd HA.out (by simp [remontoirlaw27_OrdersLeft.l1])
                | succ k2 =>
                  have H := HA.out
                  clear HA
                  simp only [remontoirlaw27_OrdersLeft.l1] at H
                  by_cases c29 : x13_2 < (t213.length : Int)
                  · rw [if_pos c29] at H
                    have c29b0 : decide (x13_2 < (t213.length : Int)) = true := decide_eq_true c29
                    clear c29
                    by_cases c30 : 0 ≤ x13_2
                    · rw [if_pos c30] at H
                      have c30b0 : decide (0 ≤ x13_2) = true := decide_eq_true c30
                      clear c30
                      by_cases c31 : ((rd_T35 t213 x13_2).f1) = a1
                      · rw [if_pos c31] at H
                        have c31b0 : (((rd_T35 t213 x13_2).f1) == a1) = true := beq_iff_eq.mpr c31
                        have c31b1 : (((rd_T35 t213 x13_2).f1) != a1) = false := bne_eq_false_iff_eq.mpr c31
                        clear c31
                        have H' := Aside0.mk H
                        clear H
                        obtain ⟨Ao32, co32, eo32⟩ := Kd.R_slice HO_10.out
                        subst eo32
                        have p219 : 0 ≤ (x13_2 : Int) := of_decide_eq_true (by first | (with_reducible assumption) | assumption)
                        have q219 : x13_2 < (t213.length : Int) := of_decide_eq_true (by first | (with_reducible assumption) | assumption)
                        obtain ⟨ad219, e219, hx219_0, hx219_1, hx219_2, hx219_3, hx219_4⟩ := at_T35 (Kd.R_reads' HO_10.out).2.2 x13_2 p219 q219
                        cases e219
                        replace p219 := eq_true p219
                        replace q219 := eq_true q219
                        go_wp2
                        go_roundg k2
                        case measure => have := HK1.out; have := HK2.out; omega
                        case rel => exact ⟨(x12_2), (wrap64 (x13_2 + 1)), (by first | rfl | (simp; done) | (simp [*]; done)), H', ⟨by have := HK1.out; have := HK2.out; omega⟩, ⟨by (with_reducible repeat (first | apply Kd.R_alloc | apply Kd.R_drewN | apply Kd.R_drew)); exact HO_5.out⟩, ⟨by (with_reducible repeat (first | apply Kd.R_alloc | apply Kd.R_drewN | apply Kd.R_drew)); exact HO_7.out⟩, ⟨by (with_reducible repeat (first | apply Kd.R_alloc | apply Kd.R_drewN | apply Kd.R_drew)); exact HO_8.out⟩, ⟨by (with_reducible repeat (first | apply Kd.R_alloc | apply Kd.R_drewN | apply Kd.R_drew)); exact HO_10.out⟩, ⟨by (with_reducible repeat (first | apply Kd.R_alloc | apply Kd.R_drewN | apply Kd.R_drew)); exact HO_11.out⟩, ⟨by (with_reducible repeat (first | apply Kd.R_alloc | apply Kd.R_drewN | apply Kd.R_drew)); exact HO_12.out⟩, ⟨by repeat (first | (with_reducible first | exact HB.out | apply below_alloc | apply pw_below_drewN | apply below_drew1) | exact HB.out)⟩⟩
                      · rw [if_neg c31] at H
                        have c31b0 : (((rd_T35 t213 x13_2).f1) == a1) = false := beq_eq_false_iff_ne.mpr c31
                        have c31b1 : (((rd_T35 t213 x13_2).f1) != a1) = true := bne_iff_ne.mpr c31
                        by_cases c33 : x12_2.length < 3518437208883
                        · rw [if_pos c33] at H
                          have LMc33 := Aside0.mk c33
                          clear c33
                          obtain ⟨y221, hy221⟩ : ∃ y_ : List (S35), y_ = (x12_2 ++ [(⟨(rd_T35 t213 x13_2).f0, (rd_T35 t213 x13_2).f1, (rd_T35 t213 x13_2).f2, (rd_T35 t213 x13_2).f3, (rd_T35 t213 x13_2).f4⟩ : S35)]) := ⟨_, rfl⟩
                          replace H : (remontoirlaw27_OrdersLeft.l1 k2 a1 y199 t205 x8_1 t213 t216 y221 (wrap64 (x13_2 + 1))) = some r := by first | (rw [hy221]; with_reducible exact H) | (have H2_ := (Option.bind_some _ _).symm.trans H; rw [hy221]; with_reducible exact H2_) | (have H2_ := (Option.bind_some _ _).symm.trans H; with_reducible exact H2_) | with_reducible exact H | (rw [hy221]; exact H) | exact H
                          have Ny221 := Aside0.mk hy221
                          clear hy221
                          have H' := Aside0.mk H
                          clear H
                          obtain ⟨Ao34, co34, eo34⟩ := Kd.R_slice HO_10.out
                          subst eo34
                          have p219 : 0 ≤ (x13_2 : Int) := of_decide_eq_true (by first | (with_reducible assumption) | assumption)
                          have q219 : x13_2 < (t213.length : Int) := of_decide_eq_true (by first | (with_reducible assumption) | assumption)
                          obtain ⟨ad219, e219, hx219_0, hx219_1, hx219_2, hx219_3, hx219_4⟩ := at_T35 (Kd.R_reads' HO_10.out).2.2 x13_2 p219 q219
                          cases e219
                          replace p219 := eq_true p219
                          replace q219 := eq_true q219
                          have p220 : 0 ≤ (x13_2 : Int) := of_decide_eq_true (by first | (with_reducible assumption) | assumption)
                          have q220 : x13_2 < (t213.length : Int) := of_decide_eq_true (by first | (with_reducible assumption) | assumption)
                          obtain ⟨ad220, e220, hx220_0, hx220_1, hx220_2, hx220_3, hx220_4⟩ := at_T35 (Kd.R_reads' HO_10.out).2.2 x13_2 p220 q220
                          obtain rfl : ad219 = ad220 := (by injection e220)
                          replace p220 := eq_true p220
                          replace q220 := eq_true q220
                          go_wp2_with (first | ((with_reducible refine gate_builtin (b := .append) (xs := #[.tmp 70, .tmp 75]) rfl ?_); (try (refine gate_guard (by rfl) ?_; dsimp only)); at_builtin; refine Kd.R_append k35 (w0 := w) w.heap.size rfl (.tmp 70) (.tmp 75) 29 35 (.agg #[(.int .i64 0), (.int .i64 0), (.int .i64 0), (.int .i64 0), (.int .u64 0)]) 40 rfl Tryd.underlying29 info35 rfl (by decide) (by omega) u12 x12_2 (⟨(rd_T35 t213 x13_2).f0, (rd_T35 t213 x13_2).f1, (rd_T35 t213 x13_2).f2, (rd_T35 t213 x13_2).f3, (rd_T35 t213 x13_2).f4⟩ : S35) [.int .i64 ((rd_T35 t213 x13_2).f0), .int .i64 ((rd_T35 t213 x13_2).f1), .int .i64 ((rd_T35 t213 x13_2).f2), .int .i64 ((rd_T35 t213 x13_2).f3), .int .u64 ((rd_T35 t213 x13_2).f4)] (fun k_ => some k_ ≠ (.slice Ao15 y199.length co15 : Value).ownBlock ∧ some k_ ≠ (.slice (some ad219) t213.length co34 : Value).ownBlock ∧ some k_ ≠ (v217 : Value).ownBlock) (fun _ => False) rfl rfl ?aP (fun _ hk => hk.elim) ?aF ?aO ?aB ?aS ?aL ?_; (case aP => exact k35_mkM _ _ _ (⟨(rd_T35 t213 x13_2).f0, (rd_T35 t213 x13_2).f1, (rd_T35 t213 x13_2).f2, (rd_T35 t213 x13_2).f3, (rd_T35 t213 x13_2).f4⟩ : S35)); (case aB => exact (by repeat (first | (with_reducible first | exact HB.out | apply below_alloc | apply pw_below_drewN | apply below_drew1) | exact HB.out))); (case aF => exact (fun k_ hk => ⟨Kd.fresh' (Kd.R_lt (by (with_reducible repeat (first | apply Kd.R_alloc | apply Kd.R_drewN | apply Kd.R_drew)); exact HO_5.out)) k_ hk, Kd.fresh' (Kd.R_lt (by (with_reducible repeat (first | apply Kd.R_alloc | apply Kd.R_drewN | apply Kd.R_drew)); exact HO_10.out)) k_ hk, Kd.fresh' (Kd.R_lt (by (with_reducible repeat (first | apply Kd.R_alloc | apply Kd.R_drewN | apply Kd.R_drew)); exact HO_11.out)) k_ hk⟩)); (case aO => exact (by (with_reducible repeat (first | apply Kd.R_alloc | apply Kd.R_drewN | apply Kd.R_drew)); exact HO_12.out)); (case aS => exact (below_size (by repeat (first | (with_reducible first | exact HB.out | apply below_alloc | apply pw_below_drewN | apply below_drew1) | exact HB.out)))); (case aL => have := LMc33.out; omega); intro v222 w35 ho hb hg hat; rw [← Ny221.out] at ho; have n0_ := Aside0.mk (Kd.R_after (ok := (fun k_ => some k_ ≠ (.slice (some ad219) t213.length co34 : Value).ownBlock ∧ some k_ ≠ (v217 : Value).ownBlock)) (by (with_reducible repeat (first | apply Kd.R_alloc | apply Kd.R_drewN | apply Kd.R_drew)); exact Kd.R_mono HO_5.out (fun _ hk => ⟨⟨hk.1, hk.2.1⟩, hk.2.2⟩)) hg hat); have n1_ := Aside0.mk (Kd.R_over' (by (with_reducible repeat (first | apply Kd.R_alloc | apply Kd.R_drewN | apply Kd.R_drew)); exact HO_7.out) (Kd.R_typed (by (with_reducible repeat (first | apply Kd.R_alloc | apply Kd.R_drewN | apply Kd.R_drew)); exact HO_12.out)) (by decide) hg); have n2_ := Aside0.mk (Kd.R_over' (by (with_reducible repeat (first | apply Kd.R_alloc | apply Kd.R_drewN | apply Kd.R_drew)); exact HO_8.out) (Kd.R_typed (by (with_reducible repeat (first | apply Kd.R_alloc | apply Kd.R_drewN | apply Kd.R_drew)); exact HO_12.out)) (by decide) hg); have n3_ := Aside0.mk (Kd.R_after (ok := (fun k_ => some k_ ≠ (.slice Ao15 y199.length co15 : Value).ownBlock ∧ some k_ ≠ (v217 : Value).ownBlock)) (by (with_reducible repeat (first | apply Kd.R_alloc | apply Kd.R_drewN | apply Kd.R_drew)); exact Kd.R_mono HO_10.out (fun _ hk => ⟨⟨hk.1, hk.2.1⟩, hk.2.2⟩)) hg hat); have n4_ := Aside0.mk (Kd.R_after (ok := (fun k_ => some k_ ≠ (.slice Ao15 y199.length co15 : Value).ownBlock ∧ some k_ ≠ (.slice (some ad219) t213.length co34 : Value).ownBlock)) (by (with_reducible repeat (first | apply Kd.R_alloc | apply Kd.R_drewN | apply Kd.R_drew)); exact Kd.R_mono HO_11.out (fun _ hk => ⟨⟨hk.1, hk.2.1⟩, hk.2.2⟩)) hg hat); have n5_ := Aside0.mk (hb); have n6_ := Aside0.mk (ho); clear HO_5; clear HO_7; clear HO_8; clear HO_10; clear HO_11; clear HB; clear HO_12; have HO_5 := n0_; have HO_7 := n1_; have HO_8 := n2_; have HO_10 := n3_; have HO_11 := n4_; have HB := n5_; have HO223 := n6_; clear n0_ n1_ n2_ n3_ n4_ n5_ n6_; clear ho hb hg hat))
                          go_roundg k2
                          case measure => have := HK1.out; have := HK2.out; omega
                          case rel => exact ⟨(y221), (wrap64 (x13_2 + 1)), (by first | rfl | (simp; done) | (simp [*]; done)), H', ⟨by have := HK1.out; have := HK2.out; omega⟩, ⟨by (with_reducible repeat (first | apply Kd.R_alloc | apply Kd.R_drewN | apply Kd.R_drew)); exact Kd.R_mono HO_5.out (fun _ hk => ⟨hk.1.1, ⟨hk.1.2, hk.2⟩⟩)⟩, ⟨by (with_reducible repeat (first | apply Kd.R_alloc | apply Kd.R_drewN | apply Kd.R_drew)); exact HO_7.out⟩, ⟨by (with_reducible repeat (first | apply Kd.R_alloc | apply Kd.R_drewN | apply Kd.R_drew)); exact HO_8.out⟩, ⟨by (with_reducible repeat (first | apply Kd.R_alloc | apply Kd.R_drewN | apply Kd.R_drew)); exact Kd.R_mono HO_10.out (fun _ hk => ⟨hk.1.1, ⟨hk.1.2, hk.2⟩⟩)⟩, ⟨by (with_reducible repeat (first | apply Kd.R_alloc | apply Kd.R_drewN | apply Kd.R_drew)); exact Kd.R_mono HO_11.out (fun _ hk => ⟨hk.1.1, ⟨hk.1.2, hk.2⟩⟩)⟩, ⟨by (with_reducible repeat (first | apply Kd.R_alloc | apply Kd.R_drewN | apply Kd.R_drew)); exact HO223.out⟩, ⟨by repeat (first | (with_reducible first | exact HB.out | apply below_alloc | apply pw_below_drewN | apply below_drew1) | exact HB.out)⟩⟩
                        · rw [if_neg c33] at H
                          exact absurd H (by simp)
                    · rw [if_neg c30] at H
                      exact absurd H (by simp)
                  · rw [if_neg c29] at H
                    have c29b0 : decide (x13_2 < (t213.length : Int)) = false := decide_eq_false c29
                    clear c29
                    have hy224 := Ny193.out
                    replace H : (if y193.length + y199.length < 3518437208883 then ((some (y193 ++ y199 : List (S35))).bind fun y227 => ((some (([(⟨1, a1, 0, 0, 0⟩ : S35), (⟨2, a1, 3, 0, 0⟩ : S35)] : List (S35)) : List (S35))).bind fun y230 => (if y227.length + y230.length < 3518437208883 then ((some (y227 ++ y230 : List (S35))).bind fun y233 => ((orders_Jobs.f y233).bind fun t236 => ((orders_Timers.f y233).bind fun t239 => (remontoirlaw27_OrdersLeft.l2 k2 a1 t205 x8_1 t216 x12_2 t236 t239 false 0)))) else (none)))) else (none)) = some r := by first | (rw [hy224]; with_reducible exact H) | (have H2_ := (Option.bind_some _ _).symm.trans H; rw [hy224]; with_reducible exact H2_) | (have H2_ := (Option.bind_some _ _).symm.trans H; with_reducible exact H2_) | with_reducible exact H | (rw [hy224]; exact H) | exact H
                    have Ny224 := Aside0.mk hy224
                    clear hy224
                    by_cases c36 : y193.length + y199.length < 3518437208883
                    · rw [if_pos c36] at H
                      have LMc36 := Aside0.mk c36
                      clear c36
                      obtain ⟨y227, hy227⟩ : ∃ y_ : List (S35), y_ = (y193 ++ y199) := ⟨_, rfl⟩
                      replace H : ((some (([(⟨1, a1, 0, 0, 0⟩ : S35), (⟨2, a1, 3, 0, 0⟩ : S35)] : List (S35)) : List (S35))).bind fun y230 => (if y227.length + y230.length < 3518437208883 then ((some (y227 ++ y230 : List (S35))).bind fun y233 => ((orders_Jobs.f y233).bind fun t236 => ((orders_Timers.f y233).bind fun t239 => (remontoirlaw27_OrdersLeft.l2 k2 a1 t205 x8_1 t216 x12_2 t236 t239 false 0)))) else (none))) = some r := by first | (rw [hy227]; with_reducible exact H) | (have H2_ := (Option.bind_some _ _).symm.trans H; rw [hy227]; with_reducible exact H2_) | (have H2_ := (Option.bind_some _ _).symm.trans H; with_reducible exact H2_) | with_reducible exact H | (rw [hy227]; exact H) | exact H
                      have Ny227 := Aside0.mk hy227
                      clear hy227
                      obtain ⟨y230, hy230⟩ : ∃ y_ : List (S35), y_ = (([(⟨1, a1, 0, 0, 0⟩ : S35), (⟨2, a1, 3, 0, 0⟩ : S35)] : List (S35))) := ⟨_, rfl⟩
                      replace H : (if y227.length + y230.length < 3518437208883 then ((some (y227 ++ y230 : List (S35))).bind fun y233 => ((orders_Jobs.f y233).bind fun t236 => ((orders_Timers.f y233).bind fun t239 => (remontoirlaw27_OrdersLeft.l2 k2 a1 t205 x8_1 t216 x12_2 t236 t239 false 0)))) else (none)) = some r := by first | (rw [hy230]; with_reducible exact H) | (have H2_ := (Option.bind_some _ _).symm.trans H; rw [hy230]; with_reducible exact H2_) | (have H2_ := (Option.bind_some _ _).symm.trans H; with_reducible exact H2_) | with_reducible exact H | (rw [hy230]; exact H) | exact H
                      have Ny230 := Aside0.mk hy230
                      clear hy230
                      by_cases c37 : y227.length + y230.length < 3518437208883
                      · rw [if_pos c37] at H
                        have LMc37 := Aside0.mk c37
                        clear c37
                        obtain ⟨y233, hy233⟩ : ∃ y_ : List (S35), y_ = (y227 ++ y230) := ⟨_, rfl⟩
                        replace H : ((orders_Jobs.f y233).bind fun t236 => ((orders_Timers.f y233).bind fun t239 => (remontoirlaw27_OrdersLeft.l2 k2 a1 t205 x8_1 t216 x12_2 t236 t239 false 0))) = some r := by first | (rw [hy233]; with_reducible exact H) | (have H2_ := (Option.bind_some _ _).symm.trans H; rw [hy233]; with_reducible exact H2_) | (have H2_ := (Option.bind_some _ _).symm.trans H; with_reducible exact H2_) | with_reducible exact H | (rw [hy233]; exact H) | exact H
                        have Ny233 := Aside0.mk hy233
                        clear hy233
                        replace H := Option.bind_eq_some_iff.mp H
                        obtain ⟨t236, A380, H⟩ := H
                        replace H : ((orders_Timers.f y233).bind fun t239 => (remontoirlaw27_OrdersLeft.l2 k2 a1 t205 x8_1 t216 x12_2 t236 t239 false 0)) = some r := H
                        have A38 := Aside0.mk A380
                        clear A380
                        replace H := Option.bind_eq_some_iff.mp H
                        obtain ⟨t239, A390, H⟩ := H
                        replace H : (remontoirlaw27_OrdersLeft.l2 k2 a1 t205 x8_1 t216 x12_2 t236 t239 false 0) = some r := H
                        have A39 := Aside0.mk A390
                        clear A390
                        have H' := Aside0.mk H
                        clear H
                        obtain ⟨Ao40, co40, eo40⟩ := Kd.R_slice HO_10.out
                        subst eo40
                        go_wp2_with (first | ((with_reducible refine gate_dst (N := 77) rfl ?_); (try (refine gate_guard (by rfl) ?_; dsimp only)); refine Kd.R_lit k35 _ 35 ?hg (N := 77) ?hd (xs := ([] : List (S35))) (inner := []) (ok := fun _ => True) (okp := fun _ => True) ?hr ?hp (fun _ hk => hk) trivial (Below.refl _ _) (Nat.le_refl _) (by simp) ?_; (case hd => rfl); (case hg => rfl); (case hr => first | (go_simp; done) | (go_simp; rfl)); (case hp => exact (Reps.none _ _)); intro v225 w41 ho42 hb hg_ hnew_; clear hg_ hnew_; (first | rw [← Ny224.out] at ho42 | (simp only [Int.reduceToNat] at ho42; rw [← Ny224.out] at ho42)); have n0_ := Aside0.mk (Kd.R_elder' (by (with_reducible repeat (first | apply Kd.R_alloc | apply Kd.R_drewN | apply Kd.R_drew)); exact HO_5.out) (Kd.R_base ho42) hb); have n1_ := Aside0.mk (Kd.R_below (by (with_reducible repeat (first | apply Kd.R_alloc | apply Kd.R_drewN | apply Kd.R_drew)); exact HO_7.out) hb); have n2_ := Aside0.mk (Kd.R_below (by (with_reducible repeat (first | apply Kd.R_alloc | apply Kd.R_drewN | apply Kd.R_drew)); exact HO_8.out) hb); have n3_ := Aside0.mk (Kd.R_elder' (by (with_reducible repeat (first | apply Kd.R_alloc | apply Kd.R_drewN | apply Kd.R_drew)); exact HO_10.out) (Kd.R_base ho42) hb); have n4_ := Aside0.mk (Kd.R_elder' (by (with_reducible repeat (first | apply Kd.R_alloc | apply Kd.R_drewN | apply Kd.R_drew)); exact HO_11.out) (Kd.R_base ho42) hb); have n5_ := Aside0.mk (Kd.R_elder' (by (with_reducible repeat (first | apply Kd.R_alloc | apply Kd.R_drewN | apply Kd.R_drew)); exact HO_12.out) (Kd.R_base ho42) hb); have n6_ := Aside0.mk (Kd.R_lower (Kd.R_new' (Kd.R_new' (Kd.R_new' (Kd.R_new' ho42 (Kd.R_lt (by (with_reducible repeat (first | apply Kd.R_alloc | apply Kd.R_drewN | apply Kd.R_drew)); exact HO_5.out))) (Kd.R_lt (by (with_reducible repeat (first | apply Kd.R_alloc | apply Kd.R_drewN | apply Kd.R_drew)); exact HO_10.out))) (Kd.R_lt (by (with_reducible repeat (first | apply Kd.R_alloc | apply Kd.R_drewN | apply Kd.R_drew)); exact HO_11.out))) (Kd.R_lt (by (with_reducible repeat (first | apply Kd.R_alloc | apply Kd.R_drewN | apply Kd.R_drew)); exact HO_12.out))) (below_size (by repeat (first | (with_reducible first | exact HB.out | apply below_alloc | apply pw_below_drewN | apply below_drew1) | exact HB.out)))); have n7_ := Aside0.mk (below_step (by repeat (first | (with_reducible first | exact HB.out | apply below_alloc | apply pw_below_drewN | apply below_drew1) | exact HB.out)) hb); clear HO_5; clear HO_7; clear HO_8; clear HO_10; clear HO_11; clear HO_12; clear HB; have HO_5 := n0_; have HO_7 := n1_; have HO_8 := n2_; have HO_10 := n3_; have HO_11 := n4_; have HO_12 := n5_; have HO226 := n6_; have HB := n7_; clear n0_ n1_ n2_ n3_ n4_ n5_ n6_ n7_; clear hb ho42) | ((with_reducible refine gate_builtin (b := .append) (xs := #[.tmp 77, .tmp 78]) rfl ?_); (try (refine gate_guard (by rfl) ?_; dsimp only)); at_builtin; refine Kd.R_append_rows k35 (w0 := w) w.heap.size rfl (.tmp 77) (.tmp 78) 29 35 (.agg #[(.int .i64 0), (.int .i64 0), (.int .i64 0), (.int .i64 0), (.int .u64 0)]) 40 rfl Tryd.underlying29 info35 rfl (by decide) (by omega) v225 y193 y199 _ _ _ (fun k_ => some k_ ≠ (.slice Ao15 y199.length co15 : Value).ownBlock ∧ some k_ ≠ (.slice Ao40 t213.length co40 : Value).ownBlock ∧ some k_ ≠ (v217 : Value).ownBlock ∧ some k_ ≠ (u12 : Value).ownBlock) (fun _ => False) rfl rfl ?aO ?aR (fun _ _ h => h) (fun _ h => h.elim) ?aF ?aB ?aS ?aL ?_; (case aR => repeat (first | exact (Kd.R_reads' HO_5.out).2.2 | (with_reducible refine Kd.C_alloc ?_ _) | (with_reducible refine Kd.C_drewN ?_ _) | (with_reducible refine Kd.C_drew ?_))); (case aB => exact (by repeat (first | (with_reducible first | exact HB.out | apply below_alloc | apply pw_below_drewN | apply below_drew1) | exact HB.out))); (case aF => exact (fun k_ hk => ⟨Kd.fresh' (Kd.R_lt (by (with_reducible repeat (first | apply Kd.R_alloc | apply Kd.R_drewN | apply Kd.R_drew)); exact HO_5.out)) k_ hk, Kd.fresh' (Kd.R_lt (by (with_reducible repeat (first | apply Kd.R_alloc | apply Kd.R_drewN | apply Kd.R_drew)); exact HO_10.out)) k_ hk, Kd.fresh' (Kd.R_lt (by (with_reducible repeat (first | apply Kd.R_alloc | apply Kd.R_drewN | apply Kd.R_drew)); exact HO_11.out)) k_ hk, Kd.fresh' (Kd.R_lt (by (with_reducible repeat (first | apply Kd.R_alloc | apply Kd.R_drewN | apply Kd.R_drew)); exact HO_12.out)) k_ hk⟩)); (case aO => exact (by (with_reducible repeat (first | apply Kd.R_alloc | apply Kd.R_drewN | apply Kd.R_drew)); exact Kd.R_mono HO226.out (fun _ hk => ⟨hk.1.1.1.2, ⟨hk.1.1.2, ⟨hk.1.2, hk.2⟩⟩⟩))); (case aS => exact (below_size (by repeat (first | (with_reducible first | exact HB.out | apply below_alloc | apply pw_below_drewN | apply below_drew1) | exact HB.out)))); (case aL => have := LMc36.out; omega); intro v228 w43 ho hb hg hat; rw [← Ny227.out] at ho; have n0_ := Aside0.mk (Kd.R_after (ok := (fun k_ => some k_ ≠ (.slice Ao40 t213.length co40 : Value).ownBlock ∧ some k_ ≠ (v217 : Value).ownBlock ∧ some k_ ≠ (u12 : Value).ownBlock)) (by (with_reducible repeat (first | apply Kd.R_alloc | apply Kd.R_drewN | apply Kd.R_drew)); exact HO_5.out) hg hat); have n1_ := Aside0.mk (Kd.R_over' (by (with_reducible repeat (first | apply Kd.R_alloc | apply Kd.R_drewN | apply Kd.R_drew)); exact HO_7.out) (Kd.R_typed (by (with_reducible repeat (first | apply Kd.R_alloc | apply Kd.R_drewN | apply Kd.R_drew)); exact HO226.out)) (by decide) hg); have n2_ := Aside0.mk (Kd.R_over' (by (with_reducible repeat (first | apply Kd.R_alloc | apply Kd.R_drewN | apply Kd.R_drew)); exact HO_8.out) (Kd.R_typed (by (with_reducible repeat (first | apply Kd.R_alloc | apply Kd.R_drewN | apply Kd.R_drew)); exact HO226.out)) (by decide) hg); have n3_ := Aside0.mk (Kd.R_after (ok := (fun k_ => some k_ ≠ (.slice Ao15 y199.length co15 : Value).ownBlock ∧ some k_ ≠ (v217 : Value).ownBlock ∧ some k_ ≠ (u12 : Value).ownBlock)) (by (with_reducible repeat (first | apply Kd.R_alloc | apply Kd.R_drewN | apply Kd.R_drew)); exact HO_10.out) hg hat); have n4_ := Aside0.mk (Kd.R_after (ok := (fun k_ => some k_ ≠ (.slice Ao15 y199.length co15 : Value).ownBlock ∧ some k_ ≠ (.slice Ao40 t213.length co40 : Value).ownBlock ∧ some k_ ≠ (u12 : Value).ownBlock)) (by (with_reducible repeat (first | apply Kd.R_alloc | apply Kd.R_drewN | apply Kd.R_drew)); exact HO_11.out) hg hat); have n5_ := Aside0.mk (Kd.R_after (ok := (fun k_ => some k_ ≠ (.slice Ao15 y199.length co15 : Value).ownBlock ∧ some k_ ≠ (.slice Ao40 t213.length co40 : Value).ownBlock ∧ some k_ ≠ (v217 : Value).ownBlock)) (by (with_reducible repeat (first | apply Kd.R_alloc | apply Kd.R_drewN | apply Kd.R_drew)); exact HO_12.out) hg hat); have n6_ := Aside0.mk (hb); have n7_ := Aside0.mk (ho); clear HO_5; clear HO_7; clear HO_8; clear HO_10; clear HO_11; clear HO_12; clear HB; clear HO226; have HO_5 := n0_; have HO_7 := n1_; have HO_8 := n2_; have HO_10 := n3_; have HO_11 := n4_; have HO_12 := n5_; have HB := n6_; have HO229 := n7_; clear n0_ n1_ n2_ n3_ n4_ n5_ n6_ n7_; clear ho hb hg hat) | ((with_reducible refine gate_dst (N := 84) rfl ?_); (try (refine gate_guard (by rfl) ?_; dsimp only)); refine Kd.R_lit k35 _ 35 ?hg (N := 84) ?hd (xs := ([(⟨1, a1, 0, 0, 0⟩ : S35), (⟨2, a1, 3, 0, 0⟩ : S35)] : List (S35))) (inner := [.int .i64 1, .int .i64 a1, .int .i64 0, .int .i64 0, .int .u64 0, .int .i64 2, .int .i64 a1, .int .i64 3, .int .i64 0, .int .u64 0]) (ok := fun _ => True) (okp := fun _ => True) ?hr ?hp (fun _ hk => hk) trivial (Below.refl _ _) (Nat.le_refl _) (by simp) ?_; (case hd => rfl); (case hg => rfl); (case hr => first | (go_simp; done) | (go_simp; rfl)); (case hp => exact (Reps.c5 (show Kd.M k35 _ _ _ (⟨1, a1, 0, 0, 0⟩ : S35) [.int .i64 1, .int .i64 a1, .int .i64 0, .int .i64 0, .int .u64 0] from (k35_mkM _ _ _ (⟨1, a1, 0, 0, 0⟩ : S35) )) (Reps.c5 (show Kd.M k35 _ _ _ (⟨2, a1, 3, 0, 0⟩ : S35) [.int .i64 2, .int .i64 a1, .int .i64 3, .int .i64 0, .int .u64 0] from (k35_mkM _ _ _ (⟨2, a1, 3, 0, 0⟩ : S35) )) (Reps.none _ _)))); intro v231 w44 ho45 hb hg_ hnew_; clear hg_ hnew_; (first | rw [← Ny230.out] at ho45 | (simp only [Int.reduceToNat] at ho45; rw [← Ny230.out] at ho45)); have n0_ := Aside0.mk (Kd.R_elder' (by (with_reducible repeat (first | apply Kd.R_alloc | apply Kd.R_drewN | apply Kd.R_drew)); exact HO_5.out) (Kd.R_base ho45) hb); have n1_ := Aside0.mk (Kd.R_below (by (with_reducible repeat (first | apply Kd.R_alloc | apply Kd.R_drewN | apply Kd.R_drew)); exact HO_7.out) hb); have n2_ := Aside0.mk (Kd.R_below (by (with_reducible repeat (first | apply Kd.R_alloc | apply Kd.R_drewN | apply Kd.R_drew)); exact HO_8.out) hb); have n3_ := Aside0.mk (Kd.R_elder' (by (with_reducible repeat (first | apply Kd.R_alloc | apply Kd.R_drewN | apply Kd.R_drew)); exact HO_10.out) (Kd.R_base ho45) hb); have n4_ := Aside0.mk (Kd.R_elder' (by (with_reducible repeat (first | apply Kd.R_alloc | apply Kd.R_drewN | apply Kd.R_drew)); exact HO_11.out) (Kd.R_base ho45) hb); have n5_ := Aside0.mk (Kd.R_elder' (by (with_reducible repeat (first | apply Kd.R_alloc | apply Kd.R_drewN | apply Kd.R_drew)); exact HO_12.out) (Kd.R_base ho45) hb); have n6_ := Aside0.mk (Kd.R_elder' (by (with_reducible repeat (first | apply Kd.R_alloc | apply Kd.R_drewN | apply Kd.R_drew)); exact HO229.out) (Kd.R_base ho45) hb); have n7_ := Aside0.mk (Kd.R_lower (Kd.R_new' (Kd.R_new' (Kd.R_new' (Kd.R_new' (Kd.R_new' ho45 (Kd.R_lt (by (with_reducible repeat (first | apply Kd.R_alloc | apply Kd.R_drewN | apply Kd.R_drew)); exact HO_5.out))) (Kd.R_lt (by (with_reducible repeat (first | apply Kd.R_alloc | apply Kd.R_drewN | apply Kd.R_drew)); exact HO_10.out))) (Kd.R_lt (by (with_reducible repeat (first | apply Kd.R_alloc | apply Kd.R_drewN | apply Kd.R_drew)); exact HO_11.out))) (Kd.R_lt (by (with_reducible repeat (first | apply Kd.R_alloc | apply Kd.R_drewN | apply Kd.R_drew)); exact HO_12.out))) (Kd.R_lt (by (with_reducible repeat (first | apply Kd.R_alloc | apply Kd.R_drewN | apply Kd.R_drew)); exact HO229.out))) (below_size (by repeat (first | (with_reducible first | exact HB.out | apply below_alloc | apply pw_below_drewN | apply below_drew1) | exact HB.out)))); have n8_ := Aside0.mk (below_step (by repeat (first | (with_reducible first | exact HB.out | apply below_alloc | apply pw_below_drewN | apply below_drew1) | exact HB.out)) hb); clear HO_5; clear HO_7; clear HO_8; clear HO_10; clear HO_11; clear HO_12; clear HO229; clear HB; have HO_5 := n0_; have HO_7 := n1_; have HO_8 := n2_; have HO_10 := n3_; have HO_11 := n4_; have HO_12 := n5_; have HO229 := n6_; have HO232 := n7_; have HB := n8_; clear n0_ n1_ n2_ n3_ n4_ n5_ n6_ n7_ n8_; clear hb ho45; obtain ⟨Ao47, co47, eo47⟩ := Kd.R_slice HO232.out; subst eo47) | ((with_reducible refine gate_builtin (b := .append) (xs := #[.tmp 79, .tmp 84]) rfl ?_); (try (refine gate_guard (by rfl) ?_; dsimp only)); at_builtin; refine Kd.R_append_rows k35 (w0 := w) w.heap.size rfl (.tmp 79) (.tmp 84) 29 35 (.agg #[(.int .i64 0), (.int .i64 0), (.int .i64 0), (.int .i64 0), (.int .u64 0)]) 40 rfl Tryd.underlying29 info35 rfl (by decide) (by omega) v228 y227 y230 _ _ _ (fun k_ => some k_ ≠ (.slice Ao15 y199.length co15 : Value).ownBlock ∧ some k_ ≠ (.slice Ao40 t213.length co40 : Value).ownBlock ∧ some k_ ≠ (v217 : Value).ownBlock ∧ some k_ ≠ (u12 : Value).ownBlock ∧ some k_ ≠ (.slice Ao47 y230.length co47 : Value).ownBlock) (fun _ => False) rfl rfl ?aO ?aR (fun _ _ h => h) (fun _ h => h.elim) ?aF ?aB ?aS ?aL ?_; (case aR => repeat (first | exact (Kd.R_reads' HO232.out).2.2 | (with_reducible refine Kd.C_alloc ?_ _) | (with_reducible refine Kd.C_drewN ?_ _) | (with_reducible refine Kd.C_drew ?_))); (case aB => exact (by repeat (first | (with_reducible first | exact HB.out | apply below_alloc | apply pw_below_drewN | apply below_drew1) | exact HB.out))); (case aF => exact (fun k_ hk => ⟨Kd.fresh' (Kd.R_lt (by (with_reducible repeat (first | apply Kd.R_alloc | apply Kd.R_drewN | apply Kd.R_drew)); exact HO_5.out)) k_ hk, Kd.fresh' (Kd.R_lt (by (with_reducible repeat (first | apply Kd.R_alloc | apply Kd.R_drewN | apply Kd.R_drew)); exact HO_10.out)) k_ hk, Kd.fresh' (Kd.R_lt (by (with_reducible repeat (first | apply Kd.R_alloc | apply Kd.R_drewN | apply Kd.R_drew)); exact HO_11.out)) k_ hk, Kd.fresh' (Kd.R_lt (by (with_reducible repeat (first | apply Kd.R_alloc | apply Kd.R_drewN | apply Kd.R_drew)); exact HO_12.out)) k_ hk, Kd.fresh' (Kd.R_lt (by (with_reducible repeat (first | apply Kd.R_alloc | apply Kd.R_drewN | apply Kd.R_drew)); exact HO232.out)) k_ hk⟩)); (case aO => exact (by (with_reducible repeat (first | apply Kd.R_alloc | apply Kd.R_drewN | apply Kd.R_drew)); exact Kd.R_mono HO229.out (fun _ hk => ⟨hk.1.1, ⟨hk.1.2.1, ⟨hk.1.2.2.1, ⟨hk.1.2.2.2, hk.2⟩⟩⟩⟩))); (case aS => exact (below_size (by repeat (first | (with_reducible first | exact HB.out | apply below_alloc | apply pw_below_drewN | apply below_drew1) | exact HB.out)))); (case aL => have := LMc37.out; omega); intro v234 w46 ho hb hg hat; rw [← Ny233.out] at ho; have n0_ := Aside0.mk (Kd.R_after (ok := (fun k_ => some k_ ≠ (.slice Ao40 t213.length co40 : Value).ownBlock ∧ some k_ ≠ (v217 : Value).ownBlock ∧ some k_ ≠ (u12 : Value).ownBlock ∧ some k_ ≠ (.slice Ao47 y230.length co47 : Value).ownBlock)) (by (with_reducible repeat (first | apply Kd.R_alloc | apply Kd.R_drewN | apply Kd.R_drew)); exact Kd.R_mono HO_5.out (fun _ hk => ⟨⟨hk.1.1.1, ⟨hk.1.1.2.1, ⟨hk.1.1.2.2, hk.2⟩⟩⟩, hk.1.2⟩)) hg hat); have n1_ := Aside0.mk (Kd.R_over' (by (with_reducible repeat (first | apply Kd.R_alloc | apply Kd.R_drewN | apply Kd.R_drew)); exact HO_7.out) (Kd.R_typed (by (with_reducible repeat (first | apply Kd.R_alloc | apply Kd.R_drewN | apply Kd.R_drew)); exact HO229.out)) (by decide) hg); have n2_ := Aside0.mk (Kd.R_over' (by (with_reducible repeat (first | apply Kd.R_alloc | apply Kd.R_drewN | apply Kd.R_drew)); exact HO_8.out) (Kd.R_typed (by (with_reducible repeat (first | apply Kd.R_alloc | apply Kd.R_drewN | apply Kd.R_drew)); exact HO229.out)) (by decide) hg); have n3_ := Aside0.mk (Kd.R_after (ok := (fun k_ => some k_ ≠ (.slice Ao15 y199.length co15 : Value).ownBlock ∧ some k_ ≠ (v217 : Value).ownBlock ∧ some k_ ≠ (u12 : Value).ownBlock ∧ some k_ ≠ (.slice Ao47 y230.length co47 : Value).ownBlock)) (by (with_reducible repeat (first | apply Kd.R_alloc | apply Kd.R_drewN | apply Kd.R_drew)); exact Kd.R_mono HO_10.out (fun _ hk => ⟨⟨hk.1.1.1, ⟨hk.1.1.2.1, ⟨hk.1.1.2.2, hk.2⟩⟩⟩, hk.1.2⟩)) hg hat); have n4_ := Aside0.mk (Kd.R_after (ok := (fun k_ => some k_ ≠ (.slice Ao15 y199.length co15 : Value).ownBlock ∧ some k_ ≠ (.slice Ao40 t213.length co40 : Value).ownBlock ∧ some k_ ≠ (u12 : Value).ownBlock ∧ some k_ ≠ (.slice Ao47 y230.length co47 : Value).ownBlock)) (by (with_reducible repeat (first | apply Kd.R_alloc | apply Kd.R_drewN | apply Kd.R_drew)); exact Kd.R_mono HO_11.out (fun _ hk => ⟨⟨hk.1.1.1, ⟨hk.1.1.2.1, ⟨hk.1.1.2.2, hk.2⟩⟩⟩, hk.1.2⟩)) hg hat); have n5_ := Aside0.mk (Kd.R_after (ok := (fun k_ => some k_ ≠ (.slice Ao15 y199.length co15 : Value).ownBlock ∧ some k_ ≠ (.slice Ao40 t213.length co40 : Value).ownBlock ∧ some k_ ≠ (v217 : Value).ownBlock ∧ some k_ ≠ (.slice Ao47 y230.length co47 : Value).ownBlock)) (by (with_reducible repeat (first | apply Kd.R_alloc | apply Kd.R_drewN | apply Kd.R_drew)); exact Kd.R_mono HO_12.out (fun _ hk => ⟨⟨hk.1.1.1, ⟨hk.1.1.2.1, ⟨hk.1.1.2.2, hk.2⟩⟩⟩, hk.1.2⟩)) hg hat); have n6_ := Aside0.mk (Kd.R_after (ok := (fun k_ => some k_ ≠ (.slice Ao15 y199.length co15 : Value).ownBlock ∧ some k_ ≠ (.slice Ao40 t213.length co40 : Value).ownBlock ∧ some k_ ≠ (v217 : Value).ownBlock ∧ some k_ ≠ (u12 : Value).ownBlock)) (by (with_reducible repeat (first | apply Kd.R_alloc | apply Kd.R_drewN | apply Kd.R_drew)); exact Kd.R_mono HO232.out (fun _ hk => ⟨⟨hk.1.1.1.1.2, ⟨hk.1.1.1.2, ⟨hk.1.1.2, hk.1.2⟩⟩⟩, hk.2⟩)) hg hat); have n7_ := Aside0.mk (hb); have n8_ := Aside0.mk (ho); clear HO_5; clear HO_7; clear HO_8; clear HO_10; clear HO_11; clear HO_12; clear HO232; clear HB; clear HO229; have HO_5 := n0_; have HO_7 := n1_; have HO_8 := n2_; have HO_10 := n3_; have HO_11 := n4_; have HO_12 := n5_; have HO232 := n6_; have HB := n7_; have HO235 := n8_; clear n0_ n1_ n2_ n3_ n4_ n5_ n6_ n7_ n8_; clear ho hb hg hat; obtain ⟨Ao48, co48, eo48⟩ := Kd.R_slice HO235.out; subst eo48) | ((with_reducible refine gate_callee (f := 10) rfl ?_); refine goesL_ (some 87) rfl rfl Tryd.func10 (by kernel_rfl) rfl #[.slice Ao48 y233.length co48] rfl (by (try simp only [List.map_toArray, List.map_cons, List.map_nil]); first | done | rfl | (simp only [List.length_drop, List.length_take]; rfl)) ?_; (with_reducible refine (orders_Jobs.calls _ _ y233 t236 _ ?side1 ?side2 A38.out).mono ?_); (case side1 => repeat (first | exact (Kd.R_reads' HO235.out).2.2 | (with_reducible refine Kd.C_alloc ?_ _) | (with_reducible refine Kd.C_drewN ?_ _) | (with_reducible refine Kd.C_drew ?_))); (case side2 => exact (Kd.R_reads' HO235.out).2.1); rintro e w49 ⟨v237, rfl, ho0, hb⟩; refine ⟨_, rfl, ?_⟩; have n0_ := Aside0.mk (Kd.R_below (by (with_reducible repeat (first | apply Kd.R_alloc | apply Kd.R_drewN | apply Kd.R_drew)); exact HO_5.out) hb); have n1_ := Aside0.mk (Kd.R_elder' (by (with_reducible repeat (first | apply Kd.R_alloc | apply Kd.R_drewN | apply Kd.R_drew)); exact HO_7.out) (Kd.R_base ho0) hb); have n2_ := Aside0.mk (Kd.R_elder' (by (with_reducible repeat (first | apply Kd.R_alloc | apply Kd.R_drewN | apply Kd.R_drew)); exact HO_8.out) (Kd.R_base ho0) hb); have n3_ := Aside0.mk (Kd.R_below (by (with_reducible repeat (first | apply Kd.R_alloc | apply Kd.R_drewN | apply Kd.R_drew)); exact HO_10.out) hb); have n4_ := Aside0.mk (Kd.R_below (by (with_reducible repeat (first | apply Kd.R_alloc | apply Kd.R_drewN | apply Kd.R_drew)); exact HO_11.out) hb); have n5_ := Aside0.mk (Kd.R_below (by (with_reducible repeat (first | apply Kd.R_alloc | apply Kd.R_drewN | apply Kd.R_drew)); exact HO_12.out) hb); have n6_ := Aside0.mk (Kd.R_below (by (with_reducible repeat (first | apply Kd.R_alloc | apply Kd.R_drewN | apply Kd.R_drew)); exact HO232.out) hb); have n7_ := Aside0.mk (Kd.R_below (by (with_reducible repeat (first | apply Kd.R_alloc | apply Kd.R_drewN | apply Kd.R_drew)); exact HO235.out) hb); have n8_ := Aside0.mk (Kd.R_lower (Kd.R_new' (Kd.R_new' ho0 (Kd.R_lt (by (with_reducible repeat (first | apply Kd.R_alloc | apply Kd.R_drewN | apply Kd.R_drew)); exact HO_7.out))) (Kd.R_lt (by (with_reducible repeat (first | apply Kd.R_alloc | apply Kd.R_drewN | apply Kd.R_drew)); exact HO_8.out))) (below_size (by repeat (first | (with_reducible first | exact HB.out | apply below_alloc | apply pw_below_drewN | apply below_drew1) | exact HB.out)))); have n9_ := Aside0.mk (below_step (by repeat (first | (with_reducible first | exact HB.out | apply below_alloc | apply pw_below_drewN | apply below_drew1) | exact HB.out)) hb); clear HO_5; clear HO_7; clear HO_8; clear HO_10; clear HO_11; clear HO_12; clear HO232; clear HO235; clear HB; have HO_5 := n0_; have HO_7 := n1_; have HO_8 := n2_; have HO_10 := n3_; have HO_11 := n4_; have HO_12 := n5_; have HO232 := n6_; have HO235 := n7_; have HO238 := n8_; have HB := n9_; clear n0_ n1_ n2_ n3_ n4_ n5_ n6_ n7_ n8_ n9_; (try clear hb); (try clear hb2); (try clear hk); (try clear hi); (try clear ho0)) | ((with_reducible refine gate_callee (f := 11) rfl ?_); refine goesL_ (some 89) rfl rfl Tryd.func11 (by kernel_rfl) rfl #[.slice Ao48 y233.length co48] rfl (by (try simp only [List.map_toArray, List.map_cons, List.map_nil]); first | done | rfl | (simp only [List.length_drop, List.length_take]; rfl)) ?_; (with_reducible refine (orders_Timers.calls _ _ y233 t239 _ ?side1 ?side2 A39.out).mono ?_); (case side1 => repeat (first | exact (Kd.R_reads' HO235.out).2.2 | (with_reducible refine Kd.C_alloc ?_ _) | (with_reducible refine Kd.C_drewN ?_ _) | (with_reducible refine Kd.C_drew ?_))); (case side2 => exact (Kd.R_reads' HO235.out).2.1); rintro e w50 ⟨v240, rfl, ho0, hb⟩; refine ⟨_, rfl, ?_⟩; have n0_ := Aside0.mk (Kd.R_elder' (by (with_reducible repeat (first | apply Kd.R_alloc | apply Kd.R_drewN | apply Kd.R_drew)); exact HO_5.out) (Kd.R_base ho0) hb); have n1_ := Aside0.mk (Kd.R_below (by (with_reducible repeat (first | apply Kd.R_alloc | apply Kd.R_drewN | apply Kd.R_drew)); exact HO_7.out) hb); have n2_ := Aside0.mk (Kd.R_below (by (with_reducible repeat (first | apply Kd.R_alloc | apply Kd.R_drewN | apply Kd.R_drew)); exact HO_8.out) hb); have n3_ := Aside0.mk (Kd.R_elder' (by (with_reducible repeat (first | apply Kd.R_alloc | apply Kd.R_drewN | apply Kd.R_drew)); exact HO_10.out) (Kd.R_base ho0) hb); have n4_ := Aside0.mk (Kd.R_elder' (by (with_reducible repeat (first | apply Kd.R_alloc | apply Kd.R_drewN | apply Kd.R_drew)); exact HO_11.out) (Kd.R_base ho0) hb); have n5_ := Aside0.mk (Kd.R_elder' (by (with_reducible repeat (first | apply Kd.R_alloc | apply Kd.R_drewN | apply Kd.R_drew)); exact HO_12.out) (Kd.R_base ho0) hb); have n6_ := Aside0.mk (Kd.R_elder' (by (with_reducible repeat (first | apply Kd.R_alloc | apply Kd.R_drewN | apply Kd.R_drew)); exact HO232.out) (Kd.R_base ho0) hb); have n7_ := Aside0.mk (Kd.R_elder' (by (with_reducible repeat (first | apply Kd.R_alloc | apply Kd.R_drewN | apply Kd.R_drew)); exact HO235.out) (Kd.R_base ho0) hb); have n8_ := Aside0.mk (Kd.R_below (by (with_reducible repeat (first | apply Kd.R_alloc | apply Kd.R_drewN | apply Kd.R_drew)); exact HO238.out) hb); have n9_ := Aside0.mk (Kd.R_lower (Kd.R_new' (Kd.R_new' (Kd.R_new' (Kd.R_new' (Kd.R_new' (Kd.R_new' ho0 (Kd.R_lt (by (with_reducible repeat (first | apply Kd.R_alloc | apply Kd.R_drewN | apply Kd.R_drew)); exact HO_5.out))) (Kd.R_lt (by (with_reducible repeat (first | apply Kd.R_alloc | apply Kd.R_drewN | apply Kd.R_drew)); exact HO_10.out))) (Kd.R_lt (by (with_reducible repeat (first | apply Kd.R_alloc | apply Kd.R_drewN | apply Kd.R_drew)); exact HO_11.out))) (Kd.R_lt (by (with_reducible repeat (first | apply Kd.R_alloc | apply Kd.R_drewN | apply Kd.R_drew)); exact HO_12.out))) (Kd.R_lt (by (with_reducible repeat (first | apply Kd.R_alloc | apply Kd.R_drewN | apply Kd.R_drew)); exact HO232.out))) (Kd.R_lt (by (with_reducible repeat (first | apply Kd.R_alloc | apply Kd.R_drewN | apply Kd.R_drew)); exact HO235.out))) (below_size (by repeat (first | (with_reducible first | exact HB.out | apply below_alloc | apply pw_below_drewN | apply below_drew1) | exact HB.out)))); have n10_ := Aside0.mk (below_step (by repeat (first | (with_reducible first | exact HB.out | apply below_alloc | apply pw_below_drewN | apply below_drew1) | exact HB.out)) hb); clear HO_5; clear HO_7; clear HO_8; clear HO_10; clear HO_11; clear HO_12; clear HO232; clear HO235; clear HO238; clear HB; have HO_5 := n0_; have HO_7 := n1_; have HO_8 := n2_; have HO_10 := n3_; have HO_11 := n4_; have HO_12 := n5_; have HO232 := n6_; have HO235 := n7_; have HO238 := n8_; have HO241 := n9_; have HB := n10_; clear n0_ n1_ n2_ n3_ n4_ n5_ n6_ n7_ n8_ n9_ n10_; (try clear hb); (try clear hb2); (try clear hk); (try clear hi); (try clear ho0)))
                        go_loopg [17, 18] k2 (fun kq v17 v18 w' => ∃ (x17_3 : Bool) (x18_3 : Int), v17 = .bool x17_3 ∧ v18 = .int .i64 x18_3 ∧ Aside0 (remontoirlaw27_OrdersLeft.l2 kq a1 t205 x8_1 t216 x12_2 t236 t239 x17_3 x18_3 = some r) ∧ Aside0 (kq ≤ k2) ∧ Aside0 (Kd.R (Kd.int .i64) 3 w' w.heap.size (fun k_ => some k_ ≠ (u8 : Value).ownBlock ∧ some k_ ≠ (v237 : Value).ownBlock) v206 t205) ∧ Aside0 (Kd.R (Kd.int .i64) 3 w' w.heap.size (fun k_ => some k_ ≠ (v206 : Value).ownBlock ∧ some k_ ≠ (v237 : Value).ownBlock) u8 x8_1) ∧ Aside0 (Kd.R k35 35 w' w.heap.size (fun k_ => some k_ ≠ (u12 : Value).ownBlock ∧ some k_ ≠ (v240 : Value).ownBlock) v217 t216) ∧ Aside0 (Kd.R k35 35 w' w.heap.size (fun k_ => some k_ ≠ (v217 : Value).ownBlock ∧ some k_ ≠ (v240 : Value).ownBlock) u12 x12_2) ∧ Aside0 (Kd.R (Kd.int .i64) 3 w' w.heap.size (fun k_ => some k_ ≠ (v206 : Value).ownBlock ∧ some k_ ≠ (u8 : Value).ownBlock) v237 t236) ∧ Aside0 (Kd.R k35 35 w' w.heap.size (fun k_ => some k_ ≠ (v217 : Value).ownBlock ∧ some k_ ≠ (u12 : Value).ownBlock) v240 t239) ∧ Aside0 (Below w.heap.size w w'))
                        case atStart => exact ⟨(false), (0), (by first | rfl | (simp; done) | (simp [*]; done)), (by first | rfl | (simp; done) | (simp [*]; done)), H', ⟨Nat.le_refl _⟩, ⟨by (with_reducible repeat (first | apply Kd.R_alloc | apply Kd.R_drewN | apply Kd.R_drew)); exact HO_7.out⟩, ⟨by (with_reducible repeat (first | apply Kd.R_alloc | apply Kd.R_drewN | apply Kd.R_drew)); exact HO_8.out⟩, ⟨by (with_reducible repeat (first | apply Kd.R_alloc | apply Kd.R_drewN | apply Kd.R_drew)); exact Kd.R_mono HO_11.out (fun _ hk => ⟨hk.1.1.2.2.1, hk.2⟩)⟩, ⟨by (with_reducible repeat (first | apply Kd.R_alloc | apply Kd.R_drewN | apply Kd.R_drew)); exact Kd.R_mono HO_12.out (fun _ hk => ⟨hk.1.1.2.2.1, hk.2⟩)⟩, ⟨by (with_reducible repeat (first | apply Kd.R_alloc | apply Kd.R_drewN | apply Kd.R_drew)); exact Kd.R_mono HO238.out (fun _ hk => ⟨hk.1.2, hk.2⟩)⟩, ⟨by (with_reducible repeat (first | apply Kd.R_alloc | apply Kd.R_drewN | apply Kd.R_drew)); exact Kd.R_mono HO241.out (fun _ hk => ⟨hk.1.1.1.2, hk.1.1.2⟩)⟩, ⟨by repeat (first | (with_reducible first | exact HB.out | apply below_alloc | apply pw_below_drewN | apply below_drew1) | exact HB.out)⟩⟩
                        case round =>
                          clear H'
                          try clear c1
                          try clear c2
                          try clear p2
                          try clear q2
                          try clear hx2
                          try clear c3
                          try clear c3b0
                          try clear c3b1
                          try clear c4
                          try clear c5
                          try clear c6
                          try clear p6
                          try clear c7
                          try clear c10
                          try clear c11
                          try clear c17
                          try clear c17b0
                          try clear c18
                          try clear c18b0
                          try clear c19
                          try clear c19b0
                          try clear c19b1
                          try clear p20
                          try clear q20
                          try clear hx20
                          try clear c21
                          try clear p21
                          try clear q21
                          try clear hx21
                          try clear p22
                          try clear q22
                          try clear hx22
                          try clear c29
                          try clear c29b0
                          try clear c30
                          try clear c30b0
                          try clear c31
                          try clear c31b0
                          try clear c31b1
                          try clear c33
                          try clear c36
                          try clear c37
                          try clear hx208_0
                          try clear hx209_0
                          try clear hx219_0
                          try clear hx219_1
                          try clear hx219_2
                          try clear hx219_3
                          try clear hx219_4
                          try clear hx220_0
                          try clear hx220_1
                          try clear hx220_2
                          try clear hx220_3
                          try clear hx220_4
                          try clear p2
                          try clear p20
                          try clear p208
                          try clear p209
                          try clear p219
                          try clear p220
                          try clear p6
                          try clear q2
                          try clear q20
                          try clear q208
                          try clear q209
                          try clear q219
                          try clear q220
                          obtain ⟨x17_3, x18_3, rfl, rfl, HA, HK3, HO_7, HO_8, HO_11, HO_12, HO_15, HO_16, HB⟩ := hrel
                          cases gk with
                          | zero => exact absurd HA.out (by simp [remontoirlaw27_OrdersLeft.l2])
                          | succ k3 =>
                            have H := HA.out
                            clear HA
                            simp only [remontoirlaw27_OrdersLeft.l2] at H
                            by_cases c51 : x18_3 < (t236.length : Int)
                            · rw [if_pos c51] at H
                              have c51b0 : decide (x18_3 < (t236.length : Int)) = true := decide_eq_true c51
                              clear c51
                              by_cases c52 : x17_3 = true
                              · subst c52
                                have H1 : (remontoirlaw27_OrdersLeft.l2 k3 a1 t205 x8_1 t216 x12_2 t236 t239 true (wrap64 (x18_3 + 1))) = some r := by rw [if_pos rfl] at H; exact H
                                clear H
                                have H := H1
                                clear H1
                                have H' := Aside0.mk H
                                clear H
                                obtain ⟨Ao53, co53, eo53⟩ := Kd.R_slice HO_15.out
                                subst eo53
                                go_wp2
                                go_roundg k3
                                case measure => have := HK1.out; have := HK2.out; have := HK3.out; omega
                                case rel => exact ⟨(true), (wrap64 (x18_3 + 1)), (by first | rfl | (simp; done) | (simp [*]; done)), (by first | rfl | (simp; done) | (simp [*]; done)), H', ⟨by have := HK1.out; have := HK2.out; have := HK3.out; omega⟩, ⟨by (with_reducible repeat (first | apply Kd.R_alloc | apply Kd.R_drewN | apply Kd.R_drew)); exact HO_7.out⟩, ⟨by (with_reducible repeat (first | apply Kd.R_alloc | apply Kd.R_drewN | apply Kd.R_drew)); exact HO_8.out⟩, ⟨by (with_reducible repeat (first | apply Kd.R_alloc | apply Kd.R_drewN | apply Kd.R_drew)); exact HO_11.out⟩, ⟨by (with_reducible repeat (first | apply Kd.R_alloc | apply Kd.R_drewN | apply Kd.R_drew)); exact HO_12.out⟩, ⟨by (with_reducible repeat (first | apply Kd.R_alloc | apply Kd.R_drewN | apply Kd.R_drew)); exact HO_15.out⟩, ⟨by (with_reducible repeat (first | apply Kd.R_alloc | apply Kd.R_drewN | apply Kd.R_drew)); exact HO_16.out⟩, ⟨by repeat (first | (with_reducible first | exact HB.out | apply below_alloc | apply pw_below_drewN | apply below_drew1) | exact HB.out)⟩⟩
                              · replace c52 := Bool.eq_false_iff.mpr c52
                                subst c52
                                have H1 : (if 0 ≤ x18_3 then (remontoirlaw27_OrdersLeft.l2 k3 a1 t205 x8_1 t216 x12_2 t236 t239 ((rd t236 x18_3) == a1) (wrap64 (x18_3 + 1))) else (none)) = some r := by rw [if_neg (show ¬ (false = true) by decide)] at H; exact H
                                clear H
                                have H := H1
                                clear H1
                                by_cases c54 : 0 ≤ x18_3
                                · rw [if_pos c54] at H
                                  have c54b0 : decide (0 ≤ x18_3) = true := decide_eq_true c54
                                  clear c54
                                  have H' := Aside0.mk H
                                  clear H
                                  obtain ⟨Ao55, co55, eo55⟩ := Kd.R_slice HO_15.out
                                  subst eo55
                                  have p242 : 0 ≤ (x18_3 : Int) := of_decide_eq_true (by first | (with_reducible assumption) | assumption)
                                  have q242 : x18_3 < (t236.length : Int) := of_decide_eq_true (by first | (with_reducible assumption) | assumption)
                                  obtain ⟨ad242, e242, hx242_0⟩ := Kd.at_int (Kd.R_reads' HO_15.out).2.2 x18_3 p242 q242
                                  cases e242
                                  replace p242 := eq_true p242
                                  replace q242 := eq_true q242
                                  go_wp2
                                  go_roundg k3
                                  case measure => have := HK1.out; have := HK2.out; have := HK3.out; omega
                                  case rel => exact ⟨(((rd t236 x18_3) == a1)), (wrap64 (x18_3 + 1)), (by first | rfl | (simp; done) | (simp [*]; done)), (by first | rfl | (simp; done) | (simp [*]; done)), H', ⟨by have := HK1.out; have := HK2.out; have := HK3.out; omega⟩, ⟨by (with_reducible repeat (first | apply Kd.R_alloc | apply Kd.R_drewN | apply Kd.R_drew)); exact HO_7.out⟩, ⟨by (with_reducible repeat (first | apply Kd.R_alloc | apply Kd.R_drewN | apply Kd.R_drew)); exact HO_8.out⟩, ⟨by (with_reducible repeat (first | apply Kd.R_alloc | apply Kd.R_drewN | apply Kd.R_drew)); exact HO_11.out⟩, ⟨by (with_reducible repeat (first | apply Kd.R_alloc | apply Kd.R_drewN | apply Kd.R_drew)); exact HO_12.out⟩, ⟨by (with_reducible repeat (first | apply Kd.R_alloc | apply Kd.R_drewN | apply Kd.R_drew)); exact HO_15.out⟩, ⟨by (with_reducible repeat (first | apply Kd.R_alloc | apply Kd.R_drewN | apply Kd.R_drew)); exact HO_16.out⟩, ⟨by repeat (first | (with_reducible first | exact HB.out | apply below_alloc | apply pw_below_drewN | apply below_drew1) | exact HB.out)⟩⟩
                                · rw [if_neg c54] at H
                                  exact absurd H (by simp)
                            · rw [if_neg c51] at H
                              have c51b0 : decide (x18_3 < (t236.length : Int)) = false := decide_eq_false c51
                              clear c51
                              replace H := Option.bind_eq_some_iff.mp H
                              obtain ⟨t243, A560, H⟩ := H
                              replace H : (if t243 = true then ((remontoirkeep_Orders.f k3 t216 x12_2).bind fun t244 => (if t244 = true then (if x17_3 = true then (if (t236.length : Int) = (wrap64 ((t205.length : Int) + 1)) then (if (t239.length : Int) = (wrap64 ((t216.length : Int) + 1)) then (if 0 ≤ (wrap64 ((t239.length : Int) - 1)) then (if (wrap64 ((t239.length : Int) - 1)) < (t239.length : Int) then (if ((rd_T35 t239 (wrap64 ((t239.length : Int) - 1))).f1) = a1 then ((remontoirlaw27_wakes.f k3).bind fun t246 => (some t246)) else (some false)) else (none)) else (none)) else (some false)) else (some false)) else (some false)) else (some false))) else (some false)) = some r := H
                              have A56 := Aside0.mk A560
                              clear A560
                              by_cases c57 : t243 = true
                              · subst c57
                                have H1 : ((remontoirkeep_Orders.f k3 t216 x12_2).bind fun t244 => (if t244 = true then (if x17_3 = true then (if (t236.length : Int) = (wrap64 ((t205.length : Int) + 1)) then (if (t239.length : Int) = (wrap64 ((t216.length : Int) + 1)) then (if 0 ≤ (wrap64 ((t239.length : Int) - 1)) then (if (wrap64 ((t239.length : Int) - 1)) < (t239.length : Int) then (if ((rd_T35 t239 (wrap64 ((t239.length : Int) - 1))).f1) = a1 then ((remontoirlaw27_wakes.f k3).bind fun t246 => (some t246)) else (some false)) else (none)) else (none)) else (some false)) else (some false)) else (some false)) else (some false))) = some r := by rw [if_pos rfl] at H; exact H
                                clear H
                                have H := H1
                                clear H1
                                replace H := Option.bind_eq_some_iff.mp H
                                obtain ⟨t244, A580, H⟩ := H
                                replace H : (if t244 = true then (if x17_3 = true then (if (t236.length : Int) = (wrap64 ((t205.length : Int) + 1)) then (if (t239.length : Int) = (wrap64 ((t216.length : Int) + 1)) then (if 0 ≤ (wrap64 ((t239.length : Int) - 1)) then (if (wrap64 ((t239.length : Int) - 1)) < (t239.length : Int) then (if ((rd_T35 t239 (wrap64 ((t239.length : Int) - 1))).f1) = a1 then ((remontoirlaw27_wakes.f k3).bind fun t246 => (some t246)) else (some false)) else (none)) else (none)) else (some false)) else (some false)) else (some false)) else (some false)) = some r := H
                                have A58 := Aside0.mk A580
                                clear A580
                                by_cases c59 : t244 = true
                                · subst c59
                                  have H1 : (if x17_3 = true then (if (t236.length : Int) = (wrap64 ((t205.length : Int) + 1)) then (if (t239.length : Int) = (wrap64 ((t216.length : Int) + 1)) then (if 0 ≤ (wrap64 ((t239.length : Int) - 1)) then (if (wrap64 ((t239.length : Int) - 1)) < (t239.length : Int) then (if ((rd_T35 t239 (wrap64 ((t239.length : Int) - 1))).f1) = a1 then ((remontoirlaw27_wakes.f k3).bind fun t246 => (some t246)) else (some false)) else (none)) else (none)) else (some false)) else (some false)) else (some false)) = some r := by rw [if_pos rfl] at H; exact H
                                  clear H
                                  have H := H1
                                  clear H1
                                  by_cases c60 : x17_3 = true
                                  · subst c60
                                    have H1 : (if (t236.length : Int) = (wrap64 ((t205.length : Int) + 1)) then (if (t239.length : Int) = (wrap64 ((t216.length : Int) + 1)) then (if 0 ≤ (wrap64 ((t239.length : Int) - 1)) then (if (wrap64 ((t239.length : Int) - 1)) < (t239.length : Int) then (if ((rd_T35 t239 (wrap64 ((t239.length : Int) - 1))).f1) = a1 then ((remontoirlaw27_wakes.f k3).bind fun t246 => (some t246)) else (some false)) else (none)) else (none)) else (some false)) else (some false)) = some r := by rw [if_pos rfl] at H; exact H
                                    clear H
                                    have H := H1
                                    clear H1
                                    by_cases c61 : (t236.length : Int) = (wrap64 ((t205.length : Int) + 1))
                                    · rw [if_pos c61] at H
                                      have c61b0 : ((t236.length : Int) == (wrap64 ((t205.length : Int) + 1))) = true := beq_iff_eq.mpr c61
                                      have c61b1 : ((t236.length : Int) != (wrap64 ((t205.length : Int) + 1))) = false := bne_eq_false_iff_eq.mpr c61
                                      clear c61
                                      by_cases c62 : (t239.length : Int) = (wrap64 ((t216.length : Int) + 1))
                                      · rw [if_pos c62] at H
                                        have c62b0 : ((t239.length : Int) == (wrap64 ((t216.length : Int) + 1))) = true := beq_iff_eq.mpr c62
                                        have c62b1 : ((t239.length : Int) != (wrap64 ((t216.length : Int) + 1))) = false := bne_eq_false_iff_eq.mpr c62
                                        clear c62
                                        obtain ⟨ji63, hji63⟩ : ∃ j_ : Int, (wrap64 ((t239.length : Int) - 1)) = j_ := ⟨_, rfl⟩
                                        replace H : (if 0 ≤ (ji63) then (if (ji63) < (t239.length : Int) then (if ((rd_T35 t239 (ji63)).f1) = a1 then ((remontoirlaw27_wakes.f k3).bind fun t246 => (some t246)) else (some false)) else (none)) else (none)) = some r := by first | (rw [hji63] at H; exact H) | (simp only [hji63] at H ⊢; exact H)
                                        (try rw [hji63] at A56)
                                        (try rw [hji63] at A58)
                                        have hji63w : (IntKind.i64.wrap ((t239.length : Int) - 1)) = ji63 := (i64_w _).trans hji63
                                        by_cases c64 : 0 ≤ (ji63)
                                        · rw [if_pos c64] at H
                                          have c64b0 : decide (0 ≤ (ji63)) = true := decide_eq_true c64
                                          clear c64
                                          by_cases c65 : (ji63) < (t239.length : Int)
                                          · rw [if_pos c65] at H
                                            have c65b0 : decide ((ji63) < (t239.length : Int)) = true := decide_eq_true c65
                                            clear c65
                                            by_cases c66 : ((rd_T35 t239 (ji63)).f1) = a1
                                            · rw [if_pos c66] at H
                                              have c66b0 : (((rd_T35 t239 (ji63)).f1) == a1) = true := beq_iff_eq.mpr c66
                                              have c66b1 : (((rd_T35 t239 (ji63)).f1) != a1) = false := bne_eq_false_iff_eq.mpr c66
                                              clear c66
                                              replace H := Option.bind_eq_some_iff.mp H
                                              obtain ⟨t246, A670, H⟩ := H
                                              replace H : (some t246) = some r := H
                                              have A67 := Aside0.mk A670
                                              clear A670
                                              obtain rfl := Option.some.inj H
                                              obtain ⟨Ao68, co68, eo68⟩ := Kd.R_slice HO_15.out
                                              subst eo68
                                              obtain ⟨Ao69, co69, eo69⟩ := Kd.R_slice HO_7.out
                                              subst eo69
                                              obtain ⟨Ao70, co70, eo70⟩ := Kd.R_slice HO_8.out
                                              subst eo70
                                              go_wp2_with (first | ((with_reducible refine gate_callee (f := 12) rfl ?_); refine goesL_ (some 107) rfl rfl Tryd.func12 (by kernel_rfl) rfl #[.slice Ao69 t205.length co69, .slice Ao70 x8_1.length co70] rfl (by (try simp only [List.map_toArray, List.map_cons, List.map_nil]); first | done | rfl | (simp only [List.length_drop, List.length_take]; rfl)) ?_; (with_reducible refine (remontoirkeep_Ints.calls k3 _ _ t205 _ _ x8_1 true _ ?side1 ?side2 ?side3 ?side4 A56.out).mono ?_); (case side1 => repeat (first | exact (Kd.R_reads' HO_7.out).2.2 | (with_reducible refine Kd.C_alloc ?_ _) | (with_reducible refine Kd.C_drewN ?_ _) | (with_reducible refine Kd.C_drew ?_))); (case side2 => exact (Kd.R_reads' HO_7.out).2.1); (case side3 => repeat (first | exact (Kd.R_reads' HO_8.out).2.2 | (with_reducible refine Kd.C_alloc ?_ _) | (with_reducible refine Kd.C_drewN ?_ _) | (with_reducible refine Kd.C_drew ?_))); (case side4 => exact (Kd.R_reads' HO_8.out).2.1); rintro e w' ⟨rfl, ⟨nd, rfl⟩⟩; refine ⟨_, rfl, ?_⟩; obtain ⟨Ao71, co71, eo71⟩ := Kd.R_slice HO_11.out; subst eo71; obtain ⟨Ao72, co72, eo72⟩ := Kd.R_slice HO_12.out; subst eo72) | (go_at_call 9; (with_reducible refine (remontoirkeep_Orders.calls k3 _ _ t216 _ _ x12_2 true _ ?side1 ?side2 ?side3 ?side4 A58.out).mono ?_); (case side1 => repeat (first | exact (Kd.R_reads' HO_11.out).2.2 | (with_reducible refine Kd.C_alloc ?_ _) | (with_reducible refine Kd.C_drewN ?_ _) | (with_reducible refine Kd.C_drew ?_))); (case side2 => exact (Kd.R_reads' HO_11.out).2.1); (case side3 => repeat (first | exact (Kd.R_reads' HO_12.out).2.2 | (with_reducible refine Kd.C_alloc ?_ _) | (with_reducible refine Kd.C_drewN ?_ _) | (with_reducible refine Kd.C_drew ?_))); (case side4 => exact (Kd.R_reads' HO_12.out).2.1); rintro e w' ⟨rfl, ⟨nd, rfl⟩⟩; obtain ⟨Ao73, co73, eo73⟩ := Kd.R_slice HO_16.out; subst eo73; have p245 : 0 ≤ ((ji63) : Int) := of_decide_eq_true (by first | (with_reducible assumption) | assumption); have q245 : (ji63) < (t239.length : Int) := of_decide_eq_true (by first | (with_reducible assumption) | assumption); obtain ⟨ad245, e245, hx245_0, hx245_1, hx245_2, hx245_3, hx245_4⟩ := at_T35 (Kd.R_reads' HO_16.out).2.2 (ji63) p245 q245; cases e245; replace p245 := eq_true p245; replace q245 := eq_true q245) | (go_at_call 7; (with_reducible refine (remontoirlaw27_wakes.calls k3  t246 _ A67.out).mono ?_); rintro e w74 ⟨rfl, hb⟩; have n0_ := Aside0.mk (Kd.R_below (by (with_reducible repeat (first | apply Kd.R_alloc | apply Kd.R_drewN | apply Kd.R_drew)); exact HO_7.out) hb); have n1_ := Aside0.mk (Kd.R_below (by (with_reducible repeat (first | apply Kd.R_alloc | apply Kd.R_drewN | apply Kd.R_drew)); exact HO_8.out) hb); have n2_ := Aside0.mk (Kd.R_below (by (with_reducible repeat (first | apply Kd.R_alloc | apply Kd.R_drewN | apply Kd.R_drew)); exact HO_11.out) hb); have n3_ := Aside0.mk (Kd.R_below (by (with_reducible repeat (first | apply Kd.R_alloc | apply Kd.R_drewN | apply Kd.R_drew)); exact HO_12.out) hb); have n4_ := Aside0.mk (Kd.R_below (by (with_reducible repeat (first | apply Kd.R_alloc | apply Kd.R_drewN | apply Kd.R_drew)); exact HO_15.out) hb); have n5_ := Aside0.mk (Kd.R_below (by (with_reducible repeat (first | apply Kd.R_alloc | apply Kd.R_drewN | apply Kd.R_drew)); exact HO_16.out) hb); have n6_ := Aside0.mk (below_step (by repeat (first | (with_reducible first | exact HB.out | apply below_alloc | apply pw_below_drewN | apply below_drew1) | exact HB.out)) hb); clear HO_7; clear HO_8; clear HO_11; clear HO_12; clear HO_15; clear HO_16; clear HB; have HO_7 := n0_; have HO_8 := n1_; have HO_11 := n2_; have HO_12 := n3_; have HO_15 := n4_; have HO_16 := n5_; have HB := n6_; clear n0_ n1_ n2_ n3_ n4_ n5_ n6_; (try clear hb); (try clear hb2); (try clear hk); (try clear hi)))
                                              go_ret
                                              exact ⟨by first | rfl | (simp [errW_none, errW_some] <;> rfl) | (simp only [← hji63]; first | rfl | (simp [errW_none, errW_some] <;> rfl)) | (simp [*, errW_none, errW_some] <;> rfl), by repeat (first | (with_reducible first | exact HB.out | apply below_alloc | apply pw_below_drewN | apply below_drew1) | exact HB.out)⟩
                                            · rw [if_neg c66] at H
                                              have c66b0 : (((rd_T35 t239 (ji63)).f1) == a1) = false := beq_eq_false_iff_ne.mpr c66
                                              have c66b1 : (((rd_T35 t239 (ji63)).f1) != a1) = true := bne_iff_ne.mpr c66
                                              obtain rfl := Option.some.inj H
                                              obtain ⟨Ao75, co75, eo75⟩ := Kd.R_slice HO_15.out
                                              subst eo75
                                              obtain ⟨Ao76, co76, eo76⟩ := Kd.R_slice HO_7.out
                                              subst eo76
                                              obtain ⟨Ao77, co77, eo77⟩ := Kd.R_slice HO_8.out
                                              subst eo77
                                              go_wp2_with (first | ((with_reducible refine gate_callee (f := 12) rfl ?_); refine goesL_ (some 107) rfl rfl Tryd.func12 (by kernel_rfl) rfl #[.slice Ao76 t205.length co76, .slice Ao77 x8_1.length co77] rfl (by (try simp only [List.map_toArray, List.map_cons, List.map_nil]); first | done | rfl | (simp only [List.length_drop, List.length_take]; rfl)) ?_; (with_reducible refine (remontoirkeep_Ints.calls k3 _ _ t205 _ _ x8_1 true _ ?side1 ?side2 ?side3 ?side4 A56.out).mono ?_); (case side1 => repeat (first | exact (Kd.R_reads' HO_7.out).2.2 | (with_reducible refine Kd.C_alloc ?_ _) | (with_reducible refine Kd.C_drewN ?_ _) | (with_reducible refine Kd.C_drew ?_))); (case side2 => exact (Kd.R_reads' HO_7.out).2.1); (case side3 => repeat (first | exact (Kd.R_reads' HO_8.out).2.2 | (with_reducible refine Kd.C_alloc ?_ _) | (with_reducible refine Kd.C_drewN ?_ _) | (with_reducible refine Kd.C_drew ?_))); (case side4 => exact (Kd.R_reads' HO_8.out).2.1); rintro e w' ⟨rfl, ⟨nd, rfl⟩⟩; refine ⟨_, rfl, ?_⟩; obtain ⟨Ao78, co78, eo78⟩ := Kd.R_slice HO_11.out; subst eo78; obtain ⟨Ao79, co79, eo79⟩ := Kd.R_slice HO_12.out; subst eo79) | (go_at_call 9; (with_reducible refine (remontoirkeep_Orders.calls k3 _ _ t216 _ _ x12_2 true _ ?side1 ?side2 ?side3 ?side4 A58.out).mono ?_); (case side1 => repeat (first | exact (Kd.R_reads' HO_11.out).2.2 | (with_reducible refine Kd.C_alloc ?_ _) | (with_reducible refine Kd.C_drewN ?_ _) | (with_reducible refine Kd.C_drew ?_))); (case side2 => exact (Kd.R_reads' HO_11.out).2.1); (case side3 => repeat (first | exact (Kd.R_reads' HO_12.out).2.2 | (with_reducible refine Kd.C_alloc ?_ _) | (with_reducible refine Kd.C_drewN ?_ _) | (with_reducible refine Kd.C_drew ?_))); (case side4 => exact (Kd.R_reads' HO_12.out).2.1); rintro e w' ⟨rfl, ⟨nd, rfl⟩⟩; obtain ⟨Ao80, co80, eo80⟩ := Kd.R_slice HO_16.out; subst eo80; have p245 : 0 ≤ ((ji63) : Int) := of_decide_eq_true (by first | (with_reducible assumption) | assumption); have q245 : (ji63) < (t239.length : Int) := of_decide_eq_true (by first | (with_reducible assumption) | assumption); obtain ⟨ad245, e245, hx245_0, hx245_1, hx245_2, hx245_3, hx245_4⟩ := at_T35 (Kd.R_reads' HO_16.out).2.2 (ji63) p245 q245; cases e245; replace p245 := eq_true p245; replace q245 := eq_true q245))
                                              go_ret
                                              exact ⟨by first | rfl | (simp [errW_none, errW_some] <;> rfl) | (simp only [← hji63]; first | rfl | (simp [errW_none, errW_some] <;> rfl)) | (simp [*, errW_none, errW_some] <;> rfl), by repeat (first | (with_reducible first | exact HB.out | apply below_alloc | apply pw_below_drewN | apply below_drew1) | exact HB.out)⟩
                                          · rw [if_neg c65] at H
                                            exact absurd H (by simp)
                                        · rw [if_neg c64] at H
                                          exact absurd H (by simp)
                                      · rw [if_neg c62] at H
                                        have c62b0 : ((t239.length : Int) == (wrap64 ((t216.length : Int) + 1))) = false := beq_eq_false_iff_ne.mpr c62
                                        have c62b1 : ((t239.length : Int) != (wrap64 ((t216.length : Int) + 1))) = true := bne_iff_ne.mpr c62
                                        obtain rfl := Option.some.inj H
                                        obtain ⟨Ao81, co81, eo81⟩ := Kd.R_slice HO_15.out
                                        subst eo81
                                        obtain ⟨Ao82, co82, eo82⟩ := Kd.R_slice HO_7.out
                                        subst eo82
                                        obtain ⟨Ao83, co83, eo83⟩ := Kd.R_slice HO_8.out
                                        subst eo83
                                        go_wp2_with (first | ((with_reducible refine gate_callee (f := 12) rfl ?_); refine goesL_ (some 107) rfl rfl Tryd.func12 (by kernel_rfl) rfl #[.slice Ao82 t205.length co82, .slice Ao83 x8_1.length co83] rfl (by (try simp only [List.map_toArray, List.map_cons, List.map_nil]); first | done | rfl | (simp only [List.length_drop, List.length_take]; rfl)) ?_; (with_reducible refine (remontoirkeep_Ints.calls k3 _ _ t205 _ _ x8_1 true _ ?side1 ?side2 ?side3 ?side4 A56.out).mono ?_); (case side1 => repeat (first | exact (Kd.R_reads' HO_7.out).2.2 | (with_reducible refine Kd.C_alloc ?_ _) | (with_reducible refine Kd.C_drewN ?_ _) | (with_reducible refine Kd.C_drew ?_))); (case side2 => exact (Kd.R_reads' HO_7.out).2.1); (case side3 => repeat (first | exact (Kd.R_reads' HO_8.out).2.2 | (with_reducible refine Kd.C_alloc ?_ _) | (with_reducible refine Kd.C_drewN ?_ _) | (with_reducible refine Kd.C_drew ?_))); (case side4 => exact (Kd.R_reads' HO_8.out).2.1); rintro e w' ⟨rfl, ⟨nd, rfl⟩⟩; refine ⟨_, rfl, ?_⟩; obtain ⟨Ao84, co84, eo84⟩ := Kd.R_slice HO_11.out; subst eo84; obtain ⟨Ao85, co85, eo85⟩ := Kd.R_slice HO_12.out; subst eo85) | (go_at_call 9; (with_reducible refine (remontoirkeep_Orders.calls k3 _ _ t216 _ _ x12_2 true _ ?side1 ?side2 ?side3 ?side4 A58.out).mono ?_); (case side1 => repeat (first | exact (Kd.R_reads' HO_11.out).2.2 | (with_reducible refine Kd.C_alloc ?_ _) | (with_reducible refine Kd.C_drewN ?_ _) | (with_reducible refine Kd.C_drew ?_))); (case side2 => exact (Kd.R_reads' HO_11.out).2.1); (case side3 => repeat (first | exact (Kd.R_reads' HO_12.out).2.2 | (with_reducible refine Kd.C_alloc ?_ _) | (with_reducible refine Kd.C_drewN ?_ _) | (with_reducible refine Kd.C_drew ?_))); (case side4 => exact (Kd.R_reads' HO_12.out).2.1); rintro e w' ⟨rfl, ⟨nd, rfl⟩⟩; obtain ⟨Ao86, co86, eo86⟩ := Kd.R_slice HO_16.out; subst eo86))
                                        go_ret
                                        exact ⟨by first | rfl | (simp [errW_none, errW_some] <;> rfl) | (simp [*, errW_none, errW_some] <;> rfl), by repeat (first | (with_reducible first | exact HB.out | apply below_alloc | apply pw_below_drewN | apply below_drew1) | exact HB.out)⟩
                                    · rw [if_neg c61] at H
                                      have c61b0 : ((t236.length : Int) == (wrap64 ((t205.length : Int) + 1))) = false := beq_eq_false_iff_ne.mpr c61
                                      have c61b1 : ((t236.length : Int) != (wrap64 ((t205.length : Int) + 1))) = true := bne_iff_ne.mpr c61
                                      obtain rfl := Option.some.inj H
                                      obtain ⟨Ao87, co87, eo87⟩ := Kd.R_slice HO_15.out
                                      subst eo87
                                      obtain ⟨Ao88, co88, eo88⟩ := Kd.R_slice HO_7.out
                                      subst eo88
                                      obtain ⟨Ao89, co89, eo89⟩ := Kd.R_slice HO_8.out
                                      subst eo89
                                      go_wp2_with (first | ((with_reducible refine gate_callee (f := 12) rfl ?_); refine goesL_ (some 107) rfl rfl Tryd.func12 (by kernel_rfl) rfl #[.slice Ao88 t205.length co88, .slice Ao89 x8_1.length co89] rfl (by (try simp only [List.map_toArray, List.map_cons, List.map_nil]); first | done | rfl | (simp only [List.length_drop, List.length_take]; rfl)) ?_; (with_reducible refine (remontoirkeep_Ints.calls k3 _ _ t205 _ _ x8_1 true _ ?side1 ?side2 ?side3 ?side4 A56.out).mono ?_); (case side1 => repeat (first | exact (Kd.R_reads' HO_7.out).2.2 | (with_reducible refine Kd.C_alloc ?_ _) | (with_reducible refine Kd.C_drewN ?_ _) | (with_reducible refine Kd.C_drew ?_))); (case side2 => exact (Kd.R_reads' HO_7.out).2.1); (case side3 => repeat (first | exact (Kd.R_reads' HO_8.out).2.2 | (with_reducible refine Kd.C_alloc ?_ _) | (with_reducible refine Kd.C_drewN ?_ _) | (with_reducible refine Kd.C_drew ?_))); (case side4 => exact (Kd.R_reads' HO_8.out).2.1); rintro e w' ⟨rfl, ⟨nd, rfl⟩⟩; refine ⟨_, rfl, ?_⟩; obtain ⟨Ao90, co90, eo90⟩ := Kd.R_slice HO_11.out; subst eo90; obtain ⟨Ao91, co91, eo91⟩ := Kd.R_slice HO_12.out; subst eo91) | (go_at_call 9; (with_reducible refine (remontoirkeep_Orders.calls k3 _ _ t216 _ _ x12_2 true _ ?side1 ?side2 ?side3 ?side4 A58.out).mono ?_); (case side1 => repeat (first | exact (Kd.R_reads' HO_11.out).2.2 | (with_reducible refine Kd.C_alloc ?_ _) | (with_reducible refine Kd.C_drewN ?_ _) | (with_reducible refine Kd.C_drew ?_))); (case side2 => exact (Kd.R_reads' HO_11.out).2.1); (case side3 => repeat (first | exact (Kd.R_reads' HO_12.out).2.2 | (with_reducible refine Kd.C_alloc ?_ _) | (with_reducible refine Kd.C_drewN ?_ _) | (with_reducible refine Kd.C_drew ?_))); (case side4 => exact (Kd.R_reads' HO_12.out).2.1); rintro e w' ⟨rfl, ⟨nd, rfl⟩⟩))
                                      go_ret
                                      exact ⟨by first | rfl | (simp [errW_none, errW_some] <;> rfl) | (simp [*, errW_none, errW_some] <;> rfl), by repeat (first | (with_reducible first | exact HB.out | apply below_alloc | apply pw_below_drewN | apply below_drew1) | exact HB.out)⟩
                                  · replace c60 := Bool.eq_false_iff.mpr c60
                                    subst c60
                                    have H1 : (some false) = some r := by rw [if_neg (show ¬ (false = true) by decide)] at H; exact H
                                    clear H
                                    have H := H1
                                    clear H1
                                    obtain rfl := Option.some.inj H
                                    obtain ⟨Ao92, co92, eo92⟩ := Kd.R_slice HO_15.out
                                    subst eo92
                                    obtain ⟨Ao93, co93, eo93⟩ := Kd.R_slice HO_7.out
                                    subst eo93
                                    obtain ⟨Ao94, co94, eo94⟩ := Kd.R_slice HO_8.out
                                    subst eo94
                                    go_wp2_with (first | ((with_reducible refine gate_callee (f := 12) rfl ?_); refine goesL_ (some 107) rfl rfl Tryd.func12 (by kernel_rfl) rfl #[.slice Ao93 t205.length co93, .slice Ao94 x8_1.length co94] rfl (by (try simp only [List.map_toArray, List.map_cons, List.map_nil]); first | done | rfl | (simp only [List.length_drop, List.length_take]; rfl)) ?_; (with_reducible refine (remontoirkeep_Ints.calls k3 _ _ t205 _ _ x8_1 true _ ?side1 ?side2 ?side3 ?side4 A56.out).mono ?_); (case side1 => repeat (first | exact (Kd.R_reads' HO_7.out).2.2 | (with_reducible refine Kd.C_alloc ?_ _) | (with_reducible refine Kd.C_drewN ?_ _) | (with_reducible refine Kd.C_drew ?_))); (case side2 => exact (Kd.R_reads' HO_7.out).2.1); (case side3 => repeat (first | exact (Kd.R_reads' HO_8.out).2.2 | (with_reducible refine Kd.C_alloc ?_ _) | (with_reducible refine Kd.C_drewN ?_ _) | (with_reducible refine Kd.C_drew ?_))); (case side4 => exact (Kd.R_reads' HO_8.out).2.1); rintro e w' ⟨rfl, ⟨nd, rfl⟩⟩; refine ⟨_, rfl, ?_⟩; obtain ⟨Ao95, co95, eo95⟩ := Kd.R_slice HO_11.out; subst eo95; obtain ⟨Ao96, co96, eo96⟩ := Kd.R_slice HO_12.out; subst eo96) | (go_at_call 9; (with_reducible refine (remontoirkeep_Orders.calls k3 _ _ t216 _ _ x12_2 true _ ?side1 ?side2 ?side3 ?side4 A58.out).mono ?_); (case side1 => repeat (first | exact (Kd.R_reads' HO_11.out).2.2 | (with_reducible refine Kd.C_alloc ?_ _) | (with_reducible refine Kd.C_drewN ?_ _) | (with_reducible refine Kd.C_drew ?_))); (case side2 => exact (Kd.R_reads' HO_11.out).2.1); (case side3 => repeat (first | exact (Kd.R_reads' HO_12.out).2.2 | (with_reducible refine Kd.C_alloc ?_ _) | (with_reducible refine Kd.C_drewN ?_ _) | (with_reducible refine Kd.C_drew ?_))); (case side4 => exact (Kd.R_reads' HO_12.out).2.1); rintro e w' ⟨rfl, ⟨nd, rfl⟩⟩))
                                    go_ret
                                    exact ⟨by first | rfl | (simp [errW_none, errW_some] <;> rfl) | (simp [*, errW_none, errW_some] <;> rfl), by repeat (first | (with_reducible first | exact HB.out | apply below_alloc | apply pw_below_drewN | apply below_drew1) | exact HB.out)⟩
                                · replace c59 := Bool.eq_false_iff.mpr c59
                                  subst c59
                                  have H1 : (some false) = some r := by rw [if_neg (show ¬ (false = true) by decide)] at H; exact H
                                  clear H
                                  have H := H1
                                  clear H1
                                  obtain rfl := Option.some.inj H
                                  obtain ⟨Ao97, co97, eo97⟩ := Kd.R_slice HO_15.out
                                  subst eo97
                                  obtain ⟨Ao98, co98, eo98⟩ := Kd.R_slice HO_7.out
                                  subst eo98
                                  obtain ⟨Ao99, co99, eo99⟩ := Kd.R_slice HO_8.out
                                  subst eo99
                                  go_wp2_with (first | ((with_reducible refine gate_callee (f := 12) rfl ?_); refine goesL_ (some 107) rfl rfl Tryd.func12 (by kernel_rfl) rfl #[.slice Ao98 t205.length co98, .slice Ao99 x8_1.length co99] rfl (by (try simp only [List.map_toArray, List.map_cons, List.map_nil]); first | done | rfl | (simp only [List.length_drop, List.length_take]; rfl)) ?_; (with_reducible refine (remontoirkeep_Ints.calls k3 _ _ t205 _ _ x8_1 true _ ?side1 ?side2 ?side3 ?side4 A56.out).mono ?_); (case side1 => repeat (first | exact (Kd.R_reads' HO_7.out).2.2 | (with_reducible refine Kd.C_alloc ?_ _) | (with_reducible refine Kd.C_drewN ?_ _) | (with_reducible refine Kd.C_drew ?_))); (case side2 => exact (Kd.R_reads' HO_7.out).2.1); (case side3 => repeat (first | exact (Kd.R_reads' HO_8.out).2.2 | (with_reducible refine Kd.C_alloc ?_ _) | (with_reducible refine Kd.C_drewN ?_ _) | (with_reducible refine Kd.C_drew ?_))); (case side4 => exact (Kd.R_reads' HO_8.out).2.1); rintro e w' ⟨rfl, ⟨nd, rfl⟩⟩; refine ⟨_, rfl, ?_⟩; obtain ⟨Ao100, co100, eo100⟩ := Kd.R_slice HO_11.out; subst eo100; obtain ⟨Ao101, co101, eo101⟩ := Kd.R_slice HO_12.out; subst eo101) | (go_at_call 9; (with_reducible refine (remontoirkeep_Orders.calls k3 _ _ t216 _ _ x12_2 false _ ?side1 ?side2 ?side3 ?side4 A58.out).mono ?_); (case side1 => repeat (first | exact (Kd.R_reads' HO_11.out).2.2 | (with_reducible refine Kd.C_alloc ?_ _) | (with_reducible refine Kd.C_drewN ?_ _) | (with_reducible refine Kd.C_drew ?_))); (case side2 => exact (Kd.R_reads' HO_11.out).2.1); (case side3 => repeat (first | exact (Kd.R_reads' HO_12.out).2.2 | (with_reducible refine Kd.C_alloc ?_ _) | (with_reducible refine Kd.C_drewN ?_ _) | (with_reducible refine Kd.C_drew ?_))); (case side4 => exact (Kd.R_reads' HO_12.out).2.1); rintro e w' ⟨rfl, ⟨nd, rfl⟩⟩))
                                  go_ret
                                  exact ⟨by first | rfl | (simp [errW_none, errW_some] <;> rfl) | (simp [*, errW_none, errW_some] <;> rfl), by repeat (first | (with_reducible first | exact HB.out | apply below_alloc | apply pw_below_drewN | apply below_drew1) | exact HB.out)⟩
                              · replace c57 := Bool.eq_false_iff.mpr c57
                                subst c57
                                have H1 : (some false) = some r := by rw [if_neg (show ¬ (false = true) by decide)] at H; exact H
                                clear H
                                have H := H1
                                clear H1
                                obtain rfl := Option.some.inj H
                                obtain ⟨Ao102, co102, eo102⟩ := Kd.R_slice HO_15.out
                                subst eo102
                                obtain ⟨Ao103, co103, eo103⟩ := Kd.R_slice HO_7.out
                                subst eo103
                                obtain ⟨Ao104, co104, eo104⟩ := Kd.R_slice HO_8.out
                                subst eo104
                                go_wp2_with (first | ((with_reducible refine gate_callee (f := 12) rfl ?_); refine goesL_ (some 107) rfl rfl Tryd.func12 (by kernel_rfl) rfl #[.slice Ao103 t205.length co103, .slice Ao104 x8_1.length co104] rfl (by (try simp only [List.map_toArray, List.map_cons, List.map_nil]); first | done | rfl | (simp only [List.length_drop, List.length_take]; rfl)) ?_; (with_reducible refine (remontoirkeep_Ints.calls k3 _ _ t205 _ _ x8_1 false _ ?side1 ?side2 ?side3 ?side4 A56.out).mono ?_); (case side1 => repeat (first | exact (Kd.R_reads' HO_7.out).2.2 | (with_reducible refine Kd.C_alloc ?_ _) | (with_reducible refine Kd.C_drewN ?_ _) | (with_reducible refine Kd.C_drew ?_))); (case side2 => exact (Kd.R_reads' HO_7.out).2.1); (case side3 => repeat (first | exact (Kd.R_reads' HO_8.out).2.2 | (with_reducible refine Kd.C_alloc ?_ _) | (with_reducible refine Kd.C_drewN ?_ _) | (with_reducible refine Kd.C_drew ?_))); (case side4 => exact (Kd.R_reads' HO_8.out).2.1); rintro e w' ⟨rfl, ⟨nd, rfl⟩⟩; refine ⟨_, rfl, ?_⟩))
                                go_ret
                                exact ⟨by first | rfl | (simp [errW_none, errW_some] <;> rfl) | (simp [*, errW_none, errW_some] <;> rfl), by repeat (first | (with_reducible first | exact HB.out | apply below_alloc | apply pw_below_drewN | apply below_drew1) | exact HB.out)⟩
                      · rw [if_neg c37] at H
                        exact absurd H (by simp)
                    · rw [if_neg c36] at H
                      exact absurd H (by simp)
      · rw [if_neg c7] at H
        exact absurd H (by simp)
    · rw [if_neg c6] at H
      exact absurd H (by simp)

end Go.Proofs.YtdfkbiffdcfnpaaDoor.H
-- Written by hp.py (a program of this session, over the kit's print.py), with hand-made contracts beside it.
namespace Go.Proofs.YtdfkbiffdcfnpaaDoor.H
open Go.RowKit Go.Proofs.YtdfkbiffdcfnpaaDoorW.PrintWords Go.Proofs.YtdfkbiffdcfnpaaDoorW.PrintLast Go.Proofs.YtdfkbiffdcfnpaaDoorW.PrintMore
attribute [local go_sem] max2_int min2_int max_two min_two max_three min_three max_four min_four   -- for this text's walks alone
set_option linter.unusedVariables false
set_option linter.unusedSimpArgs false

/-! ### remontoirkeep_LightDef: function 6 -/
mutual
def remontoirkeep_LightDef.j0 : Nat → Bool → ByteArray → List (S45) → List (S47) → Option (Bool)
  | 0, _, _, _, _ => none
  | k + 1, x20, x248000, x248001, x248002 => if x20 = true then (some false) else (remontoirkeep_LightDef.l0 k 0 x248000 x248001 x248002)
def remontoirkeep_LightDef.l0 : Nat → Int → ByteArray → List (S45) → List (S47) → Option (Bool)
  | 0, _, _, _, _ => none
  | k + 1, x3, x248000, x248001, x248002 => if x3 < (x248001.length : Int) then (if 0 ≤ x3 then (if (((rd_T45 x248001 x3).f4).size : Int) > 80 then (some false) else (remontoirkeep_LightDef.l0 k (wrap64 (x3 + 1)) x248000 x248001 x248002)) else (none)) else (remontoirkeep_LightDef.l1 k 0 x248000 x248001 x248002)
def remontoirkeep_LightDef.l1 : Nat → Int → ByteArray → List (S45) → List (S47) → Option (Bool)
  | 0, _, _, _, _ => none
  | k + 1, x4, x248000, x248001, x248002 => if x4 < (x248002.length : Int) then (if 0 ≤ x4 then (if (((rd_T47 x248002 x4).f4).size : Int) > 80 then (some false) else (remontoirkeep_LightDef.l1 k (wrap64 (x4 + 1)) x248000 x248001 x248002)) else (none)) else (some true)
end
def remontoirkeep_LightDef.f (k : Nat) (a0_0 : ByteArray) (l0_1 : List (S45)) (l0_2 : List (S47)) : Option (Bool) := if (l0_1.length : Int) > 70 then (remontoirkeep_LightDef.j0 k true a0_0 l0_1 l0_2) else (if (l0_2.length : Int) > 110 then (remontoirkeep_LightDef.j0 k true a0_0 l0_1 l0_2) else (remontoirkeep_LightDef.j0 k (decide ((a0_0.size : Int) > 60)) a0_0 l0_1 l0_2))
theorem remontoirkeep_LightDef.mono_l : ∀ k, (∀ y0 y1 y2 y3, LeO (remontoirkeep_LightDef.j0 k y0 y1 y2 y3) (remontoirkeep_LightDef.j0 (k + 1) y0 y1 y2 y3)) ∧ (∀ y0 y1 y2 y3, LeO (remontoirkeep_LightDef.l0 k y0 y1 y2 y3) (remontoirkeep_LightDef.l0 (k + 1) y0 y1 y2 y3)) ∧ (∀ y0 y1 y2 y3, LeO (remontoirkeep_LightDef.l1 k y0 y1 y2 y3) (remontoirkeep_LightDef.l1 (k + 1) y0 y1 y2 y3))
  | 0 => ⟨fun _ _ _ _ r h => by simp [remontoirkeep_LightDef.j0] at h, fun _ _ _ _ r h => by simp [remontoirkeep_LightDef.l0] at h, fun _ _ _ _ r h => by simp [remontoirkeep_LightDef.l1] at h⟩
  | k + 1 => by
    obtain ⟨ih0, ih1, ih2⟩ := remontoirkeep_LightDef.mono_l k
    refine ⟨?_, ?_, ?_⟩
    · intro y0 y1 y2 y3
      unfold remontoirkeep_LightDef.j0
      repeat' first
      | (with_reducible exact ih0 _ _ _ _)
      | (with_reducible exact ih1 _ _ _ _)
      | (with_reducible exact ih2 _ _ _ _)
      | (with_reducible exact LeO.refl _)
      | (with_reducible exact LeO.none _)
      | (with_reducible refine LeO.ite ?_ ?_)
      | (with_reducible refine LeO.bind ?_ (fun _ => ?_))
      | exact ih0 _ _ _ _
      | exact ih1 _ _ _ _
      | exact ih2 _ _ _ _
      | exact LeO.none _
      | refine LeO.ite ?_ ?_
      | refine LeO.bind ?_ (fun _ => ?_)
    · intro y0 y1 y2 y3
      unfold remontoirkeep_LightDef.l0
      repeat' first
      | (with_reducible exact ih0 _ _ _ _)
      | (with_reducible exact ih1 _ _ _ _)
      | (with_reducible exact ih2 _ _ _ _)
      | (with_reducible exact LeO.refl _)
      | (with_reducible exact LeO.none _)
      | (with_reducible refine LeO.ite ?_ ?_)
      | (with_reducible refine LeO.bind ?_ (fun _ => ?_))
      | exact ih0 _ _ _ _
      | exact ih1 _ _ _ _
      | exact ih2 _ _ _ _
      | exact LeO.none _
      | refine LeO.ite ?_ ?_
      | refine LeO.bind ?_ (fun _ => ?_)
    · intro y0 y1 y2 y3
      unfold remontoirkeep_LightDef.l1
      repeat' first
      | (with_reducible exact ih0 _ _ _ _)
      | (with_reducible exact ih1 _ _ _ _)
      | (with_reducible exact ih2 _ _ _ _)
      | (with_reducible exact LeO.refl _)
      | (with_reducible exact LeO.none _)
      | (with_reducible refine LeO.ite ?_ ?_)
      | (with_reducible refine LeO.bind ?_ (fun _ => ?_))
      | exact ih0 _ _ _ _
      | exact ih1 _ _ _ _
      | exact ih2 _ _ _ _
      | exact LeO.none _
      | refine LeO.ite ?_ ?_
      | refine LeO.bind ?_ (fun _ => ?_)
theorem remontoirkeep_LightDef.mono : ∀ a0 a1 a2 k, LeO (remontoirkeep_LightDef.f k a0 a1 a2) (remontoirkeep_LightDef.f (k + 1) a0 a1 a2) := by
  intro a0 a1 a2 k
  obtain ⟨ih0, ih1, ih2⟩ := remontoirkeep_LightDef.mono_l k
  unfold remontoirkeep_LightDef.f
  repeat' first
      | (with_reducible exact ih0 _ _ _ _)
      | (with_reducible exact ih1 _ _ _ _)
      | (with_reducible exact ih2 _ _ _ _)
      | (with_reducible exact LeO.refl _)
      | (with_reducible exact LeO.none _)
      | (with_reducible refine LeO.ite ?_ ?_)
      | (with_reducible refine LeO.bind ?_ (fun _ => ?_))
      | exact ih0 _ _ _ _
      | exact ih1 _ _ _ _
      | exact ih2 _ _ _ _
      | exact LeO.none _
      | refine LeO.ite ?_ ?_
      | refine LeO.bind ?_ (fun _ => ?_)
set_option maxHeartbeats 8000000 in
set_option maxRecDepth 100000 in
theorem remontoirkeep_LightDef.calls (k : Nat) (a0_0 : ByteArray) (A0_1 : Option Addr) (c0_1 : Nat) (l0_1 : List (S45)) (A0_2 : Option Addr) (c0_2 : Nat) (l0_2 : List (S47)) (r : Bool) (w : World) (hr0_1 : Kd.C k45 w A0_1 l0_1.length l0_1) (hc0_1 : l0_1.length ≤ c0_1) (hr0_2 : Kd.C k47 w A0_2 l0_2.length l0_2) (hc0_2 : l0_2.length ≤ c0_2) (h : remontoirkeep_LightDef.f k a0_0 l0_1 l0_2 = some r) :
    Calls Tryd.prog 6 #[.agg #[.string a0_0, .slice A0_1 l0_1.length c0_1, .slice A0_2 l0_2.length c0_2]] w fun e w' => e = .returned (.bool r) ∧ Below w.heap.size w w' := by
  have hu25 := Tryd.underlying25
  have HR0_1 := Aside0.mk hr0_1
  have HC0_1 := Aside0.mk hc0_1
  clear hr0_1 hc0_1
  have HR0_2 := Aside0.mk hr0_2
  have HC0_2 := Aside0.mk hc0_2
  clear hr0_2 hc0_2
  have HB := Aside0.mk (Below.refl w.heap.size w)
  have H : (if (l0_1.length : Int) > 70 then (remontoirkeep_LightDef.j0 k true a0_0 l0_1 l0_2) else (if (l0_2.length : Int) > 110 then (remontoirkeep_LightDef.j0 k true a0_0 l0_1 l0_2) else (remontoirkeep_LightDef.j0 k (decide ((a0_0.size : Int) > 60)) a0_0 l0_1 l0_2))) = some r := h
  clear h
  have HC2 := Aside0.mk H
  clear H
  go_enter Tryd.func6, Tryd.ntmps6
  go_upto_region 1 with (first | ((with_reducible refine gate_dst (N := 1) rfl ?_); (try (refine gate_guard (by rfl) ?_; dsimp only)); refine box_event ?hg (N := 1) ?hd (cs := #[.string a0_0, .slice A0_1 l0_1.length c0_1, .slice A0_2 l0_2.length c0_2]) (t := 25) ?hr ?_; (case hd => rfl); (case hg => rfl); (case hr => first | (go_simp; done) | (go_simp; rfl)); intro gb247 hg w3 hbox hb; have n0_ := Aside0.mk (below_step (by repeat (first | (with_reducible first | exact HB.out | apply below_alloc | apply pw_below_drewN | apply below_drew1) | exact HB.out)) hb); have n1_ := Aside0.mk (hbox); have n2_ := Aside0.mk ((by rw [hg]; exact (below_size (by repeat (first | (with_reducible first | exact HB.out | apply below_alloc | apply pw_below_drewN | apply below_drew1) | exact HB.out))) : w.heap.size ≤ gb247)); have n3_ := Aside0.mk ((by rw [hg]; exact (below_size (by repeat (first | (with_reducible first | exact HB.out | apply below_alloc | apply pw_below_drewN | apply below_drew1) | exact HB.out))) : w.heap.size ≤ gb247)); clear HB; have HB := n0_; have BK247 := n1_; have GW247 := n2_; have GE247 := n3_; clear n0_ n1_ n2_ n3_; clear hb hbox hg))
  (try simp only [Act.put, List.setIfInBounds_toArray, List.set_cons_zero, List.set_cons_succ])
  go_cut [20] (fun v20 wc => ∃ (kq : Nat) (x20_1 : Bool), v20 = .bool x20_1 ∧ Aside0 (remontoirkeep_LightDef.j0 kq x20_1 a0_0 l0_1 l0_2 = some r) ∧ Aside0 (kq ≤ k) ∧ Aside0 (wc.heap[gb247]? = some (.cells #[.string a0_0, (.slice A0_1 l0_1.length c0_1), (.slice A0_2 l0_2.length c0_2)] 25 (0, 0))) ∧ Aside0 (Below w.heap.size w wc))
  case first =>
    have H := HC2.out
    clear HC2
    by_cases c4 : (l0_1.length : Int) > 70
    · rw [if_pos c4] at H
      have c4b0 : decide (70 < (l0_1.length : Int)) = true := decide_eq_true c4
      have c4b1 : decide (70 < l0_1.length) = true := decide_eq_true (by omega)
      clear c4
      (first | rw [c4b0] | (simp only [i64_w, i32_w]; rw [c4b0]) | skip)
      have H' := Aside0.mk H
      clear H
      have hcz5_0 : w3.cell? ⟨gb247, 0, none⟩ = some (.string a0_0) := (blk_cell BK247.out 0).trans rfl
      have hcz5_1 : w3.cell? ⟨gb247, 1, none⟩ = some (.slice A0_1 l0_1.length c0_1) := (blk_cell BK247.out 1).trans rfl
      have hcz5_2 : w3.cell? ⟨gb247, 2, none⟩ = some (.slice A0_2 l0_2.length c0_2) := (blk_cell BK247.out 2).trans rfl
      have hfz5_0 := blk_frozen BK247.out 0
      have hfz5_1 := blk_frozen BK247.out 1
      have hfz5_2 := blk_frozen BK247.out 2
      go_wp2
      go_meet
      case rel => exact ⟨_, (true), (by first | rfl | (simp; done) | (simp [*]; done)), H', ⟨by first | omega | exact Nat.le_refl _⟩, ⟨by (with_reducible repeat (first | refine blk_drewN ?_ _ | refine blk_drew ?_ | refine blk_alloc ?_ _)); exact BK247.out⟩, ⟨by repeat (first | (with_reducible first | exact HB.out | apply below_alloc | apply pw_below_drewN | apply below_drew1 | refine below_set ?_ GE247.out) | exact HB.out)⟩⟩
    · rw [if_neg c4] at H
      have c4b0 : decide (70 < (l0_1.length : Int)) = false := decide_eq_false c4
      have c4b1 : decide (70 < l0_1.length) = false := decide_eq_false (by omega)
      clear c4
      (first | rw [c4b0] | (simp only [i64_w, i32_w]; rw [c4b0]) | skip)
      by_cases c6 : (l0_2.length : Int) > 110
      · rw [if_pos c6] at H
        have c6b0 : decide (110 < (l0_2.length : Int)) = true := decide_eq_true c6
        have c6b1 : decide (110 < l0_2.length) = true := decide_eq_true (by omega)
        clear c6
        have H' := Aside0.mk H
        clear H
        have hcz7_0 : w3.cell? ⟨gb247, 0, none⟩ = some (.string a0_0) := (blk_cell BK247.out 0).trans rfl
        have hcz7_1 : w3.cell? ⟨gb247, 1, none⟩ = some (.slice A0_1 l0_1.length c0_1) := (blk_cell BK247.out 1).trans rfl
        have hcz7_2 : w3.cell? ⟨gb247, 2, none⟩ = some (.slice A0_2 l0_2.length c0_2) := (blk_cell BK247.out 2).trans rfl
        have hfz7_0 := blk_frozen BK247.out 0
        have hfz7_1 := blk_frozen BK247.out 1
        have hfz7_2 := blk_frozen BK247.out 2
        go_wp2
        go_meet
        case rel => exact ⟨_, (true), (by first | rfl | (simp; done) | (simp [*]; done)), H', ⟨by first | omega | exact Nat.le_refl _⟩, ⟨by (with_reducible repeat (first | refine blk_drewN ?_ _ | refine blk_drew ?_ | refine blk_alloc ?_ _)); exact BK247.out⟩, ⟨by repeat (first | (with_reducible first | exact HB.out | apply below_alloc | apply pw_below_drewN | apply below_drew1 | refine below_set ?_ GE247.out) | exact HB.out)⟩⟩
      · rw [if_neg c6] at H
        have c6b0 : decide (110 < (l0_2.length : Int)) = false := decide_eq_false c6
        have c6b1 : decide (110 < l0_2.length) = false := decide_eq_false (by omega)
        clear c6
        have H' := Aside0.mk H
        clear H
        have hcz8_0 : w3.cell? ⟨gb247, 0, none⟩ = some (.string a0_0) := (blk_cell BK247.out 0).trans rfl
        have hcz8_1 : w3.cell? ⟨gb247, 1, none⟩ = some (.slice A0_1 l0_1.length c0_1) := (blk_cell BK247.out 1).trans rfl
        have hcz8_2 : w3.cell? ⟨gb247, 2, none⟩ = some (.slice A0_2 l0_2.length c0_2) := (blk_cell BK247.out 2).trans rfl
        have hfz8_0 := blk_frozen BK247.out 0
        have hfz8_1 := blk_frozen BK247.out 1
        have hfz8_2 := blk_frozen BK247.out 2
        go_wp2
        go_meet
        case rel => exact ⟨_, (decide ((a0_0.size : Int) > 60)), (by first | rfl | (simp; done) | (simp [*]; done)), H', ⟨by first | omega | exact Nat.le_refl _⟩, ⟨by (with_reducible repeat (first | refine blk_drewN ?_ _ | refine blk_drew ?_ | refine blk_alloc ?_ _)); exact BK247.out⟩, ⟨by repeat (first | (with_reducible first | exact HB.out | apply below_alloc | apply pw_below_drewN | apply below_drew1 | refine below_set ?_ GE247.out) | exact HB.out)⟩⟩
  case rest =>
    clear HC2
    try clear p2
    try clear c4
    try clear c4b0
    try clear c4b1
    try clear c6
    try clear c6b0
    try clear c6b1
    try clear hcz5_0
    try clear hcz5_1
    try clear hcz5_2
    try clear hcz7_0
    try clear hcz7_1
    try clear hcz7_2
    try clear hcz8_0
    try clear hcz8_1
    try clear hcz8_2
    try clear hfz5_0
    try clear hfz5_1
    try clear hfz5_2
    try clear hfz7_0
    try clear hfz7_1
    try clear hfz7_2
    try clear hfz8_0
    try clear hfz8_1
    try clear hfz8_2
    obtain ⟨kq, x20_1, rfl, HA, HJ1, BK247, HB⟩ := hcut
    cases kq with
    | zero => exact absurd HA.out (by simp [remontoirkeep_LightDef.j0])
    | succ kj1 =>
      have H := HA.out
      clear HA
      simp only [remontoirkeep_LightDef.j0] at H
      by_cases c9 : x20_1 = true
      · subst c9
        have H1 : (some false) = some r := by rw [if_pos rfl] at H; exact H
        clear H
        have H := H1
        clear H1
        obtain rfl := Option.some.inj H
        go_wp2
        go_ret
        exact ⟨by first | rfl | (simp [errW_none, errW_some] <;> rfl) | (simp [*, errW_none, errW_some] <;> rfl), by repeat (first | (with_reducible first | exact HB.out | apply below_alloc | apply pw_below_drewN | apply below_drew1 | refine below_set ?_ GE247.out) | exact HB.out)⟩
      · replace c9 := Bool.eq_false_iff.mpr c9
        subst c9
        have H1 : (remontoirkeep_LightDef.l0 kj1 0 a0_0 l0_1 l0_2) = some r := by rw [if_neg (show ¬ (false = true) by decide)] at H; exact H
        clear H
        have H := H1
        clear H1
        have H' := Aside0.mk H
        clear H
        go_wp2
        go_loopg [3] kj1 (fun kq v3 w' => ∃ (x3_2 : Int), v3 = .int .i64 x3_2 ∧ Aside0 (remontoirkeep_LightDef.l0 kq x3_2 a0_0 l0_1 l0_2 = some r) ∧ Aside0 (kq ≤ kj1) ∧ Aside0 (w'.heap[gb247]? = some (.cells #[.string a0_0, (.slice A0_1 l0_1.length c0_1), (.slice A0_2 l0_2.length c0_2)] 25 (0, 0))) ∧ Aside0 (Below w.heap.size w w'))
        case atStart => exact ⟨(0), (by first | rfl | (simp; done) | (simp [*]; done)), H', ⟨Nat.le_refl _⟩, ⟨by (with_reducible repeat (first | refine blk_drewN ?_ _ | refine blk_drew ?_ | refine blk_alloc ?_ _)); exact BK247.out⟩, ⟨by repeat (first | (with_reducible first | exact HB.out | apply below_alloc | apply pw_below_drewN | apply below_drew1 | refine below_set ?_ GE247.out) | exact HB.out)⟩⟩
        case round =>
          clear H'
          try clear p2
          try clear c4
          try clear c4b0
          try clear c4b1
          try clear c6
          try clear c6b0
          try clear c6b1
          try clear c9
          try clear hcz5_0
          try clear hcz5_1
          try clear hcz5_2
          try clear hcz7_0
          try clear hcz7_1
          try clear hcz7_2
          try clear hcz8_0
          try clear hcz8_1
          try clear hcz8_2
          try clear hfz5_0
          try clear hfz5_1
          try clear hfz5_2
          try clear hfz7_0
          try clear hfz7_1
          try clear hfz7_2
          try clear hfz8_0
          try clear hfz8_1
          try clear hfz8_2
          try clear p2
          obtain ⟨x3_2, rfl, HA, HK2, BK247, HB⟩ := hrel
          cases gk with
          | zero => exact absurd HA.out (by simp [remontoirkeep_LightDef.l0])
          | succ k2 =>
            have H := HA.out
            clear HA
            simp only [remontoirkeep_LightDef.l0] at H
            by_cases c10 : x3_2 < (l0_1.length : Int)
            · rw [if_pos c10] at H
              have c10b0 : decide (x3_2 < (l0_1.length : Int)) = true := decide_eq_true c10
              clear c10
              by_cases c11 : 0 ≤ x3_2
              · rw [if_pos c11] at H
                have c11b0 : decide (0 ≤ x3_2) = true := decide_eq_true c11
                clear c11
                by_cases c12 : (((rd_T45 l0_1 x3_2).f4).size : Int) > 80
                · rw [if_pos c12] at H
                  have c12b0 : decide (80 < (((rd_T45 l0_1 x3_2).f4).size : Int)) = true := decide_eq_true c12
                  have c12b1 : decide (80 < ((rd_T45 l0_1 x3_2).f4).size) = true := decide_eq_true (by omega)
                  clear c12
                  obtain rfl := Option.some.inj H
                  have hcz13_0 : wr.cell? ⟨gb247, 0, none⟩ = some (.string a0_0) := (blk_cell BK247.out 0).trans rfl
                  have hcz13_1 : wr.cell? ⟨gb247, 1, none⟩ = some (.slice A0_1 l0_1.length c0_1) := (blk_cell BK247.out 1).trans rfl
                  have hcz13_2 : wr.cell? ⟨gb247, 2, none⟩ = some (.slice A0_2 l0_2.length c0_2) := (blk_cell BK247.out 2).trans rfl
                  have hfz13_0 := blk_frozen BK247.out 0
                  have hfz13_1 := blk_frozen BK247.out 1
                  have hfz13_2 := blk_frozen BK247.out 2
                  have p248 : 0 ≤ (x3_2 : Int) := of_decide_eq_true (by first | (with_reducible assumption) | assumption)
                  have q248 : x3_2 < (l0_1.length : Int) := of_decide_eq_true (by first | (with_reducible assumption) | assumption)
                  obtain ⟨ad248, e248, hx248_0, hx248_1, hx248_2, hx248_3, hx248_4⟩ := at_T45 HR0_1.out x3_2 p248 q248
                  cases e248
                  replace hx248_0 := (HB.out.cell (World.block_lt_of_cell? w _ hx248_0)).trans hx248_0
                  replace hx248_1 := (HB.out.cell (World.block_lt_of_cell? w _ hx248_1)).trans hx248_1
                  replace hx248_2 := (HB.out.cell (World.block_lt_of_cell? w _ hx248_2)).trans hx248_2
                  replace hx248_3 := (HB.out.cell (World.block_lt_of_cell? w _ hx248_3)).trans hx248_3
                  replace hx248_4 := (HB.out.cell (World.block_lt_of_cell? w _ hx248_4)).trans hx248_4
                  replace p248 := eq_true p248
                  replace q248 := eq_true q248
                  go_wp2
                  go_ret
                  exact ⟨by first | rfl | (simp [errW_none, errW_some] <;> rfl) | (simp [*, errW_none, errW_some] <;> rfl), by repeat (first | (with_reducible first | exact HB.out | apply below_alloc | apply pw_below_drewN | apply below_drew1 | refine below_set ?_ GE247.out) | exact HB.out)⟩
                · rw [if_neg c12] at H
                  have c12b0 : decide (80 < (((rd_T45 l0_1 x3_2).f4).size : Int)) = false := decide_eq_false c12
                  have c12b1 : decide (80 < ((rd_T45 l0_1 x3_2).f4).size) = false := decide_eq_false (by omega)
                  clear c12
                  have H' := Aside0.mk H
                  clear H
                  have hcz14_0 : wr.cell? ⟨gb247, 0, none⟩ = some (.string a0_0) := (blk_cell BK247.out 0).trans rfl
                  have hcz14_1 : wr.cell? ⟨gb247, 1, none⟩ = some (.slice A0_1 l0_1.length c0_1) := (blk_cell BK247.out 1).trans rfl
                  have hcz14_2 : wr.cell? ⟨gb247, 2, none⟩ = some (.slice A0_2 l0_2.length c0_2) := (blk_cell BK247.out 2).trans rfl
                  have hfz14_0 := blk_frozen BK247.out 0
                  have hfz14_1 := blk_frozen BK247.out 1
                  have hfz14_2 := blk_frozen BK247.out 2
                  have p248 : 0 ≤ (x3_2 : Int) := of_decide_eq_true (by first | (with_reducible assumption) | assumption)
                  have q248 : x3_2 < (l0_1.length : Int) := of_decide_eq_true (by first | (with_reducible assumption) | assumption)
                  obtain ⟨ad248, e248, hx248_0, hx248_1, hx248_2, hx248_3, hx248_4⟩ := at_T45 HR0_1.out x3_2 p248 q248
                  cases e248
                  replace hx248_0 := (HB.out.cell (World.block_lt_of_cell? w _ hx248_0)).trans hx248_0
                  replace hx248_1 := (HB.out.cell (World.block_lt_of_cell? w _ hx248_1)).trans hx248_1
                  replace hx248_2 := (HB.out.cell (World.block_lt_of_cell? w _ hx248_2)).trans hx248_2
                  replace hx248_3 := (HB.out.cell (World.block_lt_of_cell? w _ hx248_3)).trans hx248_3
                  replace hx248_4 := (HB.out.cell (World.block_lt_of_cell? w _ hx248_4)).trans hx248_4
                  replace p248 := eq_true p248
                  replace q248 := eq_true q248
                  go_wp2
                  go_roundg k2
                  case measure => have := HJ1.out; have := HK2.out; omega
                  case rel => exact ⟨(wrap64 (x3_2 + 1)), (by first | rfl | (simp; done) | (simp [*]; done)), H', ⟨by have := HJ1.out; have := HK2.out; omega⟩, ⟨by (with_reducible repeat (first | refine blk_drewN ?_ _ | refine blk_drew ?_ | refine blk_alloc ?_ _)); exact BK247.out⟩, ⟨by repeat (first | (with_reducible first | exact HB.out | apply below_alloc | apply pw_below_drewN | apply below_drew1 | refine below_set ?_ GE247.out) | exact HB.out)⟩⟩
              · rw [if_neg c11] at H
                exact absurd H (by simp)
            · rw [if_neg c10] at H
              have c10b0 : decide (x3_2 < (l0_1.length : Int)) = false := decide_eq_false c10
              clear c10
              have H' := Aside0.mk H
              clear H
              have hcz15_0 : wr.cell? ⟨gb247, 0, none⟩ = some (.string a0_0) := (blk_cell BK247.out 0).trans rfl
              have hcz15_1 : wr.cell? ⟨gb247, 1, none⟩ = some (.slice A0_1 l0_1.length c0_1) := (blk_cell BK247.out 1).trans rfl
              have hcz15_2 : wr.cell? ⟨gb247, 2, none⟩ = some (.slice A0_2 l0_2.length c0_2) := (blk_cell BK247.out 2).trans rfl
              have hfz15_0 := blk_frozen BK247.out 0
              have hfz15_1 := blk_frozen BK247.out 1
              have hfz15_2 := blk_frozen BK247.out 2
              go_wp2
              go_loopg [4] k2 (fun kq v4 w' => ∃ (x4_3 : Int), v4 = .int .i64 x4_3 ∧ Aside0 (remontoirkeep_LightDef.l1 kq x4_3 a0_0 l0_1 l0_2 = some r) ∧ Aside0 (kq ≤ k2) ∧ Aside0 (w'.heap[gb247]? = some (.cells #[.string a0_0, (.slice A0_1 l0_1.length c0_1), (.slice A0_2 l0_2.length c0_2)] 25 (0, 0))) ∧ Aside0 (Below w.heap.size w w'))
              case atStart => exact ⟨(0), (by first | rfl | (simp; done) | (simp [*]; done)), H', ⟨Nat.le_refl _⟩, ⟨by (with_reducible repeat (first | refine blk_drewN ?_ _ | refine blk_drew ?_ | refine blk_alloc ?_ _)); exact BK247.out⟩, ⟨by repeat (first | (with_reducible first | exact HB.out | apply below_alloc | apply pw_below_drewN | apply below_drew1 | refine below_set ?_ GE247.out) | exact HB.out)⟩⟩
              case round =>
                clear H'
                try clear c1
                try clear p2
                try clear q2
                try clear hx2
                try clear c4
                try clear c4b0
                try clear c4b1
                try clear c6
                try clear c6b0
                try clear c6b1
                try clear p6
                try clear c9
                try clear c10
                try clear c10b0
                try clear c11
                try clear c11b0
                try clear c12
                try clear c12b0
                try clear c12b1
                try clear hcz13_0
                try clear hcz13_1
                try clear hcz13_2
                try clear hcz14_0
                try clear hcz14_1
                try clear hcz14_2
                try clear hcz15_0
                try clear hcz15_1
                try clear hcz15_2
                try clear hcz5_0
                try clear hcz5_1
                try clear hcz5_2
                try clear hcz7_0
                try clear hcz7_1
                try clear hcz7_2
                try clear hcz8_0
                try clear hcz8_1
                try clear hcz8_2
                try clear hfz13_0
                try clear hfz13_1
                try clear hfz13_2
                try clear hfz14_0
                try clear hfz14_1
                try clear hfz14_2
                try clear hfz15_0
                try clear hfz15_1
                try clear hfz15_2
                try clear hfz5_0
                try clear hfz5_1
                try clear hfz5_2
                try clear hfz7_0
                try clear hfz7_1
                try clear hfz7_2
                try clear hfz8_0
                try clear hfz8_1
                try clear hfz8_2
                try clear hx248_0
                try clear hx248_1
                try clear hx248_2
                try clear hx248_3
                try clear hx248_4
                try clear p2
                try clear p248
                try clear q248
                obtain ⟨x4_3, rfl, HA, HK3, BK247, HB⟩ := hrel
                cases gk with
                | zero => exact absurd HA.out (by simp [remontoirkeep_LightDef.l1])
                | succ k3 =>
                  have H := HA.out
                  clear HA
                  simp only [remontoirkeep_LightDef.l1] at H
                  by_cases c16 : x4_3 < (l0_2.length : Int)
                  · rw [if_pos c16] at H
                    have c16b0 : decide (x4_3 < (l0_2.length : Int)) = true := decide_eq_true c16
                    clear c16
                    by_cases c17 : 0 ≤ x4_3
                    · rw [if_pos c17] at H
                      have c17b0 : decide (0 ≤ x4_3) = true := decide_eq_true c17
                      clear c17
                      by_cases c18 : (((rd_T47 l0_2 x4_3).f4).size : Int) > 80
                      · rw [if_pos c18] at H
                        have c18b0 : decide (80 < (((rd_T47 l0_2 x4_3).f4).size : Int)) = true := decide_eq_true c18
                        have c18b1 : decide (80 < ((rd_T47 l0_2 x4_3).f4).size) = true := decide_eq_true (by omega)
                        clear c18
                        obtain rfl := Option.some.inj H
                        have hcz19_0 : wr.cell? ⟨gb247, 0, none⟩ = some (.string a0_0) := (blk_cell BK247.out 0).trans rfl
                        have hcz19_1 : wr.cell? ⟨gb247, 1, none⟩ = some (.slice A0_1 l0_1.length c0_1) := (blk_cell BK247.out 1).trans rfl
                        have hcz19_2 : wr.cell? ⟨gb247, 2, none⟩ = some (.slice A0_2 l0_2.length c0_2) := (blk_cell BK247.out 2).trans rfl
                        have hfz19_0 := blk_frozen BK247.out 0
                        have hfz19_1 := blk_frozen BK247.out 1
                        have hfz19_2 := blk_frozen BK247.out 2
                        have p249 : 0 ≤ (x4_3 : Int) := of_decide_eq_true (by first | (with_reducible assumption) | assumption)
                        have q249 : x4_3 < (l0_2.length : Int) := of_decide_eq_true (by first | (with_reducible assumption) | assumption)
                        obtain ⟨ad249, e249, hx249_0, hx249_1, hx249_2, hx249_3, hx249_4⟩ := at_T47 HR0_2.out x4_3 p249 q249
                        cases e249
                        replace hx249_0 := (HB.out.cell (World.block_lt_of_cell? w _ hx249_0)).trans hx249_0
                        replace hx249_1 := (HB.out.cell (World.block_lt_of_cell? w _ hx249_1)).trans hx249_1
                        replace hx249_2 := (HB.out.cell (World.block_lt_of_cell? w _ hx249_2)).trans hx249_2
                        replace hx249_3 := (HB.out.cell (World.block_lt_of_cell? w _ hx249_3)).trans hx249_3
                        replace hx249_4 := (HB.out.cell (World.block_lt_of_cell? w _ hx249_4)).trans hx249_4
                        replace p249 := eq_true p249
                        replace q249 := eq_true q249
                        go_wp2
                        go_ret
                        exact ⟨by first | rfl | (simp [errW_none, errW_some] <;> rfl) | (simp [*, errW_none, errW_some] <;> rfl), by repeat (first | (with_reducible first | exact HB.out | apply below_alloc | apply pw_below_drewN | apply below_drew1 | refine below_set ?_ GE247.out) | exact HB.out)⟩
                      · rw [if_neg c18] at H
                        have c18b0 : decide (80 < (((rd_T47 l0_2 x4_3).f4).size : Int)) = false := decide_eq_false c18
                        have c18b1 : decide (80 < ((rd_T47 l0_2 x4_3).f4).size) = false := decide_eq_false (by omega)
                        clear c18
                        have H' := Aside0.mk H
                        clear H
                        have hcz20_0 : wr.cell? ⟨gb247, 0, none⟩ = some (.string a0_0) := (blk_cell BK247.out 0).trans rfl
                        have hcz20_1 : wr.cell? ⟨gb247, 1, none⟩ = some (.slice A0_1 l0_1.length c0_1) := (blk_cell BK247.out 1).trans rfl
                        have hcz20_2 : wr.cell? ⟨gb247, 2, none⟩ = some (.slice A0_2 l0_2.length c0_2) := (blk_cell BK247.out 2).trans rfl
                        have hfz20_0 := blk_frozen BK247.out 0
                        have hfz20_1 := blk_frozen BK247.out 1
                        have hfz20_2 := blk_frozen BK247.out 2
                        have p249 : 0 ≤ (x4_3 : Int) := of_decide_eq_true (by first | (with_reducible assumption) | assumption)
                        have q249 : x4_3 < (l0_2.length : Int) := of_decide_eq_true (by first | (with_reducible assumption) | assumption)
                        obtain ⟨ad249, e249, hx249_0, hx249_1, hx249_2, hx249_3, hx249_4⟩ := at_T47 HR0_2.out x4_3 p249 q249
                        cases e249
                        replace hx249_0 := (HB.out.cell (World.block_lt_of_cell? w _ hx249_0)).trans hx249_0
                        replace hx249_1 := (HB.out.cell (World.block_lt_of_cell? w _ hx249_1)).trans hx249_1
                        replace hx249_2 := (HB.out.cell (World.block_lt_of_cell? w _ hx249_2)).trans hx249_2
                        replace hx249_3 := (HB.out.cell (World.block_lt_of_cell? w _ hx249_3)).trans hx249_3
                        replace hx249_4 := (HB.out.cell (World.block_lt_of_cell? w _ hx249_4)).trans hx249_4
                        replace p249 := eq_true p249
                        replace q249 := eq_true q249
                        go_wp2
                        go_roundg k3
                        case measure => have := HJ1.out; have := HK2.out; have := HK3.out; omega
                        case rel => exact ⟨(wrap64 (x4_3 + 1)), (by first | rfl | (simp; done) | (simp [*]; done)), H', ⟨by have := HJ1.out; have := HK2.out; have := HK3.out; omega⟩, ⟨by (with_reducible repeat (first | refine blk_drewN ?_ _ | refine blk_drew ?_ | refine blk_alloc ?_ _)); exact BK247.out⟩, ⟨by repeat (first | (with_reducible first | exact HB.out | apply below_alloc | apply pw_below_drewN | apply below_drew1 | refine below_set ?_ GE247.out) | exact HB.out)⟩⟩
                    · rw [if_neg c17] at H
                      exact absurd H (by simp)
                  · rw [if_neg c16] at H
                    have c16b0 : decide (x4_3 < (l0_2.length : Int)) = false := decide_eq_false c16
                    clear c16
                    obtain rfl := Option.some.inj H
                    have hcz21_0 : wr.cell? ⟨gb247, 0, none⟩ = some (.string a0_0) := (blk_cell BK247.out 0).trans rfl
                    have hcz21_1 : wr.cell? ⟨gb247, 1, none⟩ = some (.slice A0_1 l0_1.length c0_1) := (blk_cell BK247.out 1).trans rfl
                    have hcz21_2 : wr.cell? ⟨gb247, 2, none⟩ = some (.slice A0_2 l0_2.length c0_2) := (blk_cell BK247.out 2).trans rfl
                    have hfz21_0 := blk_frozen BK247.out 0
                    have hfz21_1 := blk_frozen BK247.out 1
                    have hfz21_2 := blk_frozen BK247.out 2
                    go_wp2
                    go_ret
                    exact ⟨by first | rfl | (simp [errW_none, errW_some] <;> rfl) | (simp [*, errW_none, errW_some] <;> rfl), by repeat (first | (with_reducible first | exact HB.out | apply below_alloc | apply pw_below_drewN | apply below_drew1 | refine below_set ?_ GE247.out) | exact HB.out)⟩

end Go.Proofs.YtdfkbiffdcfnpaaDoor.H
/- cycle.Parse as printed is cyParse. -/
namespace Go.Proofs.YtdfkbiffdcfnpaaDoor.H
open Go.RowKit Go.HK Go.Lib Go.Proofs.YtdfkbiffdcfnpaaDoorW.PrintWords Go.Proofs.YtdfkbiffdcfnpaaDoorW.PrintLast Go.Proofs.YtdfkbiffdcfnpaaDoorW.PrintMore
set_option linter.unusedVariables false
set_option linter.unusedSimpArgs false
theorem w64s {i : Nat} (h : i < 4611686018427387904) : wrap64 ((i : Int) + 1) = ((i + 1 : Nat) : Int) := by unfold wrap64; omega
theorem bt_sb (s : ByteArray) (k : Nat) : bt s (k : Int) = (sb s k : Int) := by
  unfold bt sb
  have hl := slen s
  rw [Int.toNat_natCast]
  split
  · rename_i h
    rw [List.getD_eq_getElem?_getD, List.getElem?_eq_getElem (by omega)]
    simp
    rfl
  · rename_i h
    rw [List.getD_eq_getElem?_getD, List.getElem?_eq_none (by omega)]
    rfl
theorem hasP_yes {s : ByteArray} {c : UInt8} {l : List UInt8} (h : s.data.toList = c :: l) : stringslite_HasPrefix.f s ⟨#[c]⟩ = some true := by
  have hl := slen s
  rw [h, List.length_cons] at hl
  have h1 : ((⟨#[c]⟩ : ByteArray).size : Int) = 1 := rfl
  unfold stringslite_HasPrefix.f
  rw [h1, if_pos (by omega), if_pos (by omega), if_pos (by omega)]
  congr 1
  have e1 : (s.extract 0 (1 : Int).toNat).toList = [c] := by
    rw [ByteArray.toList_eq, show (1 : Int).toNat = 1 from rfl, sx_take, h]
    rfl
  rw [e1, ByteArray.toList_eq]
  simp
theorem hasP_no {s : ByteArray} {c : UInt8} (h : ∀ l, s.data.toList ≠ c :: l) : stringslite_HasPrefix.f s ⟨#[c]⟩ = some false := by
  have hl := slen s
  have h1 : ((⟨#[c]⟩ : ByteArray).size : Int) = 1 := rfl
  unfold stringslite_HasPrefix.f
  rw [h1]
  by_cases h0 : s.size = 0
  · rw [if_neg (by omega)]
  · rw [if_pos (by omega), if_pos (by omega), if_pos (by omega)]
    congr 1
    rw [ByteArray.toList_eq, show (1 : Int).toNat = 1 from rfl, sx_take, ByteArray.toList_eq]
    cases hd : s.data.toList with
    | nil => rw [hd] at hl; simp at hl; omega
    | cons b l =>
      have : b ≠ c := fun q => h l (by rw [hd, q])
      simp [this]
theorem cutP_yes {s : ByteArray} {c : UInt8} {l : List UInt8} (h : s.data.toList = c :: l) : ∃ t : ByteArray, strings_CutPrefix.f s ⟨#[c]⟩ = some (t, true) ∧ t.data.toList = l ∧ t.size ≤ s.size := by
  have hl := slen s
  rw [h, List.length_cons] at hl
  have h1 : ((⟨#[c]⟩ : ByteArray).size : Int) = 1 := rfl
  refine ⟨s.extract 1 s.size, ?_, by rw [sx_drop, h]; rfl, by rw [ByteArray.size_extract]; omega⟩
  unfold strings_CutPrefix.f stringslite_CutPrefix.f
  rw [hasP_yes h, h1]
  simp only [Option.bind_some, if_true]
  rw [if_pos (by omega), if_pos (by omega)]
  rfl
theorem cutP_no {s : ByteArray} {c : UInt8} (h : ∀ l, s.data.toList ≠ c :: l) : strings_CutPrefix.f s ⟨#[c]⟩ = some (s, false) := by
  unfold strings_CutPrefix.f stringslite_CutPrefix.f
  rw [hasP_no h]
  simp
theorem ixb (c : UInt8) : ∀ l : List UInt8, (Lib.indexByte l c = -1 ∧ c ∉ l) ∨ (∃ k : Nat, Lib.indexByte l c = k ∧ k < l.length ∧ k = (l.takeWhile (fun b => b != c)).length ∧ c ∈ l)
  | [] => .inl ⟨rfl, by simp⟩
  | b :: l => by
    simp only [Lib.indexByte]
    by_cases h : b = c
    · subst h
      refine .inr ⟨0, by simp, by simp, by simp, by simp⟩
    · rcases ixb c l with ⟨e, h1⟩ | ⟨k, e, h1, h2, h3⟩
      · refine .inl ⟨?_, ?_⟩
        · simp [h, e]
        · simp only [List.mem_cons, not_or]; exact ⟨fun q => h q.symm, h1⟩
      · refine .inr ⟨k + 1, ?_, by simp; omega, ?_, by simp [h3]⟩
        · simp [h, e]
          try omega
        · have : (b != c) = true := by simp [h]
          rw [List.takeWhile_cons, if_pos this, List.length_cons, ← h2]
theorem tw_all {p : UInt8 → Bool} : ∀ {l : List UInt8}, (∀ b ∈ l, p b = true) → l.takeWhile p = l ∧ l.dropWhile p = []
  | [], _ => ⟨rfl, rfl⟩
  | b :: l, h => by
    have ih := tw_all (l := l) (fun c hc => h c (by simp [hc]))
    have hb := h b (by simp)
    exact ⟨by rw [List.takeWhile_cons, if_pos hb, ih.1], by rw [List.dropWhile_cons, if_pos hb, ih.2]⟩
theorem tw_take (p : UInt8 → Bool) (l : List UInt8) : l.take (l.takeWhile p).length = l.takeWhile p := (List.prefix_iff_eq_take.1 (List.takeWhile_prefix p)).symm
theorem tw_drop (p : UInt8 → Bool) (l : List UInt8) : l.drop (l.takeWhile p).length = l.dropWhile p := by
  have h := List.takeWhile_append_dropWhile (p := p) (l := l)
  have h2 := List.take_append_drop (l.takeWhile p).length l
  rw [tw_take] at h2
  exact List.append_cancel_left (h2.trans h.symm)
theorem cut_f {s : ByteArray} (c : UInt8) (hs : s.size ≤ 1000) : ∃ a b : ByteArray, strings_Cut.f s ⟨#[c]⟩ = some (a, b, s.data.toList.contains c) ∧ a.data.toList = s.data.toList.takeWhile (fun b => b != c) ∧ b.data.toList = (s.data.toList.dropWhile (fun b => b != c)).drop 1 ∧ a.size ≤ s.size ∧ b.size ≤ s.size := by
  have hl := slen s
  have h1 : ((⟨#[c]⟩ : ByteArray).size : Int) = 1 := rfl
  have h2 : stringslite_Index.f s ⟨#[c]⟩ = some (Lib.indexByte s.data.toList c) := by unfold stringslite_Index.f; rw [if_pos (show (⟨#[c]⟩ : ByteArray).size = 1 from rfl)]; rfl
  unfold strings_Cut.f stringslite_Cut.f
  rw [h2, h1]
  rcases ixb c s.data.toList with ⟨e, hn⟩ | ⟨k, e, hk, hk2, hm⟩
  · refine ⟨s, ⟨#[]⟩, ?_, ?_, ?_, Nat.le_refl _, Nat.zero_le _⟩
    · have hc : s.data.toList.contains c = false := by simpa using hn
      rw [e, hc]
      simp
    · have : ∀ b ∈ s.data.toList, (b != c) = true := fun b hb => by simp; rintro rfl; exact hn hb
      rw [(tw_all this).1]
    · have : ∀ b ∈ s.data.toList, (b != c) = true := fun b hb => by simp; rintro rfl; exact hn hb
      rw [(tw_all this).2]
      rfl
  · have hc : s.data.toList.contains c = true := by simpa using hm
    refine ⟨s.extract 0 k, s.extract (k + 1) s.size, ?_, ?_, ?_, by rw [ByteArray.size_extract]; omega, by rw [ByteArray.size_extract]; omega⟩
    · rw [e, hc]
      simp only [Option.bind_some]
      rw [if_pos (by omega), if_pos (by omega), if_pos (by omega), w64s (by omega), if_pos (by omega), if_pos (by omega)]
      simp
    · rw [sx_take, hk2, tw_take]
    · rw [sx_drop, ← List.drop_drop, hk2, tw_drop]
theorem cy_j2 {k : Nat} {rest num : ByteArray} {b : Bool} (hb : b = decide (num.data.toList.headD 0 = 48)) (hall : ∀ c ∈ num.data.toList, isDg c = true) (h0 : num.data.toList ≠ []) (hn : num.size ≤ 7) (hr : rest.size ≤ 1000) :
    cycle_Parse.j2 (k + 1) rest num b = some (if b = true then (0, 0, 2) else if 1000000 < decV num.data.toList then (0, 0, 3) else if (spParse rest.data.toList).2 ≠ 0 then (0, 0, (spParse rest.data.toList).2) else if (spParse rest.data.toList).1 = 0 then (0, 0, 6) else ((decV num.data.toList : Int), ((spParse rest.data.toList).1 : Int), 0)) := by
  have h1 : strconv_Atoi.f num = some ((decV num.data.toList : Int), none) := by
    unfold strconv_Atoi.f
    rw [if_pos (by omega), atoi_dgs hall h0]
    rfl
  have h2 : span_Parse.f rest = some (((spParse rest.data.toList).1 : Int), (spParse rest.data.toList).2) := by
    unfold span_Parse.f
    rw [if_pos hr]
  rw [cycle_Parse.j2, h1, h2]
  generalize spParse rest.data.toList = p
  obtain ⟨p1, p2⟩ := p
  generalize decV num.data.toList = v
  clear hb hall h0 h1 h2
  by_cases c1 : b = true
  · rw [if_pos c1, if_pos c1]
  · rw [if_neg c1, if_neg c1]
    simp only [Option.bind_some]
    by_cases c2 : 1000000 < v
    · rw [if_pos (by omega), if_pos c2]
    · rw [if_neg (by omega), if_neg c2]
      by_cases c3 : p2 = 0
      · subst c3
        by_cases c4 : p1 = 0
        · subst c4; simp
        · have : ¬ (p1 : Int) = 0 := by omega
          simp [c4, this]
      · simp [c3]
theorem isDg_sb (s : ByteArray) {i : Nat} (h : i < s.size) : isDg (s.data.toList[i]'(by have := slen s; omega)) = decide (48 ≤ sb s i ∧ sb s i ≤ 57) := by
  have hl := slen s
  unfold isDg sb
  rw [List.getD_eq_getElem?_getD, List.getElem?_eq_getElem (by omega)]
  rfl
theorem cy_l0 {rest num : ByteArray} {slash : Bool} (hn : num.size ≤ 1000) (hr : rest.size ≤ 1000) (hne : slash = true → num.data.toList ≠ []) : ∀ (d i k : Nat), i + d = num.size → d + 2 ≤ k → (∀ j, j < i → ∃ h : j < num.data.toList.length, isDg num.data.toList[j] = true) →
    cycle_Parse.l0 k rest num slash (num.size : Int) (i : Int) = some ((cyBody num.data.toList slash rest.data.toList).1, ((cyBody num.data.toList slash rest.data.toList).2.1 : Int), (cyBody num.data.toList slash rest.data.toList).2.2) := by
  have hl := slen num
  intro d
  induction d with
  | zero =>
    intro i k hd hk hall
    obtain ⟨k, rfl⟩ : ∃ q, k = q + 1 + 1 := ⟨k - 2, by omega⟩
    obtain rfl : i = num.size := by omega
    have hA : ∀ c ∈ num.data.toList, isDg c = true := fun c hc => by
      obtain ⟨j, hj, rfl⟩ := List.mem_iff_getElem.1 hc
      obtain ⟨_, h⟩ := hall j (by omega)
      exact h
    have hany : num.data.toList.any (fun b => !isDg b) = false := by
      rw [List.any_eq_false]
      intro c hc
      rw [hA c hc]
      decide
    unfold cycle_Parse.l0
    rw [if_neg (by omega)]
    cases slash with
    | false =>
      rw [if_neg (by decide)]
      have e : cyBody num.data.toList false rest.data.toList = (0, 0, 2) := by
        unfold cyBody
        rw [if_neg (by simp), if_neg (by rw [hany]; decide), if_pos (.inl rfl)]
      rw [e]
      unfold cycle_Parse.j2
      rfl
    | true =>
      have h0 := hne rfl
      have hpos : 0 < num.size := by
        cases hq : num.data.toList with
        | nil => exact absurd hq h0
        | cons c r => rw [hq, List.length_cons] at hl; omega
      rw [if_pos rfl]
      by_cases c1 : 7 < num.size
      · rw [if_pos (by omega)]
        have e : cyBody num.data.toList true rest.data.toList = (0, 0, 2) := by
          unfold cyBody
          rw [if_neg (fun q => h0 q.2), if_neg (by rw [hany]; decide), if_pos (.inr (.inl (by omega)))]
        rw [e]
        unfold cycle_Parse.j2
        rfl
      · rw [if_neg (by omega), if_pos (by omega)]
        have hb : (bt num 0 == 48) = decide (num.data.toList.headD 0 = 48) := by
          have := bt_sb num 0
          rw [show ((0 : Nat) : Int) = 0 from rfl] at this
          rw [this]
          unfold sb
          cases hq : num.data.toList with
          | nil => exact absurd hq h0
          | cons c r =>
            simp only [List.getD_cons_zero, List.headD_cons]
            by_cases hc : c = 48
            · subst hc; rfl
            · have h3 : ¬ ((c.toNat : Int) = 48) := fun q => hc (UInt8.toNat_inj.1 (by show c.toNat = 48; omega))
              rw [beq_eq_false_iff_ne.2 h3]
              simp [hc]
        rw [cy_j2 hb hA h0 (by omega) hr]
        have e : cyBody num.data.toList true rest.data.toList = if (bt num 0 == 48) = true then (0, 0, 2) else if 1000000 < decV num.data.toList then (0, 0, 3) else if (spParse rest.data.toList).2 ≠ 0 then (0, 0, (spParse rest.data.toList).2) else if (spParse rest.data.toList).1 = 0 then (0, 0, 6) else ((decV num.data.toList : Int), (spParse rest.data.toList).1, 0) := by
          unfold cyBody
          rw [if_neg (fun q => h0 q.2), if_neg (by rw [hany]; decide)]
          rw [hb]
          by_cases c2 : num.data.toList.headD 0 = 48
          · rw [if_pos (.inr (.inr c2)), if_pos (decide_eq_true c2)]
          · rw [if_neg (by rintro (q | q | q); cases q; omega; exact c2 q)]
            have hf : ¬ decide (num.data.toList.headD 0 = 48) = true := by simpa using c2
            rw [if_neg hf]
        rw [e]
        congr 1
        split
        · rfl
        · split
          · rfl
          · split
            · rfl
            · split <;> rfl
  | succ d ih =>
    intro i k hd hk hall
    obtain ⟨k, rfl⟩ : ∃ q, k = q + 1 := ⟨k - 1, by omega⟩
    unfold cycle_Parse.l0
    rw [if_pos (by omega), if_pos (by omega), if_pos (by omega), bt_sb]
    have hi : i < num.size := by omega
    have hg := isDg_sb num hi
    by_cases c1 : 48 ≤ sb num i ∧ sb num i ≤ 57
    · rw [if_neg (by omega), if_neg (by omega), w64s (by omega)]
      refine ih (i + 1) k (by omega) (by omega) (fun j hj => ?_)
      by_cases hji : j = i
      · subst hji
        exact ⟨by omega, by rw [hg]; exact decide_eq_true c1⟩
      · exact hall j (by omega)
    · have hany : num.data.toList.any (fun b => !isDg b) = true := by
        rw [List.any_eq_true]
        exact ⟨_, List.getElem_mem (by omega : i < num.data.toList.length), by rw [hg, decide_eq_false c1]; rfl⟩
      have e : cyBody num.data.toList slash rest.data.toList = (0, 0, 2) := by
        unfold cyBody
        rw [if_neg (fun q => hne q.1 q.2), if_pos hany]
      rw [e]
      by_cases c2 : sb num i < 48
      · rw [if_pos (by omega)]; rfl
      · rw [if_neg (by omega), if_pos (by omega)]; rfl
theorem cyc_f (s : ByteArray) (hs : s.size ≤ 1000) (k : Nat) (hk : s.size + 5 ≤ k) : cycle_Parse.f k s = some ((cyParse s.data.toList).1, ((cyParse s.data.toList).2.1 : Int), (cyParse s.data.toList).2.2) := by
  unfold cycle_Parse.f
  by_cases h : ∃ m, s.data.toList = 82 :: m
  · obtain ⟨m, hm⟩ := h
    obtain ⟨t, ht, ht1, ht2⟩ := cutP_yes hm
    obtain ⟨a, b, hc, ha, hb, ha2, hb2⟩ := cut_f (s := t) 47 (by omega)
    have e : cyParse s.data.toList = cyBody a.data.toList (t.data.toList.contains 47) b.data.toList := by
      rw [hm, ha, hb, ht1]
      simp [cyParse]
    rw [ht, e]
    simp only [Option.bind_some, if_true]
    rw [hc]
    simp only [Option.bind_some]
    obtain ⟨k, rfl⟩ : ∃ q, k = q + 1 := ⟨k - 1, by omega⟩
    by_cases c1 : t.data.toList.contains 47 = true
    · rw [if_pos c1, c1, cycle_Parse.j0]
      by_cases c2 : a.data.toList = []
      · have : (a.toList == ([] : List UInt8)) = true := by rw [sEmpty c2]; rfl
        rw [if_pos this]
        unfold cyBody
        rw [if_pos ⟨rfl, c2⟩]
        rfl
      · have : ¬ (a.toList == ([] : List UInt8)) = true := by rw [ByteArray.toList_eq]; simpa using c2
        rw [if_neg this]
        exact cy_l0 (by omega) (by omega) (fun _ => c2) a.size 0 k (by omega) (by omega) (fun j hj => by omega)
    · rw [if_neg c1]
      have c1' : t.data.toList.contains 47 = false := by simpa using c1
      rw [c1', cycle_Parse.j0, if_neg (by decide)]
      exact cy_l0 (by omega) (by omega) (fun q => by cases q) a.size 0 k (by omega) (by omega) (fun j hj => by omega)
  · rw [cutP_no (fun l q => h ⟨l, q⟩)]
    have e : cyParse s.data.toList = (0, 0, 2) := by
      unfold cyParse
      cases hl : s.data.toList with
      | nil => rfl
      | cons b m => simp only; rw [if_neg (fun q => h ⟨m, by rw [hl, q]⟩)]
    rw [e]
    simp
end Go.Proofs.YtdfkbiffdcfnpaaDoor.H
/- The orders of a list of events, as printed. -/
namespace Go.Proofs.YtdfkbiffdcfnpaaDoor.H
open Go.RowKit Go.HK Go.Lib Go.Proofs.YtdfkbiffdcfnpaaDoorW.PrintWords Go.Proofs.YtdfkbiffdcfnpaaDoorW.PrintLast Go.Proofs.YtdfkbiffdcfnpaaDoorW.PrintMore
set_option linter.unusedVariables false
set_option linter.unusedSimpArgs false
abbrev SE := S32
abbrev SF := S47
/-- The node of a number; zeros: there is none. -/
def nodeAt (nodes : List SN) (n : Int) : N5 := kindOf (nodes.map on5) n
theorem nodeAt_time {nodes : List SN} (h : ∀ x ∈ nodes, x.f4.size ≤ 80) (n : Int) : (nodeAt nodes n).2.2.2.2.size ≤ 80 := by
  unfold nodeAt kindOf
  split
  · rename_i hn
    rw [List.length_map] at hn
    rw [List.getD_eq_getElem?_getD, List.getElem?_map, List.getElem?_eq_getElem (by omega)]
    exact h _ (List.getElem_mem _)
  · exact Nat.zero_le _
theorem waits_f (kind a b c : Int) (t : ByteArray) (ht : t.size ≤ 80) (k : Nat) (hk : 100 ≤ k) : graph_waits.f k kind a b c t = some ((grWaits kind t.data.toList).1, ((grWaits kind t.data.toList).2.1 : Int), (grWaits kind t.data.toList).2.2) := by
  obtain ⟨k, rfl⟩ : ∃ q, k = q + 1 := ⟨k - 1, by omega⟩
  have h1 : span_Parse.f t = some (((spParse t.data.toList).1 : Int), (spParse t.data.toList).2) := by
    unfold span_Parse.f
    rw [if_pos (by omega)]
  have h2 := cyc_f t (by omega) k (by omega)
  have key : (kind = 4 ∨ kind = 8 ∨ kind = 9) → graph_waits.j0 (k + 1) kind a b c t = some ((grWaits kind t.data.toList).1, ((grWaits kind t.data.toList).2.1 : Int), (grWaits kind t.data.toList).2.2) := by
    intro hk
    unfold grWaits
    rw [if_pos hk, graph_waits.j0, h1, h2]
    generalize spParse t.data.toList = p
    generalize cyParse t.data.toList = q
    obtain ⟨p1, p2⟩ := p
    obtain ⟨q1, q2, q3⟩ := q
    simp only [Option.bind_some]
    by_cases c1 : p2 = 0
    · rw [if_pos c1, if_pos c1]
      have e : decide ((p1 : Int) > 0) = decide (0 < p1) := by by_cases c : 0 < p1; rw [decide_eq_true c, decide_eq_true (by omega)]; rw [decide_eq_false c, decide_eq_false (by omega)]
      rw [e]
    · rw [if_neg c1, if_neg c1]
      by_cases c2 : kind = 9
      · rw [if_pos c2]
        by_cases c3 : q3 = 0
        · rw [if_pos c3]
          by_cases c4 : q1 > 9
          · rw [if_pos c4, if_pos (.inr (.inr c4))]; rfl
          · rw [if_neg c4, if_neg (by rintro (h | h | h); exact h c2; exact h c3; omega)]
        · rw [if_neg c3, if_pos (.inr (.inl c3))]; rfl
      · rw [if_neg c2, if_pos (.inl c2)]; rfl
  unfold graph_waits.f
  by_cases c4 : kind = 4
  · rw [if_pos c4]; exact key (.inl c4)
  · rw [if_neg c4]
    by_cases c8 : kind = 8
    · rw [if_pos c8]; exact key (.inr (.inl c8))
    · rw [if_neg c8]
      by_cases c9 : kind = 9
      · rw [if_pos c9]; exact key (.inr (.inr c9))
      · rw [if_neg c9]
        unfold grWaits
        rw [if_neg (by rintro (h | h | h); exact c4 h; exact c8 h; exact c9 h)]
        rfl
/-- The ticks of a node's timer. -/
def tkOf (nodes : List SN) (n : Int) : Nat := grTicks (nodeAt nodes n).1 (nodeAt nodes n).2.2.2.2.data.toList
theorem time_f {nm : ByteArray} {nodes : List SN} {flows : List SF} (hn : nodes.length ≤ 1000) (h : ∀ x ∈ nodes, x.f4.size ≤ 80) (n : Int) (k : Nat) (hk : 100 ≤ k) : ∃ N b, graph_Time.f k nm nodes flows n = some (N, (tkOf nodes n : Int), b) := by
  have h1 : graph_at.f nm nodes flows n = some ((nodeAt nodes n).1, (nodeAt nodes n).2.1, (nodeAt nodes n).2.2.1, (nodeAt nodes n).2.2.2.1, (nodeAt nodes n).2.2.2.2, decide (1 ≤ n ∧ n ≤ ((nodes.map on5).length : Int))) := by
    unfold graph_at.f
    rw [if_pos hn]
    rfl
  have ht := nodeAt_time h n
  unfold graph_Time.f tkOf
  rw [h1]
  simp only [Option.bind_some]
  generalize nodeAt nodes n = x at *
  obtain ⟨x1, x2, x3, x4, x5⟩ := x
  rw [waits_f x1 x2 x3 x4 x5 ht k hk]
  unfold grTicks
  generalize grWaits x1 x5.data.toList = g
  obtain ⟨g1, g2, g3⟩ := g
  cases g3
  · exact ⟨0, false, rfl⟩
  · exact ⟨g1, true, rfl⟩
/-- A node's class. -/
def clOf (nodes : List SN) (n : Int) : Int := (nodeAt nodes n).2.2.1
theorem class_f {nm : ByteArray} {nodes : List SN} {flows : List SF} (hn : nodes.length ≤ 1000) (n : Int) : orders_class.f nm nodes flows n = some (clOf nodes n) := by
  unfold orders_class.f clOf nodeAt kindOf
  rw [List.length_map]
  by_cases c1 : n < 1
  · rw [if_pos c1, if_neg (by omega)]
  · rw [if_neg c1]
    by_cases c2 : n > (nodes.length : Int)
    · rw [if_pos c2, if_neg (by omega)]
    · have hw : wrap64 (n - 1) = n - 1 := by unfold wrap64; omega
      rw [if_neg c2, hw, if_pos (by omega), if_pos (by omega), if_pos (by omega)]
      congr 1
      unfold rd_T45
      have e : (n - 1).toNat = n.toNat - 1 := by omega
      rw [e, List.getD_eq_getElem?_getD, List.getD_eq_getElem?_getD, List.getElem?_map, List.getElem?_eq_getElem (by omega)]
      rfl
/-- The order of an event. -/
def ofE (nodes : List SN) (e : SE) : List SO :=
  if e.f0 = 2 then [⟨1, e.f3, e.f2, clOf nodes e.f2, 0⟩] else if e.f0 = 3 then [⟨2, e.f3, e.f2, 0, (tkOf nodes e.f2 : Int)⟩] else if e.f0 = 4 then [⟨3, e.f3, 0, 0, 0⟩] else []
def ofL (nodes : List SN) (l : List SE) : List SO := l.flatMap (ofE nodes)
theorem ofE_len (nodes : List SN) (e : SE) : (ofE nodes e).length ≤ 1 := by
  unfold ofE
  split
  · simp
  · split
    · simp
    · split <;> simp
theorem of_l0 {nm : ByteArray} {nodes : List SN} {flows : List SF} {l : List SE} (hn : nodes.length ≤ 1000) (h : ∀ x ∈ nodes, x.f4.size ≤ 80) (hl : l.length ≤ 1000) :
    ∀ (d i k : Nat) (out : List SO), i + d = l.length → d + 101 ≤ k → out.length ≤ i → orders_Of.l0 k out l (l.length : Int) (i : Int) nm nodes flows = some (out ++ ofL nodes (l.drop i)) := by
  intro d
  induction d with
  | zero =>
    intro i k out hd hk ho
    obtain ⟨k, rfl⟩ : ∃ q, k = q + 1 := ⟨k - 1, by omega⟩
    unfold orders_Of.l0
    rw [if_neg (by omega), List.drop_of_length_le (by omega)]
    simp [ofL]
  | succ d ih =>
    intro i k out hd hk ho
    obtain ⟨k, rfl⟩ : ∃ q, k = q + 1 := ⟨k - 1, by omega⟩
    have hi : i < l.length := by omega
    have hr : rd_T32 l (i : Int) = l[i] := by
      unfold rd_T32
      rw [Int.toNat_natCast, List.getD_eq_getElem?_getD, List.getElem?_eq_getElem hi]
      rfl
    rw [List.drop_eq_getElem_cons hi]
    unfold orders_Of.l0
    rw [if_pos (by omega), if_pos (by omega), if_pos (by omega), hr, w64s (by omega)]
    have ec : ofL nodes (l[i] :: l.drop (i + 1)) = ofE nodes l[i] ++ ofL nodes (l.drop (i + 1)) := by unfold ofL; rw [List.flatMap_cons]
    rw [ec, ← List.append_assoc]
    generalize l[i] = e
    have hE := ofE_len nodes e
    by_cases c2 : e.f0 = 2
    · have e1 : ofE nodes e = [⟨1, e.f3, e.f2, clOf nodes e.f2, 0⟩] := by unfold ofE; rw [if_pos c2]
      rw [if_pos c2, class_f hn, e1]
      simp only [Option.bind_some]
      rw [if_pos (by omega)]
      exact ih (i + 1) k _ (by omega) (by omega) (by simp; omega)
    · rw [if_neg c2]
      by_cases c3 : e.f0 = 3
      · have e1 : ofE nodes e = [⟨2, e.f3, e.f2, 0, (tkOf nodes e.f2 : Int)⟩] := by unfold ofE; rw [if_neg c2, if_pos c3]
        obtain ⟨N, b, ht⟩ := time_f (nm := nm) (flows := flows) hn h e.f2 k (by omega)
        rw [if_pos c3, ht, e1]
        simp only [Option.bind_some]
        rw [if_pos (by omega)]
        exact ih (i + 1) k _ (by omega) (by omega) (by simp; omega)
      · rw [if_neg c3]
        by_cases c4 : e.f0 = 4
        · have e1 : ofE nodes e = [⟨3, e.f3, 0, 0, 0⟩] := by unfold ofE; rw [if_neg c2, if_neg c3, if_pos c4]
          rw [if_pos c4, if_pos (by omega), e1]
          exact ih (i + 1) k _ (by omega) (by omega) (by simp; omega)
        · have e1 : ofE nodes e = [] := by unfold ofE; rw [if_neg c2, if_neg c3, if_neg c4]
          rw [if_neg c4, e1, List.append_nil]
          exact ih (i + 1) k _ (by omega) (by omega) (by omega)
theorem of_f {nm : ByteArray} {nodes : List SN} {flows : List SF} {l : List SE} (hn : nodes.length ≤ 1000) (h : ∀ x ∈ nodes, x.f4.size ≤ 80) (hl : l.length ≤ 1000) (k : Nat) (hk : l.length + 101 ≤ k) : orders_Of.f k nm nodes flows l = some (ofL nodes l) := by
  unfold orders_Of.f
  have := of_l0 (nm := nm) (flows := flows) hn h hl l.length 0 k [] (by omega) (by omega) (Nat.le_refl _)
  exact this
end Go.Proofs.YtdfkbiffdcfnpaaDoor.H
/- The chapter's examples; rows alike. -/
namespace Go.Proofs.YtdfkbiffdcfnpaaDoor.H
open Go.RowKit Go.HK Go.Lib Go.Proofs.YtdfkbiffdcfnpaaDoorW.PrintWords Go.Proofs.YtdfkbiffdcfnpaaDoorW.PrintLast Go.Proofs.YtdfkbiffdcfnpaaDoorW.PrintMore
set_option linter.unusedVariables false
set_option linter.unusedSimpArgs false
theorem orders_same (a : List SO) (ha : a.length ≤ 1000) : ∀ (d i k : Nat), i + d = a.length → d < k → remontoirkeep_Orders.l0 k a a (i : Int) = some true := by
  intro d
  induction d with
  | zero =>
    intro i k hd hk
    obtain ⟨k, rfl⟩ : ∃ q, k = q + 1 := ⟨k - 1, by omega⟩
    rw [remontoirkeep_Orders.l0, if_neg (by omega)]
  | succ d ih =>
    intro i k hd hk
    obtain ⟨k, rfl⟩ : ∃ q, k = q + 1 := ⟨k - 1, by omega⟩
    rw [remontoirkeep_Orders.l0, if_pos (by omega), if_pos (by omega), if_pos (by omega), if_neg (by simp), w64s (by omega)]
    exact ih (i + 1) k (by omega) (by omega)
theorem orders_refl (a : List SO) (ha : a.length ≤ 1000) (k : Nat) (hk : a.length < k) : remontoirkeep_Orders.f k a a = some true := by
  unfold remontoirkeep_Orders.f
  rw [if_pos rfl]
  exact orders_same a ha a.length 0 k (by omega) hk
theorem ints_same (a : List Int) (ha : a.length ≤ 1000) : ∀ (d i k : Nat), i + d = a.length → d < k → remontoirkeep_Ints.l0 k a a (i : Int) = some true := by
  intro d
  induction d with
  | zero =>
    intro i k hd hk
    obtain ⟨k, rfl⟩ : ∃ q, k = q + 1 := ⟨k - 1, by omega⟩
    rw [remontoirkeep_Ints.l0, if_neg (by omega)]
  | succ d ih =>
    intro i k hd hk
    obtain ⟨k, rfl⟩ : ∃ q, k = q + 1 := ⟨k - 1, by omega⟩
    rw [remontoirkeep_Ints.l0, if_pos (by omega), if_pos (by omega), if_pos (by omega), if_pos rfl, w64s (by omega)]
    exact ih (i + 1) k (by omega) (by omega)
theorem ints_refl (a : List Int) (ha : a.length ≤ 1000) (k : Nat) (hk : a.length < k) : remontoirkeep_Ints.f k a a = some true := by
  unfold remontoirkeep_Ints.f
  rw [if_pos rfl]
  exact ints_same a ha a.length 0 k (by omega) hk
theorem jobsL_eq (l : List O5) : jobsL l = jset ((keptL 1 l).map (·.2.1)) := rfl
theorem jset_nil : jset [] = [] := List.eq_nil_iff_forall_not_mem.2 (fun x h => by rw [jset_mem] at h; cases h)
theorem jset_one (x : Int) : jset [x] = [x] := by
  have := jset_new [] x (by simp)
  rw [List.nil_append, jset_nil] at this
  obtain ⟨y, hy⟩ := List.length_eq_one_iff.1 this
  have : x ∈ jset [x] := (jset_mem _ _).2 (by simp)
  rw [hy] at this ⊢
  rw [List.mem_singleton.1 this]
def wkN : List SN := [⟨3, 0, 3, 0, ⟨#[]⟩⟩, ⟨8, 0, 0, 1, ⟨#[80, 84, 57, 83]⟩⟩]
def wkE : List SE := [⟨2, 0, 1, 5⟩, ⟨1, 0, 0, 0⟩, ⟨3, 0, 2, 5⟩, ⟨4, 0, 0, 5⟩]
theorem wk_of : ofL wkN wkE = [⟨1, 5, 1, 3, 0⟩, ⟨2, 5, 2, 0, 9⟩, ⟨3, 5, 0, 0, 0⟩] := by
  have h : tkOf wkN 2 = 9 := by decide
  have hc : clOf wkN 1 = 3 := by decide
  simp [ofL, ofE, wkE, h, hc]
theorem wakes_f (k : Nat) (hk : 200 ≤ k) : remontoirlaw27_wakes.f k = some true := by
  have h1 := of_f (nm := ⟨#[]⟩) (nodes := wkN) (flows := []) (l := wkE) (by decide) (by decide) (by decide) k (by show 4 + 101 ≤ k; omega)
  rw [wk_of] at h1
  have e : ∀ k, orders_Of.f k ⟨#[]⟩ [⟨3, 0, 3, 0, ⟨#[]⟩⟩, ⟨8, 0, 0, 1, ⟨#[80, 84, 57, 83]⟩⟩] [] [⟨2, 0, 1, 5⟩, ⟨1, 0, 0, 0⟩, ⟨3, 0, 2, 5⟩, ⟨4, 0, 0, 5⟩] = orders_Of.f k ⟨#[]⟩ wkN [] wkE := fun _ => rfl
  have j0 : orders_Jobs.f [⟨1, 5, 1, 3, 0⟩, ⟨2, 5, 2, 0, 9⟩, ⟨3, 5, 0, 0, 0⟩] = some [] := by
    unfold orders_Jobs.f
    rw [if_pos (by decide), jobsL_eq]
    have : (keptL 1 (List.map o5 [⟨1, 5, 1, 3, 0⟩, ⟨2, 5, 2, 0, 9⟩, ⟨3, 5, 0, 0, 0⟩])).map (·.2.1) = [] := by decide
    rw [this, jset_nil]
  have j1 : orders_Jobs.f [⟨1, 5, 1, 3, 0⟩, ⟨2, 5, 2, 0, 9⟩] = some [5] := by
    unfold orders_Jobs.f
    rw [if_pos (by decide), jobsL_eq]
    have : (keptL 1 (List.map o5 [⟨1, 5, 1, 3, 0⟩, ⟨2, 5, 2, 0, 9⟩])).map (·.2.1) = [5] := by decide
    rw [this, jset_one]
  have t1 : ∃ x, orders_Timers.f [⟨1, 5, 1, 3, 0⟩, ⟨2, 5, 2, 0, 9⟩] = some [x] := ⟨_, by
    unfold orders_Timers.f
    rw [if_pos (by decide)]
    rfl⟩
  obtain ⟨x, t1⟩ := t1
  unfold remontoirlaw27_wakes.f
  rw [e, h1]
  simp [rd_T35, j0, j1, t1]
end Go.Proofs.YtdfkbiffdcfnpaaDoor.H
/- OrdersLeft. -/
namespace Go.Proofs.YtdfkbiffdcfnpaaDoor.Pure
open Go.RowKit Go.Proofs.YtdfkbiffdcfnpaaDoor.H Go.Proofs.YtdfkbiffdcfnpaaDoorW.PrintWords Go.Proofs.YtdfkbiffdcfnpaaDoorW.PrintLast Go.Proofs.YtdfkbiffdcfnpaaDoorW.PrintMore
set_option linter.unusedVariables false
set_option linter.unusedSimpArgs false
theorem kept_snoc (kd : Int) (l : List O5) (x : O5) : keptL kd (l ++ [x]) = keptStep kd (keptL kd l) x := by unfold keptL; rw [List.foldl_append]; rfl
theorem kept_len (kd : Int) (l : List O5) : (keptL kd l).length ≤ l.length := by have := keptL_len kd l l.length (Nat.le_refl _); rwa [List.take_length] at this
theorem jset_len (zs : List Int) : (jset zs).length ≤ zs.length := by
  unfold jset
  have := compact_len (zs.mergeSort fun x y => decide (x ≤ y))
  rwa [List.length_mergeSort] at this
theorem tok_filter (t : Int) (l : List O5) : (l.filter (stays t)).map (·.2.1) = (l.map (·.2.1)).filter fun x => x != t := by
  rw [List.filter_map]
  rfl
def awayO (t : Int) : SO := ⟨3, t, 0, 0, 0⟩
def jobsOf (l : List SO) : List Int := jobsL (l.map o5)
def timersOf (l : List SO) : List SO := (keptL 2 (l.map o5)).map s5
theorem jobs_away (l : List SO) (t : Int) : jobsOf (l ++ [awayO t]) = (jobsOf l).filter fun x => x != t := by
  unfold jobsOf
  rw [List.map_append, jobsL_eq, jobsL_eq]
  show jset ((keptL 1 (l.map o5 ++ [o5 (awayO t)])).map (·.2.1)) = _
  rw [kept_snoc]
  have : keptStep 1 (keptL 1 (l.map o5)) (o5 (awayO t)) = (keptL 1 (l.map o5)).filter (stays t) := by
    unfold keptStep
    rw [if_neg (by show ¬ ((3 : Int) = 1); decide), if_pos (by rfl)]
    rfl
  rw [this, tok_filter, jset_filter]
theorem timers_away (l : List SO) (t : Int) : timersOf (l ++ [awayO t]) = (timersOf l).filter fun x => x.f1 != t := by
  unfold timersOf
  rw [List.map_append]
  show (keptL 2 (l.map o5 ++ [o5 (awayO t)])).map s5 = _
  rw [kept_snoc]
  have : keptStep 2 (keptL 2 (l.map o5)) (o5 (awayO t)) = (keptL 2 (l.map o5)).filter (stays t) := by
    unfold keptStep
    rw [if_neg (by show ¬ ((3 : Int) = 2); decide), if_pos (by rfl)]
    rfl
  rw [this, List.filter_map]
  rfl
theorem away_none (l : List SO) (t : Int) : t ∉ (keptL 1 ((l ++ [awayO t]).map o5)).map (·.2.1) := by
  rw [List.map_append]
  show t ∉ (keptL 1 (l.map o5 ++ [o5 (awayO t)])).map (·.2.1)
  rw [kept_snoc]
  have : keptStep 1 (keptL 1 (l.map o5)) (o5 (awayO t)) = (keptL 1 (l.map o5)).filter (stays t) := by
    unfold keptStep
    rw [if_neg (by show ¬ ((3 : Int) = 1); decide), if_pos (by rfl)]
    rfl
  rw [this, tok_filter]
  intro h
  have := (List.mem_filter.1 h).2
  simp at this
def newO (t : Int) : List SO := [⟨1, t, 0, 0, 0⟩, ⟨2, t, 3, 0, 0⟩]
theorem w64p {n : Nat} (h : n < 4611686018427387904) : wrap64 (((n + 1 : Nat) : Int) - 1) = (n : Int) := by unfold wrap64; omega
theorem again_jobs (l : List SO) (t : Int) (h : t ∉ (keptL 1 (l.map o5)).map (·.2.1)) : (jobsOf (l ++ newO t)).length = (jobsOf l).length + 1 ∧ t ∈ jobsOf (l ++ newO t) := by
  unfold jobsOf
  have e : keptL 1 ((l ++ newO t).map o5) = keptL 1 (l.map o5) ++ [(1, t, 0, 0, 0)] := by
    have : (l ++ newO t).map o5 = (l.map o5 ++ [(1, t, 0, 0, 0)]) ++ [(2, t, 3, 0, 0)] := by simp [o5, newO]
    rw [this, kept_snoc, kept_snoc]
    unfold keptStep
    simp
  rw [jobsL_eq, jobsL_eq, e, List.map_append]
  refine ⟨jset_new _ t h, ?_⟩
  rw [jset_mem]
  simp
theorem again_timers (l : List SO) (t : Int) : timersOf (l ++ newO t) = timersOf l ++ [⟨2, t, 3, 0, 0⟩] := by
  unfold timersOf
  have : (l ++ newO t).map o5 = (l.map o5 ++ [(1, t, 0, 0, 0)]) ++ [(2, t, 3, 0, 0)] := by simp [o5, newO]
  rw [this, kept_snoc, kept_snoc]
  unfold keptStep
  simp [s5]
theorem jobsOf_len (l : List SO) : (jobsOf l).length ≤ l.length := by
  unfold jobsOf
  rw [jobsL_eq]
  have h1 := jset_len ((keptL 1 (l.map o5)).map (·.2.1))
  have h2 := kept_len 1 (l.map o5)
  rw [List.length_map] at h1 h2
  omega
theorem timersOf_len (l : List SO) : (timersOf l).length ≤ l.length := by
  unfold timersOf
  have h2 := kept_len 2 (l.map o5)
  rw [List.length_map] at h2 ⊢
  omega
theorem left_l2 {t : Int} {B rest : List Int} {D stay : List SO} {E : List Int} {F : List SO} (h1 : B = rest) (h2 : D = stay) (h3 : E.length = B.length + 1) (h4 : t ∈ E) (h5 : F = D ++ [⟨2, t, 3, 0, 0⟩]) (hb : B.length ≤ 100) (hd : D.length ≤ 100) :
    ∀ (d i k : Nat) (q : Bool), i + d = E.length → d + 300 ≤ k → ((q = true) ∨ t ∈ E.drop i) → remontoirlaw27_OrdersLeft.l2 k t B rest D stay E F q (i : Int) = some true := by
  intro d
  induction d with
  | zero =>
    intro i k q hi hk hq
    obtain ⟨k, rfl⟩ : ∃ z, k = z + 1 := ⟨k - 1, by omega⟩
    rw [List.drop_of_length_le (by omega)] at hq
    have hq : q = true := by
      rcases hq with h | h
      · exact h
      · cases h
    subst hq h1 h2
    have hF : F.length = D.length + 1 := by rw [h5, List.length_append]; rfl
    have hr : (rd_T35 F (D.length : Int)).f1 = t := by
      unfold rd_T35
      rw [Int.toNat_natCast, h5, List.getD_eq_getElem?_getD, List.getElem?_append_right (Nat.le_refl _)]
      simp
    have g1 : ¬ ((i : Int) < (E.length : Int)) := by omega
    have g2 := ints_refl B (by omega) k (by omega)
    have g3 := orders_refl D (by omega) k (by omega)
    have g4 := wakes_f k (by omega)
    have g5 : (0 : Int) ≤ (D.length : Int) := by omega
    have g6 : (D.length : Int) < (F.length : Int) := by omega
    have g7 := w64s (i := B.length) (by omega)
    have g8 := w64s (i := D.length) (by omega)
    have g9 := w64p (n := D.length) (by omega)
    rw [← h3] at g7
    rw [← hF] at g8 g9
    clear h3 h4 h5 hb hd hi hk hF
    rw [remontoirlaw27_OrdersLeft.l2, if_neg g1, g2, Option.bind_some, if_pos rfl, g3, Option.bind_some, if_pos rfl, if_pos rfl, if_pos g7.symm, if_pos g8.symm, g9, if_pos g5, if_pos g6, if_pos hr, g4, Option.bind_some]
  | succ d ih =>
    intro i k q hi hk hq
    obtain ⟨k, rfl⟩ : ∃ z, k = z + 1 := ⟨k - 1, by omega⟩
    rw [remontoirlaw27_OrdersLeft.l2, if_pos (by omega)]
    by_cases c : q = true
    · rw [if_pos c, w64s (by omega)]
      exact ih (i + 1) k true (by omega) (by omega) (.inl rfl)
    · rw [if_neg c, if_pos (by omega), w64s (by omega)]
      refine ih (i + 1) k _ (by omega) (by omega) ?_
      have hE : t ∈ E.drop i := by
        rcases hq with h | h
        · exact absurd h c
        · exact h
      rw [List.drop_eq_getElem_cons (by omega)] at hE
      have hr : rd E (i : Int) = E[i] := by
        unfold rd
        rw [Int.toNat_natCast, List.getD_eq_getElem?_getD, List.getElem?_eq_getElem (by omega)]
        rfl
      rcases List.mem_cons.1 hE with h | h
      · left
        rw [hr, ← h]
        simp
      · exact .inr h
theorem left_l1 {t : Int} {l away : List SO} {B rest : List Int} (hl : away.length ≤ 61) (h1 : B = rest) (hB : B = jobsOf away) (hno : t ∉ (keptL 1 (away.map o5)).map (·.2.1)) {C D : List SO} (hC : C.length ≤ 100) (hD : D = C.filter fun x => x.f1 != t) (hDD : D = timersOf away) :
    ∀ (d i k : Nat) (out : List SO), i + d = C.length → d + 500 ≤ k → out = (C.take i).filter (fun x => x.f1 != t) → remontoirlaw27_OrdersLeft.l1 k t away B rest C D out (i : Int) = some true := by
  intro d
  induction d with
  | zero =>
    intro i k out hi hk ho
    obtain ⟨k, rfl⟩ : ∃ z, k = z + 1 := ⟨k - 1, by omega⟩
    rw [List.take_of_length_le (by omega), ← hD] at ho
    have hj := again_jobs away t hno
    have ht := again_timers away t
    have e1 : orders_Jobs.f (away ++ newO t) = some (jobsOf (away ++ newO t)) := by
      unfold orders_Jobs.f
      rw [if_pos (by rw [List.length_append]; show away.length + 2 ≤ 100; omega)]
      rfl
    have e2 : orders_Timers.f (away ++ newO t) = some (timersOf (away ++ newO t)) := by
      unfold orders_Timers.f
      rw [if_pos (by rw [List.length_append]; show away.length + 2 ≤ 100; omega)]
      rfl
    have hlen := jobsOf_len away
    have hlen2 := timersOf_len away
    have f1 : ([] : List SO).length + away.length < 3518437208883 := by show 0 + away.length < _; omega
    have f2 : away.length + (newO t).length < 3518437208883 := by show away.length + 2 < _; omega
    rw [remontoirlaw27_OrdersLeft.l1, if_neg (by omega)]
    simp only [Option.bind_some]
    rw [if_pos f1]
    simp only [Option.bind_some, List.nil_append]
    rw [show [(⟨1, t, 0, 0, 0⟩ : SO), ⟨2, t, 3, 0, 0⟩] = newO t from rfl, if_pos f2, e1, e2]
    simp only [Option.bind_some]
    rw [← hB] at hj hlen
    rw [← hDD] at ht hlen2
    generalize jobsOf (away ++ newO t) = E at *
    exact left_l2 h1 ho.symm hj.1 hj.2 ht (by omega) (by omega) E.length 0 k false (by omega) (by omega) (.inr hj.2)
  | succ d ih =>
    intro i k out hi hk ho
    obtain ⟨k, rfl⟩ : ∃ z, k = z + 1 := ⟨k - 1, by omega⟩
    have hr : rd_T35 C (i : Int) = C[i] := by
      unfold rd_T35
      rw [Int.toNat_natCast, List.getD_eq_getElem?_getD, List.getElem?_eq_getElem (by omega)]
      rfl
    have hol : out.length ≤ i := by
      rw [ho]
      have := List.length_filter_le (fun x : SO => x.f1 != t) (C.take i)
      rw [List.length_take] at this
      omega
    rw [remontoirlaw27_OrdersLeft.l1, if_pos (by omega), if_pos (by omega), hr, w64s (by omega)]
    have hs : (C.take (i + 1)).filter (fun x => x.f1 != t) = (C.take i).filter (fun x => x.f1 != t) ++ [C[i]].filter (fun x => x.f1 != t) := by
      rw [← List.filter_append, List.take_add_one, List.getElem?_eq_getElem (by omega)]
      rfl
    by_cases c : C[i].f1 = t
    · rw [if_pos c]
      refine ih (i + 1) k out (by omega) (by omega) ?_
      rw [hs, ← ho]
      simp [c]
    · rw [if_neg c, if_pos (by omega)]
      refine ih (i + 1) k _ (by omega) (by omega) ?_
      rw [hs, ← ho]
      simp [c]
theorem left_l0 {t : Int} {l : List SO} (hl : l.length ≤ 60) :
    ∀ (d i k : Nat) (out : List Int), i + d = (jobsOf l).length → d + 800 ≤ k → out = ((jobsOf l).take i).filter (fun x => x != t) → remontoirlaw27_OrdersLeft.l0 k l t (l ++ [awayO t]) (jobsOf l) (jobsOf (l ++ [awayO t])) out (i : Int) = some true := by
  have hA := jobsOf_len l
  have hT := timersOf_len l
  have hal : (l ++ [awayO t]).length ≤ 61 := by rw [List.length_append]; show l.length + 1 ≤ 61; omega
  intro d
  induction d with
  | zero =>
    intro i k out hi hk ho
    obtain ⟨k, rfl⟩ : ∃ z, k = z + 1 := ⟨k - 1, by omega⟩
    rw [List.take_of_length_le (by omega)] at ho
    have e1 : orders_Timers.f l = some (timersOf l) := by
      unfold orders_Timers.f
      rw [if_pos (by omega)]
      rfl
    have e2 : orders_Timers.f (l ++ [awayO t]) = some (timersOf (l ++ [awayO t])) := by
      unfold orders_Timers.f
      rw [if_pos (by omega)]
      rfl
    rw [remontoirlaw27_OrdersLeft.l0, if_neg (by omega), e1, e2]
    simp only [Option.bind_some]
    exact left_l1 (l := l) hal (by rw [ho]; exact jobs_away l t) rfl (away_none l t) (by omega) (timers_away l t) rfl (timersOf l).length 0 k [] (by omega) (by omega) (by simp)
  | succ d ih =>
    intro i k out hi hk ho
    obtain ⟨k, rfl⟩ : ∃ z, k = z + 1 := ⟨k - 1, by omega⟩
    have hr : rd (jobsOf l) (i : Int) = (jobsOf l)[i] := by
      unfold rd
      rw [Int.toNat_natCast, List.getD_eq_getElem?_getD, List.getElem?_eq_getElem (by omega)]
      rfl
    have hol : out.length ≤ i := by
      rw [ho]
      have := List.length_filter_le (fun x : Int => x != t) ((jobsOf l).take i)
      rw [List.length_take] at this
      omega
    rw [remontoirlaw27_OrdersLeft.l0, if_pos (by omega), if_pos (by omega), hr, w64s (by omega)]
    have hs : ((jobsOf l).take (i + 1)).filter (fun x => x != t) = ((jobsOf l).take i).filter (fun x => x != t) ++ [(jobsOf l)[i]].filter (fun x => x != t) := by
      rw [← List.filter_append, List.take_add_one, List.getElem?_eq_getElem (by omega)]
      rfl
    by_cases c : (jobsOf l)[i] = t
    · rw [if_pos c]
      refine ih (i + 1) k out (by omega) (by omega) ?_
      rw [hs, ← ho]
      simp [c]
    · rw [if_neg c, if_pos (by omega)]
      refine ih (i + 1) k _ (by omega) (by omega) ?_
      rw [hs, ← ho]
      simp [c]
theorem left_at (l : List SO) (t : Int) (k : Nat) (hk : 2000 ≤ k) : remontoirlaw27_OrdersLeft.f k l t = some true := by
  unfold remontoirlaw27_OrdersLeft.f
  by_cases c : (l.length : Int) > 60
  · rw [if_pos c, wakes_f k (by omega)]
    rfl
  · have e1 : orders_Jobs.f l = some (jobsOf l) := by
      unfold orders_Jobs.f
      rw [if_pos (by omega)]
      rfl
    have e2 : orders_Jobs.f (l ++ [awayO t]) = some (jobsOf (l ++ [awayO t])) := by
      unfold orders_Jobs.f
      rw [if_pos (by rw [List.length_append]; show l.length + 1 ≤ 100; omega)]
      rfl
    have hA := jobsOf_len l
    have key := left_l0 (t := t) (l := l) (by omega) (jobsOf l).length 0 k [] (by omega) (by omega) (by simp)
    have f1 : ([] : List SO).length + l.length < 3518437208883 := by show 0 + l.length < _; omega
    have f2 : l.length < 3518437208883 := by omega
    rw [if_neg c]
    simp only [Option.bind_some]
    rw [if_pos f1]
    simp only [Option.bind_some, List.nil_append]
    rw [if_pos f2, e1]
    simp only [Option.bind_some]
    rw [show l ++ [(⟨3, t, 0, 0, 0⟩ : SO)] = l ++ [awayO t] from rfl, e2]
    exact key
theorem OrdersLeft (l : List SO) (t : Int) (m : l.length ≤ Go.maxLen) (w0 : ∀ y ∈ l, True) (w1 : (Go.Lit.int .i64 t).wf = true) : ∃ k, remontoirlaw27_OrdersLeft.f k l t = some true := ⟨2000, left_at l t 2000 (Nat.le_refl _)⟩
end Go.Proofs.YtdfkbiffdcfnpaaDoor.Pure
/- A definition, an event, as parameters; rows of events and orders. -/
namespace Go.Proofs.YtdfkbiffdcfnpaaDoor.H
open Go.RowKit Go.Deep Go.ChangeShapes Go.WideShapes Go.Proofs.YtdfkbiffdcfnpaaDoorW.PrintWords
set_option linter.unusedVariables false
set_option maxRecDepth 100000
section
variable {K : Type} {enc : TypeId × Value → K} {W : World} {b : Nat} {spare : Nat → Bool} {held : Bool}
theorem opensO : HO.Opens enc Tryd.prog W b spare held 35 k35 (fun _ => True) :=
  HO.Opens.imp (HO.opens_struct5 (fun x : S35 => (x.f0, x.f1, x.f2, x.f3, x.f4)) S35.mk (fun _ _ _ _ _ => rfl) Tryd.underlying35 rfl rfl rfl rfl rfl (by kernel_rfl) (by kernel_rfl) (by kernel_rfl) (by kernel_rfl) (by kernel_rfl) (by kernel_rfl) (HO.opens_int (by kernel_rfl)) (HO.opens_int (by kernel_rfl)) (HO.opens_int (by kernel_rfl)) (HO.opens_int (by kernel_rfl)) (HO.opens_int (by kernel_rfl))) (fun _ _ => trivial)
end
end Go.Proofs.YtdfkbiffdcfnpaaDoor.H
