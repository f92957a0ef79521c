/- Parts of the proof of LawOrdersNone: words, contracts of the functions, plain laws. -/
import Derived.Test.YtdfkbiffdcfnpaaDoorBA02
import Derived.Test.YtdfkbiffdcfnpaaDoorBA04
import Derived.Test.YtdfkbiffdcfnpaaDoorBA05
-- Written by hp.py (a program of this session, over the kit's print.py), with hand-made contracts beside it.
namespace Go.Proofs.YtdfkbiffdcfnpaaDoor.H
open Go.RowKit Go.Proofs.YtdfkbiffdcfnpaaDoorW.PrintWords Go.Proofs.YtdfkbiffdcfnpaaDoorW.PrintLast Go.Proofs.YtdfkbiffdcfnpaaDoorW.PrintMore
attribute [local go_sem] max2_int min2_int max_two min_two max_three min_three max_four min_four   -- for this text's walks alone
set_option linter.unusedVariables false
set_option linter.unusedSimpArgs false

attribute [local go_sem high] eqA35
/-! ### remontoirlaw27_OrdersNone: function 5 -/
mutual
def remontoirlaw27_OrdersNone.j0 : Nat → Int → Bool → ByteArray → List (S45) → List (S47) → Int → Int → Int → Int → Option (Bool)
  | 0, _, _, _, _, _, _, _, _, _ => none
  | k + 1, x2, x21, x251000, x251001, x251002, x252000, x252001, x252002, x252003 => if x21 = true then (remontoirlaw27_OrdersNone.j1 k (wrap64 ((x251001.length : Int) + 1)) x251000 x251001 x251002 x252000 x252001 x252002 x252003) else (remontoirlaw27_OrdersNone.j1 k x2 x251000 x251001 x251002 x252000 x252001 x252002 x252003)
def remontoirlaw27_OrdersNone.j1 : Nat → Int → ByteArray → List (S45) → List (S47) → Int → Int → Int → Int → Option (Bool)
  | 0, _, _, _, _, _, _, _, _ => none
  | k + 1, x2, x251000, x251001, x251002, x252000, x252001, x252002, x252003 => (orders_Of.f k x251000 x251001 x251002 (([(⟨2, 0, x2, x252003⟩ : S32)] : List (S32)))).bind fun t257 => ((orders_Of.f k x251000 x251001 x251002 (([(⟨3, 0, x2, x252003⟩ : S32)] : List (S32)))).bind fun t263 => (if (t257.length : Int) = 1 then (if 0 < (t257.length : Int) then (if (!(((rd_T35 t257 0).f0) == 1) || (!(((rd_T35 t257 0).f1) == x252003) || (!(((rd_T35 t257 0).f2) == x2) || (!(((rd_T35 t257 0).f3) == 0) || (!(((rd_T35 t257 0).f4) == 0)))))) = true then (remontoirlaw27_OrdersNone.j2 k true x251000 x251001 x251002 x252000 x252001 x252002 x252003) else (if (t263.length : Int) = 1 then (if 0 < (t263.length : Int) then (remontoirlaw27_OrdersNone.j2 k (!(((rd_T35 t263 0).f0) == 2) || (!(((rd_T35 t263 0).f1) == x252003) || (!(((rd_T35 t263 0).f2) == x2) || (!(((rd_T35 t263 0).f3) == 0) || (!(((rd_T35 t263 0).f4) == 0)))))) x251000 x251001 x251002 x252000 x252001 x252002 x252003) else (none)) else (remontoirlaw27_OrdersNone.j2 k true x251000 x251001 x251002 x252000 x252001 x252002 x252003))) else (none)) else (remontoirlaw27_OrdersNone.j2 k true x251000 x251001 x251002 x252000 x252001 x252002 x252003)))
def remontoirlaw27_OrdersNone.j2 : Nat → Bool → ByteArray → List (S45) → List (S47) → Int → Int → Int → Int → Option (Bool)
  | 0, _, _, _, _, _, _, _, _ => none
  | k + 1, x67, x251000, x251001, x251002, x252000, x252001, x252002, x252003 => if x67 = true then (some false) else (if x252000 = 2 then (remontoirlaw27_OrdersNone.j3 k true x251000 x251001 x251002 x252000 x252001 x252002 x252003) else (if x252000 = 3 then (remontoirlaw27_OrdersNone.j3 k true x251000 x251001 x251002 x252000 x252001 x252002 x252003) else (remontoirlaw27_OrdersNone.j3 k (x252000 == 4) x251000 x251001 x251002 x252000 x252001 x252002 x252003)))
def remontoirlaw27_OrdersNone.j3 : Nat → Bool → ByteArray → List (S45) → List (S47) → Int → Int → Int → Int → Option (Bool)
  | 0, _, _, _, _, _, _, _, _ => none
  | k + 1, x80, x251000, x251001, x251002, x252000, x252001, x252002, x252003 => if x80 = true then ((orders_Of.f k x251000 x251001 x251002 (([(⟨x252000, x252001, x252002, x252003⟩ : S32)] : List (S32)))).bind fun t271 => (if (t271.length : Int) = 1 then ((remontoirlaw27_wakes.f k).bind fun t274 => (some t274)) else (some false))) else ((orders_Of.f k x251000 x251001 x251002 (([(⟨x252000, x252001, x252002, x252003⟩ : S32)] : List (S32)))).bind fun t278 => (if (t278.length : Int) = 0 then ((orders_Of.f k x251000 x251001 x251002 ([] : List (S32))).bind fun t281 => (if (t281.length : Int) = 0 then ((orders_Jobs.f ([] : List (S35))).bind fun t284 => (if (t284.length : Int) = 0 then ((orders_Timers.f ([] : List (S35))).bind fun t287 => (if (t287.length : Int) = 0 then ((remontoirlaw27_wakes.f k).bind fun t290 => (some t290)) else (some false))) else (some false))) else (some false))) else (some false)))
end
def remontoirlaw27_OrdersNone.f (k : Nat) (a0_0 : ByteArray) (l0_1 : List (S45)) (l0_2 : List (S47)) (a1_0 : Int) (a1_1 : Int) (a1_2 : Int) (a1_3 : Int) (a2 : Int) : Option (Bool) := (remontoirkeep_LightDef.f k a0_0 l0_1 l0_2).bind fun t252 => (if t252 = true then (if a2 ≥ 1 then (remontoirlaw27_OrdersNone.j0 k a2 (decide (a2 ≤ (l0_1.length : Int))) a0_0 l0_1 l0_2 a1_0 a1_1 a1_2 a1_3) else (remontoirlaw27_OrdersNone.j0 k a2 false a0_0 l0_1 l0_2 a1_0 a1_1 a1_2 a1_3)) else ((remontoirlaw27_wakes.f k).bind fun t253 => (some t253)))
theorem remontoirlaw27_OrdersNone.mono_l : ∀ k, (∀ y0 y1 y2 y3 y4 y5 y6 y7 y8, LeO (remontoirlaw27_OrdersNone.j0 k y0 y1 y2 y3 y4 y5 y6 y7 y8) (remontoirlaw27_OrdersNone.j0 (k + 1) y0 y1 y2 y3 y4 y5 y6 y7 y8)) ∧ (∀ y0 y1 y2 y3 y4 y5 y6 y7, LeO (remontoirlaw27_OrdersNone.j1 k y0 y1 y2 y3 y4 y5 y6 y7) (remontoirlaw27_OrdersNone.j1 (k + 1) y0 y1 y2 y3 y4 y5 y6 y7)) ∧ (∀ y0 y1 y2 y3 y4 y5 y6 y7, LeO (remontoirlaw27_OrdersNone.j2 k y0 y1 y2 y3 y4 y5 y6 y7) (remontoirlaw27_OrdersNone.j2 (k + 1) y0 y1 y2 y3 y4 y5 y6 y7)) ∧ (∀ y0 y1 y2 y3 y4 y5 y6 y7, LeO (remontoirlaw27_OrdersNone.j3 k y0 y1 y2 y3 y4 y5 y6 y7) (remontoirlaw27_OrdersNone.j3 (k + 1) y0 y1 y2 y3 y4 y5 y6 y7))
  | 0 => ⟨fun _ _ _ _ _ _ _ _ _ r h => by simp [remontoirlaw27_OrdersNone.j0] at h, fun _ _ _ _ _ _ _ _ r h => by simp [remontoirlaw27_OrdersNone.j1] at h, fun _ _ _ _ _ _ _ _ r h => by simp [remontoirlaw27_OrdersNone.j2] at h, fun _ _ _ _ _ _ _ _ r h => by simp [remontoirlaw27_OrdersNone.j3] at h⟩
  | k + 1 => by
    obtain ⟨ih0, ih1, ih2, ih3⟩ := remontoirlaw27_OrdersNone.mono_l k
    refine ⟨?_, ?_, ?_, ?_⟩
    · intro y0 y1 y2 y3 y4 y5 y6 y7 y8
      unfold remontoirlaw27_OrdersNone.j0
      repeat' first
      | (with_reducible exact ih0 _ _ _ _ _ _ _ _ _)
      | (with_reducible exact ih1 _ _ _ _ _ _ _ _)
      | (with_reducible exact ih2 _ _ _ _ _ _ _ _)
      | (with_reducible exact ih3 _ _ _ _ _ _ _ _)
      | (with_reducible exact orders_Of.mono _ _ _ _ _)
      | (with_reducible exact remontoirkeep_LightDef.mono _ _ _ _)
      | (with_reducible exact remontoirlaw27_wakes.mono _)
      | (with_reducible exact LeO.refl _)
      | (with_reducible exact LeO.none _)
      | (with_reducible refine LeO.ite ?_ ?_)
      | (with_reducible refine LeO.bind ?_ (fun _ => ?_))
      | exact ih0 _ _ _ _ _ _ _ _ _
      | exact ih1 _ _ _ _ _ _ _ _
      | exact ih2 _ _ _ _ _ _ _ _
      | exact ih3 _ _ _ _ _ _ _ _
      | exact orders_Of.mono _ _ _ _ _
      | exact remontoirkeep_LightDef.mono _ _ _ _
      | exact remontoirlaw27_wakes.mono _
      | exact LeO.none _
      | refine LeO.ite ?_ ?_
      | refine LeO.bind ?_ (fun _ => ?_)
    · intro y0 y1 y2 y3 y4 y5 y6 y7
      unfold remontoirlaw27_OrdersNone.j1
      repeat' first
      | (with_reducible exact ih0 _ _ _ _ _ _ _ _ _)
      | (with_reducible exact ih1 _ _ _ _ _ _ _ _)
      | (with_reducible exact ih2 _ _ _ _ _ _ _ _)
      | (with_reducible exact ih3 _ _ _ _ _ _ _ _)
      | (with_reducible exact orders_Of.mono _ _ _ _ _)
      | (with_reducible exact remontoirkeep_LightDef.mono _ _ _ _)
      | (with_reducible exact remontoirlaw27_wakes.mono _)
      | (with_reducible exact LeO.refl _)
      | (with_reducible exact LeO.none _)
      | (with_reducible refine LeO.ite ?_ ?_)
      | (with_reducible refine LeO.bind ?_ (fun _ => ?_))
      | exact ih0 _ _ _ _ _ _ _ _ _
      | exact ih1 _ _ _ _ _ _ _ _
      | exact ih2 _ _ _ _ _ _ _ _
      | exact ih3 _ _ _ _ _ _ _ _
      | exact orders_Of.mono _ _ _ _ _
      | exact remontoirkeep_LightDef.mono _ _ _ _
      | exact remontoirlaw27_wakes.mono _
      | exact LeO.none _
      | refine LeO.ite ?_ ?_
      | refine LeO.bind ?_ (fun _ => ?_)
    · intro y0 y1 y2 y3 y4 y5 y6 y7
      unfold remontoirlaw27_OrdersNone.j2
      repeat' first
      | (with_reducible exact ih0 _ _ _ _ _ _ _ _ _)
      | (with_reducible exact ih1 _ _ _ _ _ _ _ _)
      | (with_reducible exact ih2 _ _ _ _ _ _ _ _)
      | (with_reducible exact ih3 _ _ _ _ _ _ _ _)
      | (with_reducible exact orders_Of.mono _ _ _ _ _)
      | (with_reducible exact remontoirkeep_LightDef.mono _ _ _ _)
      | (with_reducible exact remontoirlaw27_wakes.mono _)
      | (with_reducible exact LeO.refl _)
      | (with_reducible exact LeO.none _)
      | (with_reducible refine LeO.ite ?_ ?_)
      | (with_reducible refine LeO.bind ?_ (fun _ => ?_))
      | exact ih0 _ _ _ _ _ _ _ _ _
      | exact ih1 _ _ _ _ _ _ _ _
      | exact ih2 _ _ _ _ _ _ _ _
      | exact ih3 _ _ _ _ _ _ _ _
      | exact orders_Of.mono _ _ _ _ _
      | exact remontoirkeep_LightDef.mono _ _ _ _
      | exact remontoirlaw27_wakes.mono _
      | exact LeO.none _
      | refine LeO.ite ?_ ?_
      | refine LeO.bind ?_ (fun _ => ?_)
    · intro y0 y1 y2 y3 y4 y5 y6 y7
      unfold remontoirlaw27_OrdersNone.j3
      repeat' first
      | (with_reducible exact ih0 _ _ _ _ _ _ _ _ _)
      | (with_reducible exact ih1 _ _ _ _ _ _ _ _)
      | (with_reducible exact ih2 _ _ _ _ _ _ _ _)
      | (with_reducible exact ih3 _ _ _ _ _ _ _ _)
      | (with_reducible exact orders_Of.mono _ _ _ _ _)
      | (with_reducible exact remontoirkeep_LightDef.mono _ _ _ _)
      | (with_reducible exact remontoirlaw27_wakes.mono _)
      | (with_reducible exact LeO.refl _)
      | (with_reducible exact LeO.none _)
      | (with_reducible refine LeO.ite ?_ ?_)
      | (with_reducible refine LeO.bind ?_ (fun _ => ?_))
      | exact ih0 _ _ _ _ _ _ _ _ _
      | exact ih1 _ _ _ _ _ _ _ _
      | exact ih2 _ _ _ _ _ _ _ _
      | exact ih3 _ _ _ _ _ _ _ _
      | exact orders_Of.mono _ _ _ _ _
      | exact remontoirkeep_LightDef.mono _ _ _ _
      | exact remontoirlaw27_wakes.mono _
      | exact LeO.none _
      | refine LeO.ite ?_ ?_
      | refine LeO.bind ?_ (fun _ => ?_)
theorem remontoirlaw27_OrdersNone.mono : ∀ a0 a1 a2 a3 a4 a5 a6 a7 k, LeO (remontoirlaw27_OrdersNone.f k a0 a1 a2 a3 a4 a5 a6 a7) (remontoirlaw27_OrdersNone.f (k + 1) a0 a1 a2 a3 a4 a5 a6 a7) := by
  intro a0 a1 a2 a3 a4 a5 a6 a7 k
  obtain ⟨ih0, ih1, ih2, ih3⟩ := remontoirlaw27_OrdersNone.mono_l k
  unfold remontoirlaw27_OrdersNone.f
  repeat' first
      | (with_reducible exact ih0 _ _ _ _ _ _ _ _ _)
      | (with_reducible exact ih1 _ _ _ _ _ _ _ _)
      | (with_reducible exact ih2 _ _ _ _ _ _ _ _)
      | (with_reducible exact ih3 _ _ _ _ _ _ _ _)
      | (with_reducible exact orders_Of.mono _ _ _ _ _)
      | (with_reducible exact remontoirkeep_LightDef.mono _ _ _ _)
      | (with_reducible exact remontoirlaw27_wakes.mono _)
      | (with_reducible exact LeO.refl _)
      | (with_reducible exact LeO.none _)
      | (with_reducible refine LeO.ite ?_ ?_)
      | (with_reducible refine LeO.bind ?_ (fun _ => ?_))
      | exact ih0 _ _ _ _ _ _ _ _ _
      | exact ih1 _ _ _ _ _ _ _ _
      | exact ih2 _ _ _ _ _ _ _ _
      | exact ih3 _ _ _ _ _ _ _ _
      | exact orders_Of.mono _ _ _ _ _
      | exact remontoirkeep_LightDef.mono _ _ _ _
      | exact remontoirlaw27_wakes.mono _
      | exact LeO.none _
      | refine LeO.ite ?_ ?_
      | refine LeO.bind ?_ (fun _ => ?_)
set_option maxHeartbeats 8000000 in
set_option maxRecDepth 100000 in
theorem remontoirlaw27_OrdersNone.calls (k : Nat) (a0_0 : ByteArray) (A0_1 : Option Addr) (c0_1 : Nat) (l0_1 : List (S45)) (A0_2 : Option Addr) (c0_2 : Nat) (l0_2 : List (S47)) (a1_0 : Int) (a1_1 : Int) (a1_2 : Int) (a1_3 : Int) (a2 : Int) (w : World) (hr0_1 : Kd.C k45 w A0_1 l0_1.length l0_1) (hc0_1 : l0_1.length ≤ c0_1) (hr0_2 : Kd.C k47 w A0_2 l0_2.length l0_2) (hc0_2 : l0_2.length ≤ c0_2) (h : remontoirlaw27_OrdersNone.f k a0_0 l0_1 l0_2 a1_0 a1_1 a1_2 a1_3 a2 = some true) :
    Calls Tryd.prog 5 #[.agg #[.string a0_0, .slice A0_1 l0_1.length c0_1, .slice A0_2 l0_2.length c0_2], .agg #[.int .i64 a1_0, .int .i64 a1_1, .int .i64 a1_2, .int .i64 a1_3], .int .i64 a2] w fun e w' => e = .returned (.bool true) ∧ Below w.heap.size w w' := by
  have hu25 := Tryd.underlying25
  have hu32 := Tryd.underlying32
  have hu35 := Tryd.underlying35
  have HR0_1 := Aside0.mk hr0_1
  have HC0_1 := Aside0.mk hc0_1
  clear hr0_1 hc0_1
  have HR0_2 := Aside0.mk hr0_2
  have HC0_2 := Aside0.mk hc0_2
  clear hr0_2 hc0_2
  have HB := Aside0.mk (Below.refl w.heap.size w)
  have H : ((remontoirkeep_LightDef.f k a0_0 l0_1 l0_2).bind fun t252 => (if t252 = true then (if a2 ≥ 1 then (remontoirlaw27_OrdersNone.j0 k a2 (decide (a2 ≤ (l0_1.length : Int))) a0_0 l0_1 l0_2 a1_0 a1_1 a1_2 a1_3) else (remontoirlaw27_OrdersNone.j0 k a2 false a0_0 l0_1 l0_2 a1_0 a1_1 a1_2 a1_3)) else ((remontoirlaw27_wakes.f k).bind fun t253 => (some t253)))) = some true := h
  clear h
  replace H := Option.bind_eq_some_iff.mp H
  obtain ⟨t252, A40, H⟩ := H
  replace H : (if t252 = true then (if a2 ≥ 1 then (remontoirlaw27_OrdersNone.j0 k a2 (decide (a2 ≤ (l0_1.length : Int))) a0_0 l0_1 l0_2 a1_0 a1_1 a1_2 a1_3) else (remontoirlaw27_OrdersNone.j0 k a2 false a0_0 l0_1 l0_2 a1_0 a1_1 a1_2 a1_3)) else ((remontoirlaw27_wakes.f k).bind fun t253 => (some t253))) = some true := H
  have A4 := Aside0.mk A40
  clear A40
  by_cases c5 : t252 = true
  · subst c5
    have H1 : (if a2 ≥ 1 then (remontoirlaw27_OrdersNone.j0 k a2 (decide (a2 ≤ (l0_1.length : Int))) a0_0 l0_1 l0_2 a1_0 a1_1 a1_2 a1_3) else (remontoirlaw27_OrdersNone.j0 k a2 false a0_0 l0_1 l0_2 a1_0 a1_1 a1_2 a1_3)) = some true := by rw [if_pos rfl] at H; exact H
    clear H
    have H := H1
    clear H1
    have HC6 := Aside0.mk H
    clear H
    go_enter Tryd.func5, Tryd.ntmps5
    go_upto_region 3 with (first | ((with_reducible refine gate_dst (N := 3) rfl ?_); (try (refine gate_guard (by rfl) ?_; dsimp only)); refine box_event ?hg (N := 3) ?hd (cs := #[.string a0_0, .slice A0_1 l0_1.length c0_1, .slice A0_2 l0_2.length c0_2]) (t := 25) ?hr ?_; (case hd => rfl); (case hg => rfl); (case hr => first | (go_simp; done) | (go_simp; rfl)); intro gb250 hg w7 hbox hb; have n0_ := Aside0.mk (below_step (by repeat (first | (with_reducible first | exact HB.out | apply below_alloc | apply pw_below_drewN | apply below_drew1) | exact HB.out)) hb); have n1_ := Aside0.mk (hbox); have n2_ := Aside0.mk ((by rw [hg]; exact (below_size (by repeat (first | (with_reducible first | exact HB.out | apply below_alloc | apply pw_below_drewN | apply below_drew1) | exact HB.out))) : w.heap.size ≤ gb250)); have n3_ := Aside0.mk ((by rw [hg]; exact (below_size (by repeat (first | (with_reducible first | exact HB.out | apply below_alloc | apply pw_below_drewN | apply below_drew1) | exact HB.out))) : w.heap.size ≤ gb250)); clear HB; have HB := n0_; have BK250 := n1_; have GW250 := n2_; have GE250 := n3_; clear n0_ n1_ n2_ n3_; clear hb hbox hg) | ((with_reducible refine gate_dst (N := 4) rfl ?_); (try (refine gate_guard (by rfl) ?_; dsimp only)); refine box_event ?hg (N := 4) ?hd (cs := #[.int .i64 a1_0, .int .i64 a1_1, .int .i64 a1_2, .int .i64 a1_3]) (t := 32) ?hr ?_; (case hd => rfl); (case hg => rfl); (case hr => first | (go_simp; done) | (go_simp; rfl)); intro gb251 hg w8 hbox hb; have n0_ := Aside0.mk (blk_below (g := gb250) (o := .cells #[.string a0_0, .slice A0_1 l0_1.length c0_1, .slice A0_2 l0_2.length c0_2] 25 (0, 0)) (by (with_reducible repeat (first | refine blk_drewN ?_ _ | refine blk_drew ?_ | refine blk_alloc ?_ _)); exact BK250.out) hb); have n1_ := Aside0.mk (below_step (by repeat (first | (with_reducible first | exact HB.out | apply below_alloc | apply pw_below_drewN | apply below_drew1 | refine below_set ?_ GE250.out) | exact HB.out)) hb); have n2_ := Aside0.mk (hbox); have n3_ := Aside0.mk ((by rw [hg]; exact (below_size (by repeat (first | (with_reducible first | exact HB.out | apply below_alloc | apply pw_below_drewN | apply below_drew1 | refine below_set ?_ GE250.out) | exact HB.out))) : w.heap.size ≤ gb251)); have n4_ := Aside0.mk ((by rw [hg]; exact (below_size (by repeat (first | (with_reducible first | exact HB.out | apply below_alloc | apply pw_below_drewN | apply below_drew1 | refine below_set ?_ GE250.out) | exact HB.out))) : w.heap.size ≤ gb251)); have n5_ := Aside0.mk ((by rw [hg]; exact Nat.ne_of_lt (blk_lt (g := gb250) (o := .cells #[.string a0_0, .slice A0_1 l0_1.length c0_1, .slice A0_2 l0_2.length c0_2] 25 (0, 0)) (by (with_reducible repeat (first | refine blk_drewN ?_ _ | refine blk_drew ?_ | refine blk_alloc ?_ _)); exact BK250.out)) : gb250 ≠ gb251)); have n6_ := Aside0.mk ((by rw [hg]; exact Nat.ne_of_gt (blk_lt (g := gb250) (o := .cells #[.string a0_0, .slice A0_1 l0_1.length c0_1, .slice A0_2 l0_2.length c0_2] 25 (0, 0)) (by (with_reducible repeat (first | refine blk_drewN ?_ _ | refine blk_drew ?_ | refine blk_alloc ?_ _)); exact BK250.out)) : gb251 ≠ gb250)); clear BK250; clear HB; have BK250 := n0_; have HB := n1_; have BK251 := n2_; have GW251 := n3_; have GE251 := n4_; have NB250_251 := n5_; have NB251_250 := n6_; clear n0_ n1_ n2_ n3_ n4_ n5_ n6_; clear hb hbox hg; have hnb9 := NB250_251.out; have hnc9 := NB251_250.out; have hcz10_0 : w8.cell? ⟨gb250, 0, none⟩ = some (.string a0_0) := (blk_cell BK250.out 0).trans rfl; have hcz10_1 : w8.cell? ⟨gb250, 1, none⟩ = some (.slice A0_1 l0_1.length c0_1) := (blk_cell BK250.out 1).trans rfl; have hcz10_2 : w8.cell? ⟨gb250, 2, none⟩ = some (.slice A0_2 l0_2.length c0_2) := (blk_cell BK250.out 2).trans rfl; have hfz10_0 := blk_frozen BK250.out 0; have hfz10_1 := blk_frozen BK250.out 1; have hfz10_2 := blk_frozen BK250.out 2) | (go_at_call 6; (with_reducible refine (remontoirkeep_LightDef.calls k a0_0 _ _ l0_1 _ _ l0_2 true _ ?side1 ?side2 ?side3 ?side4 A4.out).mono ?_); (case side1 => repeat (first | exact (Kd.C_below HR0_1.out HB.out) | (with_reducible refine Kd.C_alloc ?_ _) | (with_reducible refine Kd.C_drewN ?_ _) | (with_reducible refine Kd.C_drew ?_))); (case side2 => exact HC0_1.out); (case side3 => repeat (first | exact (Kd.C_below HR0_2.out HB.out) | (with_reducible refine Kd.C_alloc ?_ _) | (with_reducible refine Kd.C_drewN ?_ _) | (with_reducible refine Kd.C_drew ?_))); (case side4 => exact HC0_2.out); rintro e w11 ⟨rfl, hb⟩; have n0_ := Aside0.mk (blk_below (g := gb250) (o := .cells #[.string a0_0, .slice A0_1 l0_1.length c0_1, .slice A0_2 l0_2.length c0_2] 25 (0, 0)) (by (with_reducible repeat (first | refine blk_drewN ?_ _ | refine blk_drew ?_ | refine blk_alloc ?_ _)); exact BK250.out) hb); have n1_ := Aside0.mk (blk_below (g := gb251) (o := .cells #[.int .i64 a1_0, .int .i64 a1_1, .int .i64 a1_2, .int .i64 a1_3] 32 (0, 0)) (by (with_reducible repeat (first | refine blk_drewN ?_ _ | refine blk_drew ?_ | refine blk_alloc ?_ _)); exact BK251.out) hb); have n2_ := Aside0.mk (below_step (by repeat (first | (with_reducible first | exact HB.out | apply below_alloc | apply pw_below_drewN | apply below_drew1 | refine below_set ?_ GE250.out | refine below_set ?_ GE251.out) | exact HB.out)) hb); clear BK250; clear BK251; clear HB; have BK250 := n0_; have BK251 := n1_; have HB := n2_; clear n0_ n1_ n2_; (try clear hb); (try clear hb2); (try clear hk); (try clear hi)))
    repeat (go_quiet (first | ((with_reducible refine gate_dst (N := 3) rfl ?_); (try (refine gate_guard (by rfl) ?_; dsimp only)); refine box_event ?hg (N := 3) ?hd (cs := #[.string a0_0, .slice A0_1 l0_1.length c0_1, .slice A0_2 l0_2.length c0_2]) (t := 25) ?hr ?_; (case hd => rfl); (case hg => rfl); (case hr => first | (go_simp; done) | (go_simp; rfl)); intro gb250 hg w7 hbox hb; have n0_ := Aside0.mk (below_step (by repeat (first | (with_reducible first | exact HB.out | apply below_alloc | apply pw_below_drewN | apply below_drew1) | exact HB.out)) hb); have n1_ := Aside0.mk (hbox); have n2_ := Aside0.mk ((by rw [hg]; exact (below_size (by repeat (first | (with_reducible first | exact HB.out | apply below_alloc | apply pw_below_drewN | apply below_drew1) | exact HB.out))) : w.heap.size ≤ gb250)); have n3_ := Aside0.mk ((by rw [hg]; exact (below_size (by repeat (first | (with_reducible first | exact HB.out | apply below_alloc | apply pw_below_drewN | apply below_drew1) | exact HB.out))) : w.heap.size ≤ gb250)); clear HB; have HB := n0_; have BK250 := n1_; have GW250 := n2_; have GE250 := n3_; clear n0_ n1_ n2_ n3_; clear hb hbox hg) | ((with_reducible refine gate_dst (N := 4) rfl ?_); (try (refine gate_guard (by rfl) ?_; dsimp only)); refine box_event ?hg (N := 4) ?hd (cs := #[.int .i64 a1_0, .int .i64 a1_1, .int .i64 a1_2, .int .i64 a1_3]) (t := 32) ?hr ?_; (case hd => rfl); (case hg => rfl); (case hr => first | (go_simp; done) | (go_simp; rfl)); intro gb251 hg w8 hbox hb; have n0_ := Aside0.mk (blk_below (g := gb250) (o := .cells #[.string a0_0, .slice A0_1 l0_1.length c0_1, .slice A0_2 l0_2.length c0_2] 25 (0, 0)) (by (with_reducible repeat (first | refine blk_drewN ?_ _ | refine blk_drew ?_ | refine blk_alloc ?_ _)); exact BK250.out) hb); have n1_ := Aside0.mk (below_step (by repeat (first | (with_reducible first | exact HB.out | apply below_alloc | apply pw_below_drewN | apply below_drew1 | refine below_set ?_ GE250.out) | exact HB.out)) hb); have n2_ := Aside0.mk (hbox); have n3_ := Aside0.mk ((by rw [hg]; exact (below_size (by repeat (first | (with_reducible first | exact HB.out | apply below_alloc | apply pw_below_drewN | apply below_drew1 | refine below_set ?_ GE250.out) | exact HB.out))) : w.heap.size ≤ gb251)); have n4_ := Aside0.mk ((by rw [hg]; exact (below_size (by repeat (first | (with_reducible first | exact HB.out | apply below_alloc | apply pw_below_drewN | apply below_drew1 | refine below_set ?_ GE250.out) | exact HB.out))) : w.heap.size ≤ gb251)); have n5_ := Aside0.mk ((by rw [hg]; exact Nat.ne_of_lt (blk_lt (g := gb250) (o := .cells #[.string a0_0, .slice A0_1 l0_1.length c0_1, .slice A0_2 l0_2.length c0_2] 25 (0, 0)) (by (with_reducible repeat (first | refine blk_drewN ?_ _ | refine blk_drew ?_ | refine blk_alloc ?_ _)); exact BK250.out)) : gb250 ≠ gb251)); have n6_ := Aside0.mk ((by rw [hg]; exact Nat.ne_of_gt (blk_lt (g := gb250) (o := .cells #[.string a0_0, .slice A0_1 l0_1.length c0_1, .slice A0_2 l0_2.length c0_2] 25 (0, 0)) (by (with_reducible repeat (first | refine blk_drewN ?_ _ | refine blk_drew ?_ | refine blk_alloc ?_ _)); exact BK250.out)) : gb251 ≠ gb250)); clear BK250; clear HB; have BK250 := n0_; have HB := n1_; have BK251 := n2_; have GW251 := n3_; have GE251 := n4_; have NB250_251 := n5_; have NB251_250 := n6_; clear n0_ n1_ n2_ n3_ n4_ n5_ n6_; clear hb hbox hg; have hnb9 := NB250_251.out; have hnc9 := NB251_250.out; have hcz10_0 : w8.cell? ⟨gb250, 0, none⟩ = some (.string a0_0) := (blk_cell BK250.out 0).trans rfl; have hcz10_1 : w8.cell? ⟨gb250, 1, none⟩ = some (.slice A0_1 l0_1.length c0_1) := (blk_cell BK250.out 1).trans rfl; have hcz10_2 : w8.cell? ⟨gb250, 2, none⟩ = some (.slice A0_2 l0_2.length c0_2) := (blk_cell BK250.out 2).trans rfl; have hfz10_0 := blk_frozen BK250.out 0; have hfz10_1 := blk_frozen BK250.out 1; have hfz10_2 := blk_frozen BK250.out 2) | (go_at_call 6; (with_reducible refine (remontoirkeep_LightDef.calls k a0_0 _ _ l0_1 _ _ l0_2 true _ ?side1 ?side2 ?side3 ?side4 A4.out).mono ?_); (case side1 => repeat (first | exact (Kd.C_below HR0_1.out HB.out) | (with_reducible refine Kd.C_alloc ?_ _) | (with_reducible refine Kd.C_drewN ?_ _) | (with_reducible refine Kd.C_drew ?_))); (case side2 => exact HC0_1.out); (case side3 => repeat (first | exact (Kd.C_below HR0_2.out HB.out) | (with_reducible refine Kd.C_alloc ?_ _) | (with_reducible refine Kd.C_drewN ?_ _) | (with_reducible refine Kd.C_drew ?_))); (case side4 => exact HC0_2.out); rintro e w11 ⟨rfl, hb⟩; have n0_ := Aside0.mk (blk_below (g := gb250) (o := .cells #[.string a0_0, .slice A0_1 l0_1.length c0_1, .slice A0_2 l0_2.length c0_2] 25 (0, 0)) (by (with_reducible repeat (first | refine blk_drewN ?_ _ | refine blk_drew ?_ | refine blk_alloc ?_ _)); exact BK250.out) hb); have n1_ := Aside0.mk (blk_below (g := gb251) (o := .cells #[.int .i64 a1_0, .int .i64 a1_1, .int .i64 a1_2, .int .i64 a1_3] 32 (0, 0)) (by (with_reducible repeat (first | refine blk_drewN ?_ _ | refine blk_drew ?_ | refine blk_alloc ?_ _)); exact BK251.out) hb); have n2_ := Aside0.mk (below_step (by repeat (first | (with_reducible first | exact HB.out | apply below_alloc | apply pw_below_drewN | apply below_drew1 | refine below_set ?_ GE250.out | refine below_set ?_ GE251.out) | exact HB.out)) hb); clear BK250; clear BK251; clear HB; have BK250 := n0_; have BK251 := n1_; have HB := n2_; clear n0_ n1_ n2_; (try clear hb); (try clear hb2); (try clear hk); (try clear hi))); go_upto_region 3 with (first | ((with_reducible refine gate_dst (N := 3) rfl ?_); (try (refine gate_guard (by rfl) ?_; dsimp only)); refine box_event ?hg (N := 3) ?hd (cs := #[.string a0_0, .slice A0_1 l0_1.length c0_1, .slice A0_2 l0_2.length c0_2]) (t := 25) ?hr ?_; (case hd => rfl); (case hg => rfl); (case hr => first | (go_simp; done) | (go_simp; rfl)); intro gb250 hg w7 hbox hb; have n0_ := Aside0.mk (below_step (by repeat (first | (with_reducible first | exact HB.out | apply below_alloc | apply pw_below_drewN | apply below_drew1) | exact HB.out)) hb); have n1_ := Aside0.mk (hbox); have n2_ := Aside0.mk ((by rw [hg]; exact (below_size (by repeat (first | (with_reducible first | exact HB.out | apply below_alloc | apply pw_below_drewN | apply below_drew1) | exact HB.out))) : w.heap.size ≤ gb250)); have n3_ := Aside0.mk ((by rw [hg]; exact (below_size (by repeat (first | (with_reducible first | exact HB.out | apply below_alloc | apply pw_below_drewN | apply below_drew1) | exact HB.out))) : w.heap.size ≤ gb250)); clear HB; have HB := n0_; have BK250 := n1_; have GW250 := n2_; have GE250 := n3_; clear n0_ n1_ n2_ n3_; clear hb hbox hg) | ((with_reducible refine gate_dst (N := 4) rfl ?_); (try (refine gate_guard (by rfl) ?_; dsimp only)); refine box_event ?hg (N := 4) ?hd (cs := #[.int .i64 a1_0, .int .i64 a1_1, .int .i64 a1_2, .int .i64 a1_3]) (t := 32) ?hr ?_; (case hd => rfl); (case hg => rfl); (case hr => first | (go_simp; done) | (go_simp; rfl)); intro gb251 hg w8 hbox hb; have n0_ := Aside0.mk (blk_below (g := gb250) (o := .cells #[.string a0_0, .slice A0_1 l0_1.length c0_1, .slice A0_2 l0_2.length c0_2] 25 (0, 0)) (by (with_reducible repeat (first | refine blk_drewN ?_ _ | refine blk_drew ?_ | refine blk_alloc ?_ _)); exact BK250.out) hb); have n1_ := Aside0.mk (below_step (by repeat (first | (with_reducible first | exact HB.out | apply below_alloc | apply pw_below_drewN | apply below_drew1 | refine below_set ?_ GE250.out) | exact HB.out)) hb); have n2_ := Aside0.mk (hbox); have n3_ := Aside0.mk ((by rw [hg]; exact (below_size (by repeat (first | (with_reducible first | exact HB.out | apply below_alloc | apply pw_below_drewN | apply below_drew1 | refine below_set ?_ GE250.out) | exact HB.out))) : w.heap.size ≤ gb251)); have n4_ := Aside0.mk ((by rw [hg]; exact (below_size (by repeat (first | (with_reducible first | exact HB.out | apply below_alloc | apply pw_below_drewN | apply below_drew1 | refine below_set ?_ GE250.out) | exact HB.out))) : w.heap.size ≤ gb251)); have n5_ := Aside0.mk ((by rw [hg]; exact Nat.ne_of_lt (blk_lt (g := gb250) (o := .cells #[.string a0_0, .slice A0_1 l0_1.length c0_1, .slice A0_2 l0_2.length c0_2] 25 (0, 0)) (by (with_reducible repeat (first | refine blk_drewN ?_ _ | refine blk_drew ?_ | refine blk_alloc ?_ _)); exact BK250.out)) : gb250 ≠ gb251)); have n6_ := Aside0.mk ((by rw [hg]; exact Nat.ne_of_gt (blk_lt (g := gb250) (o := .cells #[.string a0_0, .slice A0_1 l0_1.length c0_1, .slice A0_2 l0_2.length c0_2] 25 (0, 0)) (by (with_reducible repeat (first | refine blk_drewN ?_ _ | refine blk_drew ?_ | refine blk_alloc ?_ _)); exact BK250.out)) : gb251 ≠ gb250)); clear BK250; clear HB; have BK250 := n0_; have HB := n1_; have BK251 := n2_; have GW251 := n3_; have GE251 := n4_; have NB250_251 := n5_; have NB251_250 := n6_; clear n0_ n1_ n2_ n3_ n4_ n5_ n6_; clear hb hbox hg; have hnb9 := NB250_251.out; have hnc9 := NB251_250.out; have hcz10_0 : w8.cell? ⟨gb250, 0, none⟩ = some (.string a0_0) := (blk_cell BK250.out 0).trans rfl; have hcz10_1 : w8.cell? ⟨gb250, 1, none⟩ = some (.slice A0_1 l0_1.length c0_1) := (blk_cell BK250.out 1).trans rfl; have hcz10_2 : w8.cell? ⟨gb250, 2, none⟩ = some (.slice A0_2 l0_2.length c0_2) := (blk_cell BK250.out 2).trans rfl; have hfz10_0 := blk_frozen BK250.out 0; have hfz10_1 := blk_frozen BK250.out 1; have hfz10_2 := blk_frozen BK250.out 2) | (go_at_call 6; (with_reducible refine (remontoirkeep_LightDef.calls k a0_0 _ _ l0_1 _ _ l0_2 true _ ?side1 ?side2 ?side3 ?side4 A4.out).mono ?_); (case side1 => repeat (first | exact (Kd.C_below HR0_1.out HB.out) | (with_reducible refine Kd.C_alloc ?_ _) | (with_reducible refine Kd.C_drewN ?_ _) | (with_reducible refine Kd.C_drew ?_))); (case side2 => exact HC0_1.out); (case side3 => repeat (first | exact (Kd.C_below HR0_2.out HB.out) | (with_reducible refine Kd.C_alloc ?_ _) | (with_reducible refine Kd.C_drewN ?_ _) | (with_reducible refine Kd.C_drew ?_))); (case side4 => exact HC0_2.out); rintro e w11 ⟨rfl, hb⟩; have n0_ := Aside0.mk (blk_below (g := gb250) (o := .cells #[.string a0_0, .slice A0_1 l0_1.length c0_1, .slice A0_2 l0_2.length c0_2] 25 (0, 0)) (by (with_reducible repeat (first | refine blk_drewN ?_ _ | refine blk_drew ?_ | refine blk_alloc ?_ _)); exact BK250.out) hb); have n1_ := Aside0.mk (blk_below (g := gb251) (o := .cells #[.int .i64 a1_0, .int .i64 a1_1, .int .i64 a1_2, .int .i64 a1_3] 32 (0, 0)) (by (with_reducible repeat (first | refine blk_drewN ?_ _ | refine blk_drew ?_ | refine blk_alloc ?_ _)); exact BK251.out) hb); have n2_ := Aside0.mk (below_step (by repeat (first | (with_reducible first | exact HB.out | apply below_alloc | apply pw_below_drewN | apply below_drew1 | refine below_set ?_ GE250.out | refine below_set ?_ GE251.out) | exact HB.out)) hb); clear BK250; clear BK251; clear HB; have BK250 := n0_; have BK251 := n1_; have HB := n2_; clear n0_ n1_ n2_; (try clear hb); (try clear hb2); (try clear hk); (try clear hi))))
    (try simp only [Act.put, List.setIfInBounds_toArray, List.set_cons_zero, List.set_cons_succ])
    go_cut [21] (fun v21 wc => ∃ (kq : Nat) (x21_5 : Bool), v21 = .bool x21_5 ∧ Aside0 (remontoirlaw27_OrdersNone.j0 kq a2 x21_5 a0_0 l0_1 l0_2 a1_0 a1_1 a1_2 a1_3 = some true) ∧ Aside0 (kq ≤ k) ∧ Aside0 (wc.heap[gb250]? = some (.cells #[.string a0_0, (.slice A0_1 l0_1.length c0_1), (.slice A0_2 l0_2.length c0_2)] 25 (0, 0))) ∧ Aside0 (wc.heap[gb251]? = some (.cells #[.int .i64 a1_0, .int .i64 a1_1, .int .i64 a1_2, .int .i64 a1_3] 32 (0, 0))) ∧ Aside0 (Below w.heap.size w wc))
    case first =>
      have H := HC6.out
      clear HC6
      by_cases c12 : a2 ≥ 1
      · rw [if_pos c12] at H
        have c12b0 : decide (1 ≤ a2) = true := decide_eq_true c12
        clear c12
        (first | rw [c12b0] | (simp only [i64_w, i32_w]; rw [c12b0]) | skip)
        have H' := Aside0.mk H
        clear H
        have hnb13 := NB250_251.out
        have hnc13 := NB251_250.out
        have hcz14_0 : w11.cell? ⟨gb250, 0, none⟩ = some (.string a0_0) := (blk_cell BK250.out 0).trans rfl
        have hcz14_1 : w11.cell? ⟨gb250, 1, none⟩ = some (.slice A0_1 l0_1.length c0_1) := (blk_cell BK250.out 1).trans rfl
        have hcz14_2 : w11.cell? ⟨gb250, 2, none⟩ = some (.slice A0_2 l0_2.length c0_2) := (blk_cell BK250.out 2).trans rfl
        have hfz14_0 := blk_frozen BK250.out 0
        have hfz14_1 := blk_frozen BK250.out 1
        have hfz14_2 := blk_frozen BK250.out 2
        go_wp2
        repeat (go_quiet (fail); try go_wp2)
        go_meet
        case rel => exact ⟨_, (decide (a2 ≤ (l0_1.length : Int))), (by first | rfl | (simp; done) | (simp [*]; done)), H', ⟨by first | omega | exact Nat.le_refl _⟩, ⟨by (with_reducible repeat (first | refine blk_drewN ?_ _ | refine blk_drew ?_ | refine blk_alloc ?_ _)); exact BK250.out⟩, ⟨by (with_reducible repeat (first | refine blk_drewN ?_ _ | refine blk_drew ?_ | refine blk_alloc ?_ _)); exact BK251.out⟩, ⟨by repeat (first | (with_reducible first | exact HB.out | apply below_alloc | apply pw_below_drewN | apply below_drew1 | refine below_set ?_ GE250.out | refine below_set ?_ GE251.out) | exact HB.out)⟩⟩
      · rw [if_neg c12] at H
        have c12b0 : decide (1 ≤ a2) = false := decide_eq_false c12
        clear c12
        (first | rw [c12b0] | (simp only [i64_w, i32_w]; rw [c12b0]) | skip)
        have H' := Aside0.mk H
        clear H
        go_wp2
        repeat (go_quiet (fail); try go_wp2)
        go_meet
        case rel => exact ⟨_, (false), (by first | rfl | (simp; done) | (simp [*]; done)), H', ⟨by first | omega | exact Nat.le_refl _⟩, ⟨by (with_reducible repeat (first | refine blk_drewN ?_ _ | refine blk_drew ?_ | refine blk_alloc ?_ _)); exact BK250.out⟩, ⟨by (with_reducible repeat (first | refine blk_drewN ?_ _ | refine blk_drew ?_ | refine blk_alloc ?_ _)); exact BK251.out⟩, ⟨by repeat (first | (with_reducible first | exact HB.out | apply below_alloc | apply pw_below_drewN | apply below_drew1 | refine below_set ?_ GE250.out | refine below_set ?_ GE251.out) | exact HB.out)⟩⟩
    case rest =>
      clear HC6
      try clear c1
      try clear p2
      try clear c5
      try clear c9
      try clear c12
      try clear c12b0
      try clear c13
      try clear hcz10_0
      try clear hcz10_1
      try clear hcz10_2
      try clear hcz14_0
      try clear hcz14_1
      try clear hcz14_2
      try clear hfz10_0
      try clear hfz10_1
      try clear hfz10_2
      try clear hfz14_0
      try clear hfz14_1
      try clear hfz14_2
      obtain ⟨kq, x21_5, rfl, HA, HJ5, BK250, BK251, HB⟩ := hcut
      cases kq with
      | zero => exact absurd HA.out (by simp [remontoirlaw27_OrdersNone.j0])
      | succ kj5 =>
        have H := HA.out
        clear HA
        simp only [remontoirlaw27_OrdersNone.j0] at H
        have HC15 := Aside0.mk H
        clear H
        go_upto_if 21 with (fail)
        repeat (go_quiet (fail); go_upto_if 21 with (fail))
        go_cut [2] (fun v2 wc => ∃ (kq : Nat) (x2_14 : Int), v2 = .int .i64 x2_14 ∧ Aside0 (remontoirlaw27_OrdersNone.j1 kq x2_14 a0_0 l0_1 l0_2 a1_0 a1_1 a1_2 a1_3 = some true) ∧ Aside0 (kq ≤ kj5) ∧ Aside0 (wc.heap[gb250]? = some (.cells #[.string a0_0, (.slice A0_1 l0_1.length c0_1), (.slice A0_2 l0_2.length c0_2)] 25 (0, 0))) ∧ Aside0 (wc.heap[gb251]? = some (.cells #[.int .i64 a1_0, .int .i64 a1_1, .int .i64 a1_2, .int .i64 a1_3] 32 (0, 0))) ∧ Aside0 (Below w.heap.size w wc))
        case first =>
          have H := HC15.out
          clear HC15
          by_cases c16 : x21_5 = true
          · subst c16
            have H1 : (remontoirlaw27_OrdersNone.j1 kj5 (wrap64 ((l0_1.length : Int) + 1)) a0_0 l0_1 l0_2 a1_0 a1_1 a1_2 a1_3) = some true := by rw [if_pos rfl] at H; exact H
            clear H
            have H := H1
            clear H1
            have H' := Aside0.mk H
            clear H
            have hnb17 := NB250_251.out
            have hnc17 := NB251_250.out
            have hcz18_0 : wc.cell? ⟨gb250, 0, none⟩ = some (.string a0_0) := (blk_cell BK250.out 0).trans rfl
            have hcz18_1 : wc.cell? ⟨gb250, 1, none⟩ = some (.slice A0_1 l0_1.length c0_1) := (blk_cell BK250.out 1).trans rfl
            have hcz18_2 : wc.cell? ⟨gb250, 2, none⟩ = some (.slice A0_2 l0_2.length c0_2) := (blk_cell BK250.out 2).trans rfl
            have hfz18_0 := blk_frozen BK250.out 0
            have hfz18_1 := blk_frozen BK250.out 1
            have hfz18_2 := blk_frozen BK250.out 2
            go_wp2
            repeat (go_quiet (fail); try go_wp2)
            go_meet
            case rel => exact ⟨_, (wrap64 ((l0_1.length : Int) + 1)), (by first | rfl | (simp; done) | (simp [*]; done)), H', ⟨by have := HJ5.out; first | omega | exact Nat.le_refl _⟩, ⟨by (with_reducible repeat (first | refine blk_drewN ?_ _ | refine blk_drew ?_ | refine blk_alloc ?_ _)); exact BK250.out⟩, ⟨by (with_reducible repeat (first | refine blk_drewN ?_ _ | refine blk_drew ?_ | refine blk_alloc ?_ _)); exact BK251.out⟩, ⟨by repeat (first | (with_reducible first | exact HB.out | apply below_alloc | apply pw_below_drewN | apply below_drew1 | refine below_set ?_ GE250.out | refine below_set ?_ GE251.out) | exact HB.out)⟩⟩
          · replace c16 := Bool.eq_false_iff.mpr c16
            subst c16
            have H1 : (remontoirlaw27_OrdersNone.j1 kj5 a2 a0_0 l0_1 l0_2 a1_0 a1_1 a1_2 a1_3) = some true := by rw [if_neg (show ¬ (false = true) by decide)] at H; exact H
            clear H
            have H := H1
            clear H1
            have H' := Aside0.mk H
            clear H
            go_wp2
            repeat (go_quiet (fail); try go_wp2)
            go_meet
            case rel => exact ⟨_, (a2), (by first | rfl | (simp; done) | (simp [*]; done)), H', ⟨by have := HJ5.out; first | omega | exact Nat.le_refl _⟩, ⟨by (with_reducible repeat (first | refine blk_drewN ?_ _ | refine blk_drew ?_ | refine blk_alloc ?_ _)); exact BK250.out⟩, ⟨by (with_reducible repeat (first | refine blk_drewN ?_ _ | refine blk_drew ?_ | refine blk_alloc ?_ _)); exact BK251.out⟩, ⟨by repeat (first | (with_reducible first | exact HB.out | apply below_alloc | apply pw_below_drewN | apply below_drew1 | refine below_set ?_ GE250.out | refine below_set ?_ GE251.out) | exact HB.out)⟩⟩
        case rest =>
          clear HC15
          try clear c1
          try clear p2
          try clear c5
          try clear p6
          try clear c9
          try clear c12
          try clear c12b0
          try clear c13
          try clear c16
          try clear c17
          try clear hcz10_0
          try clear hcz10_1
          try clear hcz10_2
          try clear hcz14_0
          try clear hcz14_1
          try clear hcz14_2
          try clear hcz18_0
          try clear hcz18_1
          try clear hcz18_2
          try clear hfz10_0
          try clear hfz10_1
          try clear hfz10_2
          try clear hfz14_0
          try clear hfz14_1
          try clear hfz14_2
          try clear hfz18_0
          try clear hfz18_1
          try clear hfz18_2
          try clear p2
          obtain ⟨kq, x2_14, rfl, HA, HJ14, BK250, BK251, HB⟩ := hcut
          cases kq with
          | zero => exact absurd HA.out (by simp [remontoirlaw27_OrdersNone.j1])
          | succ kj14 =>
            have H := HA.out
            clear HA
            simp only [remontoirlaw27_OrdersNone.j1] at H
            obtain ⟨y254, hy254⟩ : ∃ y_ : List (S32), y_ = (([(⟨2, 0, x2_14, a1_3⟩ : S32)] : List (S32))) := ⟨_, rfl⟩
            replace H : ((orders_Of.f kj14 a0_0 l0_1 l0_2 y254).bind fun t257 => ((orders_Of.f kj14 a0_0 l0_1 l0_2 (([(⟨3, 0, x2_14, a1_3⟩ : S32)] : List (S32)))).bind fun t263 => (if (t257.length : Int) = 1 then (if 0 < (t257.length : Int) then (if (!(((rd_T35 t257 0).f0) == 1) || (!(((rd_T35 t257 0).f1) == a1_3) || (!(((rd_T35 t257 0).f2) == x2_14) || (!(((rd_T35 t257 0).f3) == 0) || (!(((rd_T35 t257 0).f4) == 0)))))) = true then (remontoirlaw27_OrdersNone.j2 kj14 true a0_0 l0_1 l0_2 a1_0 a1_1 a1_2 a1_3) else (if (t263.length : Int) = 1 then (if 0 < (t263.length : Int) then (remontoirlaw27_OrdersNone.j2 kj14 (!(((rd_T35 t263 0).f0) == 2) || (!(((rd_T35 t263 0).f1) == a1_3) || (!(((rd_T35 t263 0).f2) == x2_14) || (!(((rd_T35 t263 0).f3) == 0) || (!(((rd_T35 t263 0).f4) == 0)))))) a0_0 l0_1 l0_2 a1_0 a1_1 a1_2 a1_3) else (none)) else (remontoirlaw27_OrdersNone.j2 kj14 true a0_0 l0_1 l0_2 a1_0 a1_1 a1_2 a1_3))) else (none)) else (remontoirlaw27_OrdersNone.j2 kj14 true a0_0 l0_1 l0_2 a1_0 a1_1 a1_2 a1_3)))) = some true := by first | (rw [hy254]; with_reducible exact H) | (have H2_ := (Option.bind_some _ _).symm.trans H; rw [hy254]; with_reducible exact H2_) | (have H2_ := (Option.bind_some _ _).symm.trans H; with_reducible exact H2_) | with_reducible exact H | (rw [hy254]; exact H) | exact H
            have Ny254 := Aside0.mk hy254
            clear hy254
            replace H := Option.bind_eq_some_iff.mp H
            obtain ⟨t257, A190, H⟩ := H
            replace H : ((orders_Of.f kj14 a0_0 l0_1 l0_2 (([(⟨3, 0, x2_14, a1_3⟩ : S32)] : List (S32)))).bind fun t263 => (if (t257.length : Int) = 1 then (if 0 < (t257.length : Int) then (if (!(((rd_T35 t257 0).f0) == 1) || (!(((rd_T35 t257 0).f1) == a1_3) || (!(((rd_T35 t257 0).f2) == x2_14) || (!(((rd_T35 t257 0).f3) == 0) || (!(((rd_T35 t257 0).f4) == 0)))))) = true then (remontoirlaw27_OrdersNone.j2 kj14 true a0_0 l0_1 l0_2 a1_0 a1_1 a1_2 a1_3) else (if (t263.length : Int) = 1 then (if 0 < (t263.length : Int) then (remontoirlaw27_OrdersNone.j2 kj14 (!(((rd_T35 t263 0).f0) == 2) || (!(((rd_T35 t263 0).f1) == a1_3) || (!(((rd_T35 t263 0).f2) == x2_14) || (!(((rd_T35 t263 0).f3) == 0) || (!(((rd_T35 t263 0).f4) == 0)))))) a0_0 l0_1 l0_2 a1_0 a1_1 a1_2 a1_3) else (none)) else (remontoirlaw27_OrdersNone.j2 kj14 true a0_0 l0_1 l0_2 a1_0 a1_1 a1_2 a1_3))) else (none)) else (remontoirlaw27_OrdersNone.j2 kj14 true a0_0 l0_1 l0_2 a1_0 a1_1 a1_2 a1_3))) = some true := H
            have A19 := Aside0.mk A190
            clear A190
            obtain ⟨y260, hy260⟩ : ∃ y_ : List (S32), y_ = (([(⟨3, 0, x2_14, a1_3⟩ : S32)] : List (S32))) := ⟨_, rfl⟩
            replace H : ((orders_Of.f kj14 a0_0 l0_1 l0_2 y260).bind fun t263 => (if (t257.length : Int) = 1 then (if 0 < (t257.length : Int) then (if (!(((rd_T35 t257 0).f0) == 1) || (!(((rd_T35 t257 0).f1) == a1_3) || (!(((rd_T35 t257 0).f2) == x2_14) || (!(((rd_T35 t257 0).f3) == 0) || (!(((rd_T35 t257 0).f4) == 0)))))) = true then (remontoirlaw27_OrdersNone.j2 kj14 true a0_0 l0_1 l0_2 a1_0 a1_1 a1_2 a1_3) else (if (t263.length : Int) = 1 then (if 0 < (t263.length : Int) then (remontoirlaw27_OrdersNone.j2 kj14 (!(((rd_T35 t263 0).f0) == 2) || (!(((rd_T35 t263 0).f1) == a1_3) || (!(((rd_T35 t263 0).f2) == x2_14) || (!(((rd_T35 t263 0).f3) == 0) || (!(((rd_T35 t263 0).f4) == 0)))))) a0_0 l0_1 l0_2 a1_0 a1_1 a1_2 a1_3) else (none)) else (remontoirlaw27_OrdersNone.j2 kj14 true a0_0 l0_1 l0_2 a1_0 a1_1 a1_2 a1_3))) else (none)) else (remontoirlaw27_OrdersNone.j2 kj14 true a0_0 l0_1 l0_2 a1_0 a1_1 a1_2 a1_3))) = some true := by first | (rw [hy260]; with_reducible exact H) | (have H2_ := (Option.bind_some _ _).symm.trans H; rw [hy260]; with_reducible exact H2_) | (have H2_ := (Option.bind_some _ _).symm.trans H; with_reducible exact H2_) | with_reducible exact H | (rw [hy260]; exact H) | exact H
            have Ny260 := Aside0.mk hy260
            clear hy260
            replace H := Option.bind_eq_some_iff.mp H
            obtain ⟨t263, A200, H⟩ := H
            replace H : (if (t257.length : Int) = 1 then (if 0 < (t257.length : Int) then (if (!(((rd_T35 t257 0).f0) == 1) || (!(((rd_T35 t257 0).f1) == a1_3) || (!(((rd_T35 t257 0).f2) == x2_14) || (!(((rd_T35 t257 0).f3) == 0) || (!(((rd_T35 t257 0).f4) == 0)))))) = true then (remontoirlaw27_OrdersNone.j2 kj14 true a0_0 l0_1 l0_2 a1_0 a1_1 a1_2 a1_3) else (if (t263.length : Int) = 1 then (if 0 < (t263.length : Int) then (remontoirlaw27_OrdersNone.j2 kj14 (!(((rd_T35 t263 0).f0) == 2) || (!(((rd_T35 t263 0).f1) == a1_3) || (!(((rd_T35 t263 0).f2) == x2_14) || (!(((rd_T35 t263 0).f3) == 0) || (!(((rd_T35 t263 0).f4) == 0)))))) a0_0 l0_1 l0_2 a1_0 a1_1 a1_2 a1_3) else (none)) else (remontoirlaw27_OrdersNone.j2 kj14 true a0_0 l0_1 l0_2 a1_0 a1_1 a1_2 a1_3))) else (none)) else (remontoirlaw27_OrdersNone.j2 kj14 true a0_0 l0_1 l0_2 a1_0 a1_1 a1_2 a1_3)) = some true := H
            have A20 := Aside0.mk A200
            clear A200
            have HC21 := Aside0.mk H
            clear H
            have hnb22 := NB250_251.out
            have hnc22 := NB251_250.out
            have hcz23_0 : wc.cell? ⟨gb250, 0, none⟩ = some (.string a0_0) := (blk_cell BK250.out 0).trans rfl
            have hcz23_1 : wc.cell? ⟨gb250, 1, none⟩ = some (.slice A0_1 l0_1.length c0_1) := (blk_cell BK250.out 1).trans rfl
            have hcz23_2 : wc.cell? ⟨gb250, 2, none⟩ = some (.slice A0_2 l0_2.length c0_2) := (blk_cell BK250.out 2).trans rfl
            have hfz23_0 := blk_frozen BK250.out 0
            have hfz23_1 := blk_frozen BK250.out 1
            have hfz23_2 := blk_frozen BK250.out 2
            have hcz24_0 : wc.cell? ⟨gb251, 0, none⟩ = some (.int .i64 a1_0) := (blk_cell BK251.out 0).trans rfl
            have hcz24_1 : wc.cell? ⟨gb251, 1, none⟩ = some (.int .i64 a1_1) := (blk_cell BK251.out 1).trans rfl
            have hcz24_2 : wc.cell? ⟨gb251, 2, none⟩ = some (.int .i64 a1_2) := (blk_cell BK251.out 2).trans rfl
            have hcz24_3 : wc.cell? ⟨gb251, 3, none⟩ = some (.int .i64 a1_3) := (blk_cell BK251.out 3).trans rfl
            have hfz24_0 := blk_frozen BK251.out 0
            have hfz24_1 := blk_frozen BK251.out 1
            have hfz24_2 := blk_frozen BK251.out 2
            have hfz24_3 := blk_frozen BK251.out 3
            go_upto_region 7 with (first | ((with_reducible refine gate_dst (N := 31) rfl ?_); (try (refine gate_guard (by rfl) ?_; dsimp only)); refine Kd.R_lit k32 _ 32 ?hg (N := 31) ?hd (xs := ([(⟨2, 0, x2_14, a1_3⟩ : S32)] : List (S32))) (inner := [.int .i64 2, .int .i64 0, .int .i64 x2_14, .int .i64 a1_3]) (ok := fun _ => True) (okp := fun _ => True) ?hr ?hp (fun _ hk => hk) trivial (Below.refl _ _) (Nat.le_refl _) (by simp) ?_; (case hd => rfl); (case hg => rfl); (case hr => first | (go_simp; done) | (go_simp; rfl)); (case hp => exact (Reps.c4 (show Kd.M k32 _ _ _ (⟨2, 0, x2_14, a1_3⟩ : S32) [.int .i64 2, .int .i64 0, .int .i64 x2_14, .int .i64 a1_3] from (k32_mkM _ _ _ (⟨2, 0, x2_14, a1_3⟩ : S32) )) (Reps.none _ _))); intro v255 w25 ho26 hb hg_ hnew_; clear hg_ hnew_; (first | rw [← Ny254.out] at ho26 | (simp only [Int.reduceToNat] at ho26; rw [← Ny254.out] at ho26)); have n0_ := Aside0.mk (Kd.R_lower (Kd.R_newB ho26 (g := gb251) (o := .cells #[.int .i64 a1_0, .int .i64 a1_1, .int .i64 a1_2, .int .i64 a1_3] 32 (0, 0)) (by (with_reducible repeat (first | refine blk_drewN ?_ _ | refine blk_drew ?_ | refine blk_alloc ?_ _)); exact BK251.out)) (below_size (by repeat (first | (with_reducible first | exact HB.out | apply below_alloc | apply pw_below_drewN | apply below_drew1 | refine below_set ?_ GE250.out | refine below_set ?_ GE251.out) | exact HB.out)))); have n1_ := Aside0.mk (blk_below (g := gb250) (o := .cells #[.string a0_0, .slice A0_1 l0_1.length c0_1, .slice A0_2 l0_2.length c0_2] 25 (0, 0)) (by (with_reducible repeat (first | refine blk_drewN ?_ _ | refine blk_drew ?_ | refine blk_alloc ?_ _)); exact BK250.out) hb); have n2_ := Aside0.mk (blk_below (g := gb251) (o := .cells #[.int .i64 a1_0, .int .i64 a1_1, .int .i64 a1_2, .int .i64 a1_3] 32 (0, 0)) (by (with_reducible repeat (first | refine blk_drewN ?_ _ | refine blk_drew ?_ | refine blk_alloc ?_ _)); exact BK251.out) hb); have n3_ := Aside0.mk (below_step (by repeat (first | (with_reducible first | exact HB.out | apply below_alloc | apply pw_below_drewN | apply below_drew1 | refine below_set ?_ GE250.out | refine below_set ?_ GE251.out) | exact HB.out)) hb); clear BK250; clear BK251; clear HB; have HO256 := n0_; have BK250 := n1_; have BK251 := n2_; have HB := n3_; clear n0_ n1_ n2_ n3_; clear hb ho26; obtain ⟨Ao27, co27, eo27⟩ := Kd.R_slice HO256.out; subst eo27) | (go_at_call 8; (with_reducible refine (orders_Of.calls kj14 a0_0 _ _ l0_1 _ _ l0_2 _ _ y254 t257 _ ?side1 ?side2 ?side3 ?side4 ?side5 ?side6 A19.out).mono ?_); (case side1 => repeat (first | exact (Kd.C_below HR0_1.out HB.out) | (with_reducible refine Kd.C_alloc ?_ _) | (with_reducible refine Kd.C_drewN ?_ _) | (with_reducible refine Kd.C_drew ?_))); (case side2 => exact HC0_1.out); (case side3 => repeat (first | exact (Kd.C_below HR0_2.out HB.out) | (with_reducible refine Kd.C_alloc ?_ _) | (with_reducible refine Kd.C_drewN ?_ _) | (with_reducible refine Kd.C_drew ?_))); (case side4 => exact HC0_2.out); (case side5 => repeat (first | exact (Kd.R_reads' HO256.out).2.2 | (with_reducible refine Kd.C_alloc ?_ _) | (with_reducible refine Kd.C_drewN ?_ _) | (with_reducible refine Kd.C_drew ?_))); (case side6 => exact (Kd.R_reads' HO256.out).2.1); rintro e w28 ⟨v258, rfl, ho0, hb⟩; have n0_ := Aside0.mk (Kd.R_below (by (with_reducible repeat (first | apply Kd.R_alloc | apply Kd.R_drewN | apply Kd.R_drew)); exact HO256.out) hb); have n1_ := Aside0.mk (Kd.R_lower ho0 (below_size (by repeat (first | (with_reducible first | exact HB.out | apply below_alloc | apply pw_below_drewN | apply below_drew1 | refine below_set ?_ GE250.out | refine below_set ?_ GE251.out) | exact HB.out)))); have n2_ := Aside0.mk (blk_below (g := gb250) (o := .cells #[.string a0_0, .slice A0_1 l0_1.length c0_1, .slice A0_2 l0_2.length c0_2] 25 (0, 0)) (by (with_reducible repeat (first | refine blk_drewN ?_ _ | refine blk_drew ?_ | refine blk_alloc ?_ _)); exact BK250.out) hb); have n3_ := Aside0.mk (blk_below (g := gb251) (o := .cells #[.int .i64 a1_0, .int .i64 a1_1, .int .i64 a1_2, .int .i64 a1_3] 32 (0, 0)) (by (with_reducible repeat (first | refine blk_drewN ?_ _ | refine blk_drew ?_ | refine blk_alloc ?_ _)); exact BK251.out) hb); have n4_ := Aside0.mk (below_step (by repeat (first | (with_reducible first | exact HB.out | apply below_alloc | apply pw_below_drewN | apply below_drew1 | refine below_set ?_ GE250.out | refine below_set ?_ GE251.out) | exact HB.out)) hb); clear HO256; clear BK250; clear BK251; clear HB; have HO256 := n0_; have HO259 := n1_; have BK250 := n2_; have BK251 := n3_; have HB := n4_; clear n0_ n1_ n2_ n3_ n4_; (try clear hb); (try clear hb2); (try clear hk); (try clear hi); (try clear ho0); have hcz29_0 : w28.cell? ⟨gb250, 0, none⟩ = some (.string a0_0) := (blk_cell BK250.out 0).trans rfl; have hcz29_1 : w28.cell? ⟨gb250, 1, none⟩ = some (.slice A0_1 l0_1.length c0_1) := (blk_cell BK250.out 1).trans rfl; have hcz29_2 : w28.cell? ⟨gb250, 2, none⟩ = some (.slice A0_2 l0_2.length c0_2) := (blk_cell BK250.out 2).trans rfl; have hfz29_0 := blk_frozen BK250.out 0; have hfz29_1 := blk_frozen BK250.out 1; have hfz29_2 := blk_frozen BK250.out 2; have hcz30_0 : w28.cell? ⟨gb251, 0, none⟩ = some (.int .i64 a1_0) := (blk_cell BK251.out 0).trans rfl; have hcz30_1 : w28.cell? ⟨gb251, 1, none⟩ = some (.int .i64 a1_1) := (blk_cell BK251.out 1).trans rfl; have hcz30_2 : w28.cell? ⟨gb251, 2, none⟩ = some (.int .i64 a1_2) := (blk_cell BK251.out 2).trans rfl; have hcz30_3 : w28.cell? ⟨gb251, 3, none⟩ = some (.int .i64 a1_3) := (blk_cell BK251.out 3).trans rfl; have hfz30_0 := blk_frozen BK251.out 0; have hfz30_1 := blk_frozen BK251.out 1; have hfz30_2 := blk_frozen BK251.out 2; have hfz30_3 := blk_frozen BK251.out 3) | ((with_reducible refine gate_dst (N := 38) rfl ?_); (try (refine gate_guard (by rfl) ?_; dsimp only)); refine Kd.R_lit k32 _ 32 ?hg (N := 38) ?hd (xs := ([(⟨3, 0, x2_14, a1_3⟩ : S32)] : List (S32))) (inner := [.int .i64 3, .int .i64 0, .int .i64 x2_14, .int .i64 a1_3]) (ok := fun _ => True) (okp := fun _ => True) ?hr ?hp (fun _ hk => hk) trivial (Below.refl _ _) (Nat.le_refl _) (by simp) ?_; (case hd => rfl); (case hg => rfl); (case hr => first | (go_simp; done) | (go_simp; rfl)); (case hp => exact (Reps.c4 (show Kd.M k32 _ _ _ (⟨3, 0, x2_14, a1_3⟩ : S32) [.int .i64 3, .int .i64 0, .int .i64 x2_14, .int .i64 a1_3] from (k32_mkM _ _ _ (⟨3, 0, x2_14, a1_3⟩ : S32) )) (Reps.none _ _))); intro v261 w31 ho32 hb hg_ hnew_; clear hg_ hnew_; (first | rw [← Ny260.out] at ho32 | (simp only [Int.reduceToNat] at ho32; rw [← Ny260.out] at ho32)); have n0_ := Aside0.mk (Kd.R_elder' (by (with_reducible repeat (first | apply Kd.R_alloc | apply Kd.R_drewN | apply Kd.R_drew)); exact HO256.out) (Kd.R_base ho32) hb); have n1_ := Aside0.mk (Kd.R_below (by (with_reducible repeat (first | apply Kd.R_alloc | apply Kd.R_drewN | apply Kd.R_drew)); exact HO259.out) hb); have n2_ := Aside0.mk (Kd.R_lower (Kd.R_newB (Kd.R_new' ho32 (Kd.R_lt (by (with_reducible repeat (first | apply Kd.R_alloc | apply Kd.R_drewN | apply Kd.R_drew)); exact HO256.out))) (g := gb251) (o := .cells #[.int .i64 a1_0, .int .i64 a1_1, .int .i64 a1_2, .int .i64 a1_3] 32 (0, 0)) (by (with_reducible repeat (first | refine blk_drewN ?_ _ | refine blk_drew ?_ | refine blk_alloc ?_ _)); exact BK251.out)) (below_size (by repeat (first | (with_reducible first | exact HB.out | apply below_alloc | apply pw_below_drewN | apply below_drew1 | refine below_set ?_ GE250.out | refine below_set ?_ GE251.out) | exact HB.out)))); have n3_ := Aside0.mk (blk_below (g := gb250) (o := .cells #[.string a0_0, .slice A0_1 l0_1.length c0_1, .slice A0_2 l0_2.length c0_2] 25 (0, 0)) (by (with_reducible repeat (first | refine blk_drewN ?_ _ | refine blk_drew ?_ | refine blk_alloc ?_ _)); exact BK250.out) hb); have n4_ := Aside0.mk (blk_below (g := gb251) (o := .cells #[.int .i64 a1_0, .int .i64 a1_1, .int .i64 a1_2, .int .i64 a1_3] 32 (0, 0)) (by (with_reducible repeat (first | refine blk_drewN ?_ _ | refine blk_drew ?_ | refine blk_alloc ?_ _)); exact BK251.out) hb); have n5_ := Aside0.mk (below_step (by repeat (first | (with_reducible first | exact HB.out | apply below_alloc | apply pw_below_drewN | apply below_drew1 | refine below_set ?_ GE250.out | refine below_set ?_ GE251.out) | exact HB.out)) hb); clear HO256; clear HO259; clear BK250; clear BK251; clear HB; have HO256 := n0_; have HO259 := n1_; have HO262 := n2_; have BK250 := n3_; have BK251 := n4_; have HB := n5_; clear n0_ n1_ n2_ n3_ n4_ n5_; clear hb ho32; obtain ⟨Ao33, co33, eo33⟩ := Kd.R_slice HO262.out; subst eo33) | (go_at_call 8; (with_reducible refine (orders_Of.calls kj14 a0_0 _ _ l0_1 _ _ l0_2 _ _ y260 t263 _ ?side1 ?side2 ?side3 ?side4 ?side5 ?side6 A20.out).mono ?_); (case side1 => repeat (first | exact (Kd.C_below HR0_1.out HB.out) | (with_reducible refine Kd.C_alloc ?_ _) | (with_reducible refine Kd.C_drewN ?_ _) | (with_reducible refine Kd.C_drew ?_))); (case side2 => exact HC0_1.out); (case side3 => repeat (first | exact (Kd.C_below HR0_2.out HB.out) | (with_reducible refine Kd.C_alloc ?_ _) | (with_reducible refine Kd.C_drewN ?_ _) | (with_reducible refine Kd.C_drew ?_))); (case side4 => exact HC0_2.out); (case side5 => repeat (first | exact (Kd.R_reads' HO262.out).2.2 | (with_reducible refine Kd.C_alloc ?_ _) | (with_reducible refine Kd.C_drewN ?_ _) | (with_reducible refine Kd.C_drew ?_))); (case side6 => exact (Kd.R_reads' HO262.out).2.1); rintro e w34 ⟨v264, rfl, ho0, hb⟩; have n0_ := Aside0.mk (Kd.R_below (by (with_reducible repeat (first | apply Kd.R_alloc | apply Kd.R_drewN | apply Kd.R_drew)); exact HO256.out) hb); have n1_ := Aside0.mk (Kd.R_elder' (by (with_reducible repeat (first | apply Kd.R_alloc | apply Kd.R_drewN | apply Kd.R_drew)); exact HO259.out) (Kd.R_base ho0) hb); have n2_ := Aside0.mk (Kd.R_below (by (with_reducible repeat (first | apply Kd.R_alloc | apply Kd.R_drewN | apply Kd.R_drew)); exact HO262.out) hb); have n3_ := Aside0.mk (Kd.R_lower (Kd.R_new' ho0 (Kd.R_lt (by (with_reducible repeat (first | apply Kd.R_alloc | apply Kd.R_drewN | apply Kd.R_drew)); exact HO259.out))) (below_size (by repeat (first | (with_reducible first | exact HB.out | apply below_alloc | apply pw_below_drewN | apply below_drew1 | refine below_set ?_ GE250.out | refine below_set ?_ GE251.out) | exact HB.out)))); have n4_ := Aside0.mk (blk_below (g := gb250) (o := .cells #[.string a0_0, .slice A0_1 l0_1.length c0_1, .slice A0_2 l0_2.length c0_2] 25 (0, 0)) (by (with_reducible repeat (first | refine blk_drewN ?_ _ | refine blk_drew ?_ | refine blk_alloc ?_ _)); exact BK250.out) hb); have n5_ := Aside0.mk (blk_below (g := gb251) (o := .cells #[.int .i64 a1_0, .int .i64 a1_1, .int .i64 a1_2, .int .i64 a1_3] 32 (0, 0)) (by (with_reducible repeat (first | refine blk_drewN ?_ _ | refine blk_drew ?_ | refine blk_alloc ?_ _)); exact BK251.out) hb); have n6_ := Aside0.mk (below_step (by repeat (first | (with_reducible first | exact HB.out | apply below_alloc | apply pw_below_drewN | apply below_drew1 | refine below_set ?_ GE250.out | refine below_set ?_ GE251.out) | exact HB.out)) hb); clear HO256; clear HO259; clear HO262; clear BK250; clear BK251; clear HB; have HO256 := n0_; have HO259 := n1_; have HO262 := n2_; have HO265 := n3_; have BK250 := n4_; have BK251 := n5_; have HB := n6_; clear n0_ n1_ n2_ n3_ n4_ n5_ n6_; (try clear hb); (try clear hb2); (try clear hk); (try clear hi); (try clear ho0)))
            repeat (go_quiet (first | ((with_reducible refine gate_dst (N := 31) rfl ?_); (try (refine gate_guard (by rfl) ?_; dsimp only)); refine Kd.R_lit k32 _ 32 ?hg (N := 31) ?hd (xs := ([(⟨2, 0, x2_14, a1_3⟩ : S32)] : List (S32))) (inner := [.int .i64 2, .int .i64 0, .int .i64 x2_14, .int .i64 a1_3]) (ok := fun _ => True) (okp := fun _ => True) ?hr ?hp (fun _ hk => hk) trivial (Below.refl _ _) (Nat.le_refl _) (by simp) ?_; (case hd => rfl); (case hg => rfl); (case hr => first | (go_simp; done) | (go_simp; rfl)); (case hp => exact (Reps.c4 (show Kd.M k32 _ _ _ (⟨2, 0, x2_14, a1_3⟩ : S32) [.int .i64 2, .int .i64 0, .int .i64 x2_14, .int .i64 a1_3] from (k32_mkM _ _ _ (⟨2, 0, x2_14, a1_3⟩ : S32) )) (Reps.none _ _))); intro v255 w25 ho26 hb hg_ hnew_; clear hg_ hnew_; (first | rw [← Ny254.out] at ho26 | (simp only [Int.reduceToNat] at ho26; rw [← Ny254.out] at ho26)); have n0_ := Aside0.mk (Kd.R_lower (Kd.R_newB ho26 (g := gb251) (o := .cells #[.int .i64 a1_0, .int .i64 a1_1, .int .i64 a1_2, .int .i64 a1_3] 32 (0, 0)) (by (with_reducible repeat (first | refine blk_drewN ?_ _ | refine blk_drew ?_ | refine blk_alloc ?_ _)); exact BK251.out)) (below_size (by repeat (first | (with_reducible first | exact HB.out | apply below_alloc | apply pw_below_drewN | apply below_drew1 | refine below_set ?_ GE250.out | refine below_set ?_ GE251.out) | exact HB.out)))); have n1_ := Aside0.mk (blk_below (g := gb250) (o := .cells #[.string a0_0, .slice A0_1 l0_1.length c0_1, .slice A0_2 l0_2.length c0_2] 25 (0, 0)) (by (with_reducible repeat (first | refine blk_drewN ?_ _ | refine blk_drew ?_ | refine blk_alloc ?_ _)); exact BK250.out) hb); have n2_ := Aside0.mk (blk_below (g := gb251) (o := .cells #[.int .i64 a1_0, .int .i64 a1_1, .int .i64 a1_2, .int .i64 a1_3] 32 (0, 0)) (by (with_reducible repeat (first | refine blk_drewN ?_ _ | refine blk_drew ?_ | refine blk_alloc ?_ _)); exact BK251.out) hb); have n3_ := Aside0.mk (below_step (by repeat (first | (with_reducible first | exact HB.out | apply below_alloc | apply pw_below_drewN | apply below_drew1 | refine below_set ?_ GE250.out | refine below_set ?_ GE251.out) | exact HB.out)) hb); clear BK250; clear BK251; clear HB; have HO256 := n0_; have BK250 := n1_; have BK251 := n2_; have HB := n3_; clear n0_ n1_ n2_ n3_; clear hb ho26; obtain ⟨Ao27, co27, eo27⟩ := Kd.R_slice HO256.out; subst eo27) | (go_at_call 8; (with_reducible refine (orders_Of.calls kj14 a0_0 _ _ l0_1 _ _ l0_2 _ _ y254 t257 _ ?side1 ?side2 ?side3 ?side4 ?side5 ?side6 A19.out).mono ?_); (case side1 => repeat (first | exact (Kd.C_below HR0_1.out HB.out) | (with_reducible refine Kd.C_alloc ?_ _) | (with_reducible refine Kd.C_drewN ?_ _) | (with_reducible refine Kd.C_drew ?_))); (case side2 => exact HC0_1.out); (case side3 => repeat (first | exact (Kd.C_below HR0_2.out HB.out) | (with_reducible refine Kd.C_alloc ?_ _) | (with_reducible refine Kd.C_drewN ?_ _) | (with_reducible refine Kd.C_drew ?_))); (case side4 => exact HC0_2.out); (case side5 => repeat (first | exact (Kd.R_reads' HO256.out).2.2 | (with_reducible refine Kd.C_alloc ?_ _) | (with_reducible refine Kd.C_drewN ?_ _) | (with_reducible refine Kd.C_drew ?_))); (case side6 => exact (Kd.R_reads' HO256.out).2.1); rintro e w28 ⟨v258, rfl, ho0, hb⟩; have n0_ := Aside0.mk (Kd.R_below (by (with_reducible repeat (first | apply Kd.R_alloc | apply Kd.R_drewN | apply Kd.R_drew)); exact HO256.out) hb); have n1_ := Aside0.mk (Kd.R_lower ho0 (below_size (by repeat (first | (with_reducible first | exact HB.out | apply below_alloc | apply pw_below_drewN | apply below_drew1 | refine below_set ?_ GE250.out | refine below_set ?_ GE251.out) | exact HB.out)))); have n2_ := Aside0.mk (blk_below (g := gb250) (o := .cells #[.string a0_0, .slice A0_1 l0_1.length c0_1, .slice A0_2 l0_2.length c0_2] 25 (0, 0)) (by (with_reducible repeat (first | refine blk_drewN ?_ _ | refine blk_drew ?_ | refine blk_alloc ?_ _)); exact BK250.out) hb); have n3_ := Aside0.mk (blk_below (g := gb251) (o := .cells #[.int .i64 a1_0, .int .i64 a1_1, .int .i64 a1_2, .int .i64 a1_3] 32 (0, 0)) (by (with_reducible repeat (first | refine blk_drewN ?_ _ | refine blk_drew ?_ | refine blk_alloc ?_ _)); exact BK251.out) hb); have n4_ := Aside0.mk (below_step (by repeat (first | (with_reducible first | exact HB.out | apply below_alloc | apply pw_below_drewN | apply below_drew1 | refine below_set ?_ GE250.out | refine below_set ?_ GE251.out) | exact HB.out)) hb); clear HO256; clear BK250; clear BK251; clear HB; have HO256 := n0_; have HO259 := n1_; have BK250 := n2_; have BK251 := n3_; have HB := n4_; clear n0_ n1_ n2_ n3_ n4_; (try clear hb); (try clear hb2); (try clear hk); (try clear hi); (try clear ho0); have hcz29_0 : w28.cell? ⟨gb250, 0, none⟩ = some (.string a0_0) := (blk_cell BK250.out 0).trans rfl; have hcz29_1 : w28.cell? ⟨gb250, 1, none⟩ = some (.slice A0_1 l0_1.length c0_1) := (blk_cell BK250.out 1).trans rfl; have hcz29_2 : w28.cell? ⟨gb250, 2, none⟩ = some (.slice A0_2 l0_2.length c0_2) := (blk_cell BK250.out 2).trans rfl; have hfz29_0 := blk_frozen BK250.out 0; have hfz29_1 := blk_frozen BK250.out 1; have hfz29_2 := blk_frozen BK250.out 2; have hcz30_0 : w28.cell? ⟨gb251, 0, none⟩ = some (.int .i64 a1_0) := (blk_cell BK251.out 0).trans rfl; have hcz30_1 : w28.cell? ⟨gb251, 1, none⟩ = some (.int .i64 a1_1) := (blk_cell BK251.out 1).trans rfl; have hcz30_2 : w28.cell? ⟨gb251, 2, none⟩ = some (.int .i64 a1_2) := (blk_cell BK251.out 2).trans rfl; have hcz30_3 : w28.cell? ⟨gb251, 3, none⟩ = some (.int .i64 a1_3) := (blk_cell BK251.out 3).trans rfl; have hfz30_0 := blk_frozen BK251.out 0; have hfz30_1 := blk_frozen BK251.out 1; have hfz30_2 := blk_frozen BK251.out 2; have hfz30_3 := blk_frozen BK251.out 3) | ((with_reducible refine gate_dst (N := 38) rfl ?_); (try (refine gate_guard (by rfl) ?_; dsimp only)); refine Kd.R_lit k32 _ 32 ?hg (N := 38) ?hd (xs := ([(⟨3, 0, x2_14, a1_3⟩ : S32)] : List (S32))) (inner := [.int .i64 3, .int .i64 0, .int .i64 x2_14, .int .i64 a1_3]) (ok := fun _ => True) (okp := fun _ => True) ?hr ?hp (fun _ hk => hk) trivial (Below.refl _ _) (Nat.le_refl _) (by simp) ?_; (case hd => rfl); (case hg => rfl); (case hr => first | (go_simp; done) | (go_simp; rfl)); (case hp => exact (Reps.c4 (show Kd.M k32 _ _ _ (⟨3, 0, x2_14, a1_3⟩ : S32) [.int .i64 3, .int .i64 0, .int .i64 x2_14, .int .i64 a1_3] from (k32_mkM _ _ _ (⟨3, 0, x2_14, a1_3⟩ : S32) )) (Reps.none _ _))); intro v261 w31 ho32 hb hg_ hnew_; clear hg_ hnew_; (first | rw [← Ny260.out] at ho32 | (simp only [Int.reduceToNat] at ho32; rw [← Ny260.out] at ho32)); have n0_ := Aside0.mk (Kd.R_elder' (by (with_reducible repeat (first | apply Kd.R_alloc | apply Kd.R_drewN | apply Kd.R_drew)); exact HO256.out) (Kd.R_base ho32) hb); have n1_ := Aside0.mk (Kd.R_below (by (with_reducible repeat (first | apply Kd.R_alloc | apply Kd.R_drewN | apply Kd.R_drew)); exact HO259.out) hb); have n2_ := Aside0.mk (Kd.R_lower (Kd.R_newB (Kd.R_new' ho32 (Kd.R_lt (by (with_reducible repeat (first | apply Kd.R_alloc | apply Kd.R_drewN | apply Kd.R_drew)); exact HO256.out))) (g := gb251) (o := .cells #[.int .i64 a1_0, .int .i64 a1_1, .int .i64 a1_2, .int .i64 a1_3] 32 (0, 0)) (by (with_reducible repeat (first | refine blk_drewN ?_ _ | refine blk_drew ?_ | refine blk_alloc ?_ _)); exact BK251.out)) (below_size (by repeat (first | (with_reducible first | exact HB.out | apply below_alloc | apply pw_below_drewN | apply below_drew1 | refine below_set ?_ GE250.out | refine below_set ?_ GE251.out) | exact HB.out)))); have n3_ := Aside0.mk (blk_below (g := gb250) (o := .cells #[.string a0_0, .slice A0_1 l0_1.length c0_1, .slice A0_2 l0_2.length c0_2] 25 (0, 0)) (by (with_reducible repeat (first | refine blk_drewN ?_ _ | refine blk_drew ?_ | refine blk_alloc ?_ _)); exact BK250.out) hb); have n4_ := Aside0.mk (blk_below (g := gb251) (o := .cells #[.int .i64 a1_0, .int .i64 a1_1, .int .i64 a1_2, .int .i64 a1_3] 32 (0, 0)) (by (with_reducible repeat (first | refine blk_drewN ?_ _ | refine blk_drew ?_ | refine blk_alloc ?_ _)); exact BK251.out) hb); have n5_ := Aside0.mk (below_step (by repeat (first | (with_reducible first | exact HB.out | apply below_alloc | apply pw_below_drewN | apply below_drew1 | refine below_set ?_ GE250.out | refine below_set ?_ GE251.out) | exact HB.out)) hb); clear HO256; clear HO259; clear BK250; clear BK251; clear HB; have HO256 := n0_; have HO259 := n1_; have HO262 := n2_; have BK250 := n3_; have BK251 := n4_; have HB := n5_; clear n0_ n1_ n2_ n3_ n4_ n5_; clear hb ho32; obtain ⟨Ao33, co33, eo33⟩ := Kd.R_slice HO262.out; subst eo33) | (go_at_call 8; (with_reducible refine (orders_Of.calls kj14 a0_0 _ _ l0_1 _ _ l0_2 _ _ y260 t263 _ ?side1 ?side2 ?side3 ?side4 ?side5 ?side6 A20.out).mono ?_); (case side1 => repeat (first | exact (Kd.C_below HR0_1.out HB.out) | (with_reducible refine Kd.C_alloc ?_ _) | (with_reducible refine Kd.C_drewN ?_ _) | (with_reducible refine Kd.C_drew ?_))); (case side2 => exact HC0_1.out); (case side3 => repeat (first | exact (Kd.C_below HR0_2.out HB.out) | (with_reducible refine Kd.C_alloc ?_ _) | (with_reducible refine Kd.C_drewN ?_ _) | (with_reducible refine Kd.C_drew ?_))); (case side4 => exact HC0_2.out); (case side5 => repeat (first | exact (Kd.R_reads' HO262.out).2.2 | (with_reducible refine Kd.C_alloc ?_ _) | (with_reducible refine Kd.C_drewN ?_ _) | (with_reducible refine Kd.C_drew ?_))); (case side6 => exact (Kd.R_reads' HO262.out).2.1); rintro e w34 ⟨v264, rfl, ho0, hb⟩; have n0_ := Aside0.mk (Kd.R_below (by (with_reducible repeat (first | apply Kd.R_alloc | apply Kd.R_drewN | apply Kd.R_drew)); exact HO256.out) hb); have n1_ := Aside0.mk (Kd.R_elder' (by (with_reducible repeat (first | apply Kd.R_alloc | apply Kd.R_drewN | apply Kd.R_drew)); exact HO259.out) (Kd.R_base ho0) hb); have n2_ := Aside0.mk (Kd.R_below (by (with_reducible repeat (first | apply Kd.R_alloc | apply Kd.R_drewN | apply Kd.R_drew)); exact HO262.out) hb); have n3_ := Aside0.mk (Kd.R_lower (Kd.R_new' ho0 (Kd.R_lt (by (with_reducible repeat (first | apply Kd.R_alloc | apply Kd.R_drewN | apply Kd.R_drew)); exact HO259.out))) (below_size (by repeat (first | (with_reducible first | exact HB.out | apply below_alloc | apply pw_below_drewN | apply below_drew1 | refine below_set ?_ GE250.out | refine below_set ?_ GE251.out) | exact HB.out)))); have n4_ := Aside0.mk (blk_below (g := gb250) (o := .cells #[.string a0_0, .slice A0_1 l0_1.length c0_1, .slice A0_2 l0_2.length c0_2] 25 (0, 0)) (by (with_reducible repeat (first | refine blk_drewN ?_ _ | refine blk_drew ?_ | refine blk_alloc ?_ _)); exact BK250.out) hb); have n5_ := Aside0.mk (blk_below (g := gb251) (o := .cells #[.int .i64 a1_0, .int .i64 a1_1, .int .i64 a1_2, .int .i64 a1_3] 32 (0, 0)) (by (with_reducible repeat (first | refine blk_drewN ?_ _ | refine blk_drew ?_ | refine blk_alloc ?_ _)); exact BK251.out) hb); have n6_ := Aside0.mk (below_step (by repeat (first | (with_reducible first | exact HB.out | apply below_alloc | apply pw_below_drewN | apply below_drew1 | refine below_set ?_ GE250.out | refine below_set ?_ GE251.out) | exact HB.out)) hb); clear HO256; clear HO259; clear HO262; clear BK250; clear BK251; clear HB; have HO256 := n0_; have HO259 := n1_; have HO262 := n2_; have HO265 := n3_; have BK250 := n4_; have BK251 := n5_; have HB := n6_; clear n0_ n1_ n2_ n3_ n4_ n5_ n6_; (try clear hb); (try clear hb2); (try clear hk); (try clear hi); (try clear ho0))); go_upto_region 7 with (first | ((with_reducible refine gate_dst (N := 31) rfl ?_); (try (refine gate_guard (by rfl) ?_; dsimp only)); refine Kd.R_lit k32 _ 32 ?hg (N := 31) ?hd (xs := ([(⟨2, 0, x2_14, a1_3⟩ : S32)] : List (S32))) (inner := [.int .i64 2, .int .i64 0, .int .i64 x2_14, .int .i64 a1_3]) (ok := fun _ => True) (okp := fun _ => True) ?hr ?hp (fun _ hk => hk) trivial (Below.refl _ _) (Nat.le_refl _) (by simp) ?_; (case hd => rfl); (case hg => rfl); (case hr => first | (go_simp; done) | (go_simp; rfl)); (case hp => exact (Reps.c4 (show Kd.M k32 _ _ _ (⟨2, 0, x2_14, a1_3⟩ : S32) [.int .i64 2, .int .i64 0, .int .i64 x2_14, .int .i64 a1_3] from (k32_mkM _ _ _ (⟨2, 0, x2_14, a1_3⟩ : S32) )) (Reps.none _ _))); intro v255 w25 ho26 hb hg_ hnew_; clear hg_ hnew_; (first | rw [← Ny254.out] at ho26 | (simp only [Int.reduceToNat] at ho26; rw [← Ny254.out] at ho26)); have n0_ := Aside0.mk (Kd.R_lower (Kd.R_newB ho26 (g := gb251) (o := .cells #[.int .i64 a1_0, .int .i64 a1_1, .int .i64 a1_2, .int .i64 a1_3] 32 (0, 0)) (by (with_reducible repeat (first | refine blk_drewN ?_ _ | refine blk_drew ?_ | refine blk_alloc ?_ _)); exact BK251.out)) (below_size (by repeat (first | (with_reducible first | exact HB.out | apply below_alloc | apply pw_below_drewN | apply below_drew1 | refine below_set ?_ GE250.out | refine below_set ?_ GE251.out) | exact HB.out)))); have n1_ := Aside0.mk (blk_below (g := gb250) (o := .cells #[.string a0_0, .slice A0_1 l0_1.length c0_1, .slice A0_2 l0_2.length c0_2] 25 (0, 0)) (by (with_reducible repeat (first | refine blk_drewN ?_ _ | refine blk_drew ?_ | refine blk_alloc ?_ _)); exact BK250.out) hb); have n2_ := Aside0.mk (blk_below (g := gb251) (o := .cells #[.int .i64 a1_0, .int .i64 a1_1, .int .i64 a1_2, .int .i64 a1_3] 32 (0, 0)) (by (with_reducible repeat (first | refine blk_drewN ?_ _ | refine blk_drew ?_ | refine blk_alloc ?_ _)); exact BK251.out) hb); have n3_ := Aside0.mk (below_step (by repeat (first | (with_reducible first | exact HB.out | apply below_alloc | apply pw_below_drewN | apply below_drew1 | refine below_set ?_ GE250.out | refine below_set ?_ GE251.out) | exact HB.out)) hb); clear BK250; clear BK251; clear HB; have HO256 := n0_; have BK250 := n1_; have BK251 := n2_; have HB := n3_; clear n0_ n1_ n2_ n3_; clear hb ho26; obtain ⟨Ao27, co27, eo27⟩ := Kd.R_slice HO256.out; subst eo27) | (go_at_call 8; (with_reducible refine (orders_Of.calls kj14 a0_0 _ _ l0_1 _ _ l0_2 _ _ y254 t257 _ ?side1 ?side2 ?side3 ?side4 ?side5 ?side6 A19.out).mono ?_); (case side1 => repeat (first | exact (Kd.C_below HR0_1.out HB.out) | (with_reducible refine Kd.C_alloc ?_ _) | (with_reducible refine Kd.C_drewN ?_ _) | (with_reducible refine Kd.C_drew ?_))); (case side2 => exact HC0_1.out); (case side3 => repeat (first | exact (Kd.C_below HR0_2.out HB.out) | (with_reducible refine Kd.C_alloc ?_ _) | (with_reducible refine Kd.C_drewN ?_ _) | (with_reducible refine Kd.C_drew ?_))); (case side4 => exact HC0_2.out); (case side5 => repeat (first | exact (Kd.R_reads' HO256.out).2.2 | (with_reducible refine Kd.C_alloc ?_ _) | (with_reducible refine Kd.C_drewN ?_ _) | (with_reducible refine Kd.C_drew ?_))); (case side6 => exact (Kd.R_reads' HO256.out).2.1); rintro e w28 ⟨v258, rfl, ho0, hb⟩; have n0_ := Aside0.mk (Kd.R_below (by (with_reducible repeat (first | apply Kd.R_alloc | apply Kd.R_drewN | apply Kd.R_drew)); exact HO256.out) hb); have n1_ := Aside0.mk (Kd.R_lower ho0 (below_size (by repeat (first | (with_reducible first | exact HB.out | apply below_alloc | apply pw_below_drewN | apply below_drew1 | refine below_set ?_ GE250.out | refine below_set ?_ GE251.out) | exact HB.out)))); have n2_ := Aside0.mk (blk_below (g := gb250) (o := .cells #[.string a0_0, .slice A0_1 l0_1.length c0_1, .slice A0_2 l0_2.length c0_2] 25 (0, 0)) (by (with_reducible repeat (first | refine blk_drewN ?_ _ | refine blk_drew ?_ | refine blk_alloc ?_ _)); exact BK250.out) hb); have n3_ := Aside0.mk (blk_below (g := gb251) (o := .cells #[.int .i64 a1_0, .int .i64 a1_1, .int .i64 a1_2, .int .i64 a1_3] 32 (0, 0)) (by (with_reducible repeat (first | refine blk_drewN ?_ _ | refine blk_drew ?_ | refine blk_alloc ?_ _)); exact BK251.out) hb); have n4_ := Aside0.mk (below_step (by repeat (first | (with_reducible first | exact HB.out | apply below_alloc | apply pw_below_drewN | apply below_drew1 | refine below_set ?_ GE250.out | refine below_set ?_ GE251.out) | exact HB.out)) hb); clear HO256; clear BK250; clear BK251; clear HB; have HO256 := n0_; have HO259 := n1_; have BK250 := n2_; have BK251 := n3_; have HB := n4_; clear n0_ n1_ n2_ n3_ n4_; (try clear hb); (try clear hb2); (try clear hk); (try clear hi); (try clear ho0); have hcz29_0 : w28.cell? ⟨gb250, 0, none⟩ = some (.string a0_0) := (blk_cell BK250.out 0).trans rfl; have hcz29_1 : w28.cell? ⟨gb250, 1, none⟩ = some (.slice A0_1 l0_1.length c0_1) := (blk_cell BK250.out 1).trans rfl; have hcz29_2 : w28.cell? ⟨gb250, 2, none⟩ = some (.slice A0_2 l0_2.length c0_2) := (blk_cell BK250.out 2).trans rfl; have hfz29_0 := blk_frozen BK250.out 0; have hfz29_1 := blk_frozen BK250.out 1; have hfz29_2 := blk_frozen BK250.out 2; have hcz30_0 : w28.cell? ⟨gb251, 0, none⟩ = some (.int .i64 a1_0) := (blk_cell BK251.out 0).trans rfl; have hcz30_1 : w28.cell? ⟨gb251, 1, none⟩ = some (.int .i64 a1_1) := (blk_cell BK251.out 1).trans rfl; have hcz30_2 : w28.cell? ⟨gb251, 2, none⟩ = some (.int .i64 a1_2) := (blk_cell BK251.out 2).trans rfl; have hcz30_3 : w28.cell? ⟨gb251, 3, none⟩ = some (.int .i64 a1_3) := (blk_cell BK251.out 3).trans rfl; have hfz30_0 := blk_frozen BK251.out 0; have hfz30_1 := blk_frozen BK251.out 1; have hfz30_2 := blk_frozen BK251.out 2; have hfz30_3 := blk_frozen BK251.out 3) | ((with_reducible refine gate_dst (N := 38) rfl ?_); (try (refine gate_guard (by rfl) ?_; dsimp only)); refine Kd.R_lit k32 _ 32 ?hg (N := 38) ?hd (xs := ([(⟨3, 0, x2_14, a1_3⟩ : S32)] : List (S32))) (inner := [.int .i64 3, .int .i64 0, .int .i64 x2_14, .int .i64 a1_3]) (ok := fun _ => True) (okp := fun _ => True) ?hr ?hp (fun _ hk => hk) trivial (Below.refl _ _) (Nat.le_refl _) (by simp) ?_; (case hd => rfl); (case hg => rfl); (case hr => first | (go_simp; done) | (go_simp; rfl)); (case hp => exact (Reps.c4 (show Kd.M k32 _ _ _ (⟨3, 0, x2_14, a1_3⟩ : S32) [.int .i64 3, .int .i64 0, .int .i64 x2_14, .int .i64 a1_3] from (k32_mkM _ _ _ (⟨3, 0, x2_14, a1_3⟩ : S32) )) (Reps.none _ _))); intro v261 w31 ho32 hb hg_ hnew_; clear hg_ hnew_; (first | rw [← Ny260.out] at ho32 | (simp only [Int.reduceToNat] at ho32; rw [← Ny260.out] at ho32)); have n0_ := Aside0.mk (Kd.R_elder' (by (with_reducible repeat (first | apply Kd.R_alloc | apply Kd.R_drewN | apply Kd.R_drew)); exact HO256.out) (Kd.R_base ho32) hb); have n1_ := Aside0.mk (Kd.R_below (by (with_reducible repeat (first | apply Kd.R_alloc | apply Kd.R_drewN | apply Kd.R_drew)); exact HO259.out) hb); have n2_ := Aside0.mk (Kd.R_lower (Kd.R_newB (Kd.R_new' ho32 (Kd.R_lt (by (with_reducible repeat (first | apply Kd.R_alloc | apply Kd.R_drewN | apply Kd.R_drew)); exact HO256.out))) (g := gb251) (o := .cells #[.int .i64 a1_0, .int .i64 a1_1, .int .i64 a1_2, .int .i64 a1_3] 32 (0, 0)) (by (with_reducible repeat (first | refine blk_drewN ?_ _ | refine blk_drew ?_ | refine blk_alloc ?_ _)); exact BK251.out)) (below_size (by repeat (first | (with_reducible first | exact HB.out | apply below_alloc | apply pw_below_drewN | apply below_drew1 | refine below_set ?_ GE250.out | refine below_set ?_ GE251.out) | exact HB.out)))); have n3_ := Aside0.mk (blk_below (g := gb250) (o := .cells #[.string a0_0, .slice A0_1 l0_1.length c0_1, .slice A0_2 l0_2.length c0_2] 25 (0, 0)) (by (with_reducible repeat (first | refine blk_drewN ?_ _ | refine blk_drew ?_ | refine blk_alloc ?_ _)); exact BK250.out) hb); have n4_ := Aside0.mk (blk_below (g := gb251) (o := .cells #[.int .i64 a1_0, .int .i64 a1_1, .int .i64 a1_2, .int .i64 a1_3] 32 (0, 0)) (by (with_reducible repeat (first | refine blk_drewN ?_ _ | refine blk_drew ?_ | refine blk_alloc ?_ _)); exact BK251.out) hb); have n5_ := Aside0.mk (below_step (by repeat (first | (with_reducible first | exact HB.out | apply below_alloc | apply pw_below_drewN | apply below_drew1 | refine below_set ?_ GE250.out | refine below_set ?_ GE251.out) | exact HB.out)) hb); clear HO256; clear HO259; clear BK250; clear BK251; clear HB; have HO256 := n0_; have HO259 := n1_; have HO262 := n2_; have BK250 := n3_; have BK251 := n4_; have HB := n5_; clear n0_ n1_ n2_ n3_ n4_ n5_; clear hb ho32; obtain ⟨Ao33, co33, eo33⟩ := Kd.R_slice HO262.out; subst eo33) | (go_at_call 8; (with_reducible refine (orders_Of.calls kj14 a0_0 _ _ l0_1 _ _ l0_2 _ _ y260 t263 _ ?side1 ?side2 ?side3 ?side4 ?side5 ?side6 A20.out).mono ?_); (case side1 => repeat (first | exact (Kd.C_below HR0_1.out HB.out) | (with_reducible refine Kd.C_alloc ?_ _) | (with_reducible refine Kd.C_drewN ?_ _) | (with_reducible refine Kd.C_drew ?_))); (case side2 => exact HC0_1.out); (case side3 => repeat (first | exact (Kd.C_below HR0_2.out HB.out) | (with_reducible refine Kd.C_alloc ?_ _) | (with_reducible refine Kd.C_drewN ?_ _) | (with_reducible refine Kd.C_drew ?_))); (case side4 => exact HC0_2.out); (case side5 => repeat (first | exact (Kd.R_reads' HO262.out).2.2 | (with_reducible refine Kd.C_alloc ?_ _) | (with_reducible refine Kd.C_drewN ?_ _) | (with_reducible refine Kd.C_drew ?_))); (case side6 => exact (Kd.R_reads' HO262.out).2.1); rintro e w34 ⟨v264, rfl, ho0, hb⟩; have n0_ := Aside0.mk (Kd.R_below (by (with_reducible repeat (first | apply Kd.R_alloc | apply Kd.R_drewN | apply Kd.R_drew)); exact HO256.out) hb); have n1_ := Aside0.mk (Kd.R_elder' (by (with_reducible repeat (first | apply Kd.R_alloc | apply Kd.R_drewN | apply Kd.R_drew)); exact HO259.out) (Kd.R_base ho0) hb); have n2_ := Aside0.mk (Kd.R_below (by (with_reducible repeat (first | apply Kd.R_alloc | apply Kd.R_drewN | apply Kd.R_drew)); exact HO262.out) hb); have n3_ := Aside0.mk (Kd.R_lower (Kd.R_new' ho0 (Kd.R_lt (by (with_reducible repeat (first | apply Kd.R_alloc | apply Kd.R_drewN | apply Kd.R_drew)); exact HO259.out))) (below_size (by repeat (first | (with_reducible first | exact HB.out | apply below_alloc | apply pw_below_drewN | apply below_drew1 | refine below_set ?_ GE250.out | refine below_set ?_ GE251.out) | exact HB.out)))); have n4_ := Aside0.mk (blk_below (g := gb250) (o := .cells #[.string a0_0, .slice A0_1 l0_1.length c0_1, .slice A0_2 l0_2.length c0_2] 25 (0, 0)) (by (with_reducible repeat (first | refine blk_drewN ?_ _ | refine blk_drew ?_ | refine blk_alloc ?_ _)); exact BK250.out) hb); have n5_ := Aside0.mk (blk_below (g := gb251) (o := .cells #[.int .i64 a1_0, .int .i64 a1_1, .int .i64 a1_2, .int .i64 a1_3] 32 (0, 0)) (by (with_reducible repeat (first | refine blk_drewN ?_ _ | refine blk_drew ?_ | refine blk_alloc ?_ _)); exact BK251.out) hb); have n6_ := Aside0.mk (below_step (by repeat (first | (with_reducible first | exact HB.out | apply below_alloc | apply pw_below_drewN | apply below_drew1 | refine below_set ?_ GE250.out | refine below_set ?_ GE251.out) | exact HB.out)) hb); clear HO256; clear HO259; clear HO262; clear BK250; clear BK251; clear HB; have HO256 := n0_; have HO259 := n1_; have HO262 := n2_; have HO265 := n3_; have BK250 := n4_; have BK251 := n5_; have HB := n6_; clear n0_ n1_ n2_ n3_ n4_ n5_ n6_; (try clear hb); (try clear hb2); (try clear hk); (try clear hi); (try clear ho0))))
            (try simp only [Act.put, List.setIfInBounds_toArray, List.set_cons_zero, List.set_cons_succ])
            go_cut [67] (fun v67 wc => ∃ (kq : Nat) (x67_20 : Bool), v67 = .bool x67_20 ∧ Aside0 (remontoirlaw27_OrdersNone.j2 kq x67_20 a0_0 l0_1 l0_2 a1_0 a1_1 a1_2 a1_3 = some true) ∧ Aside0 (kq ≤ kj14) ∧ Aside0 (wc.heap[gb250]? = some (.cells #[.string a0_0, (.slice A0_1 l0_1.length c0_1), (.slice A0_2 l0_2.length c0_2)] 25 (0, 0))) ∧ Aside0 (wc.heap[gb251]? = some (.cells #[.int .i64 a1_0, .int .i64 a1_1, .int .i64 a1_2, .int .i64 a1_3] 32 (0, 0))) ∧ Aside0 (Below w.heap.size w wc))
            case first =>
              have H := HC21.out
              clear HC21
              by_cases c35 : (t257.length : Int) = 1
              · rw [if_pos c35] at H
                have c35b0 : ((t257.length : Int) == 1) = true := beq_iff_eq.mpr c35
                have c35b1 : ((t257.length : Int) != 1) = false := bne_eq_false_iff_eq.mpr c35
                clear c35
                (first | rw [c35b0] | (simp only [i64_w, i32_w]; rw [c35b0]) | skip)
                by_cases c36 : 0 < (t257.length : Int)
                · rw [if_pos c36] at H
                  have c36b0 : decide (0 < (t257.length : Int)) = true := decide_eq_true c36
                  have c36b1 : decide (0 < t257.length) = true := decide_eq_true (by omega)
                  clear c36
                  by_cases c37 : (!(((rd_T35 t257 0).f0) == 1) || (!(((rd_T35 t257 0).f1) == a1_3) || (!(((rd_T35 t257 0).f2) == x2_14) || (!(((rd_T35 t257 0).f3) == 0) || (!(((rd_T35 t257 0).f4) == 0)))))) = true
                  · rw [if_pos c37] at H
                    have c37b0 : (!(((rd_T35 t257 0).f0) == 1) || (!(((rd_T35 t257 0).f1) == a1_3) || (!(((rd_T35 t257 0).f2) == x2_14) || (!(((rd_T35 t257 0).f3) == 0) || (!(((rd_T35 t257 0).f4) == 0)))))) = true := c37
                    clear c37
                    have H' := Aside0.mk H
                    clear H
                    obtain ⟨Ao38, co38, eo38⟩ := Kd.R_slice HO259.out
                    subst eo38
                    have p266 : 0 ≤ (0 : Int) := (by omega)
                    have q266 : 0 < (t257.length : Int) := of_decide_eq_true (by first | (with_reducible assumption) | assumption)
                    obtain ⟨ad266, e266, hx266_0, hx266_1, hx266_2, hx266_3, hx266_4⟩ := at_T35 (Kd.R_reads' HO259.out).2.2 0 p266 q266
                    cases e266
                    have qi266 : (0 < t257.length) = True := eq_true (by omega)
                    (try rw [show ((0 : Int)).toNat = 0 from rfl] at hx266_0)
                    (try rw [show 0 * 5 = 0 from rfl] at hx266_0)
                    (try rw [Addr.add_zero'] at hx266_0)
                    (try rw [show ((0 : Int)).toNat = 0 from rfl] at hx266_1)
                    (try rw [show 0 * 5 = 0 from rfl] at hx266_1)
                    (try rw [Addr.add_zero'] at hx266_1)
                    (try rw [show ((0 : Int)).toNat = 0 from rfl] at hx266_2)
                    (try rw [show 0 * 5 = 0 from rfl] at hx266_2)
                    (try rw [Addr.add_zero'] at hx266_2)
                    (try rw [show ((0 : Int)).toNat = 0 from rfl] at hx266_3)
                    (try rw [show 0 * 5 = 0 from rfl] at hx266_3)
                    (try rw [Addr.add_zero'] at hx266_3)
                    (try rw [show ((0 : Int)).toNat = 0 from rfl] at hx266_4)
                    (try rw [show 0 * 5 = 0 from rfl] at hx266_4)
                    (try rw [Addr.add_zero'] at hx266_4)
                    replace p266 := eq_true p266
                    replace q266 := eq_true q266
                    have hnb39 := NB251_250.out
                    have hnc39 := NB250_251.out
                    have hcz40_0 : w34.cell? ⟨gb251, 0, none⟩ = some (.int .i64 a1_0) := (blk_cell BK251.out 0).trans rfl
                    have hcz40_1 : w34.cell? ⟨gb251, 1, none⟩ = some (.int .i64 a1_1) := (blk_cell BK251.out 1).trans rfl
                    have hcz40_2 : w34.cell? ⟨gb251, 2, none⟩ = some (.int .i64 a1_2) := (blk_cell BK251.out 2).trans rfl
                    have hcz40_3 : w34.cell? ⟨gb251, 3, none⟩ = some (.int .i64 a1_3) := (blk_cell BK251.out 3).trans rfl
                    have hfz40_0 := blk_frozen BK251.out 0
                    have hfz40_1 := blk_frozen BK251.out 1
                    have hfz40_2 := blk_frozen BK251.out 2
                    have hfz40_3 := blk_frozen BK251.out 3
                    go_wp2
                    repeat (go_quiet (fail); try go_wp2)
                    go_meet
                    case rel => exact ⟨_, (true), (by first | rfl | (simp; done) | (simp [*]; done)), H', ⟨by have := HJ5.out; have := HJ14.out; first | omega | exact Nat.le_refl _⟩, ⟨by (with_reducible repeat (first | refine blk_drewN ?_ _ | refine blk_drew ?_ | refine blk_alloc ?_ _)); exact BK250.out⟩, ⟨by (with_reducible repeat (first | refine blk_drewN ?_ _ | refine blk_drew ?_ | refine blk_alloc ?_ _)); exact BK251.out⟩, ⟨by repeat (first | (with_reducible first | exact HB.out | apply below_alloc | apply pw_below_drewN | apply below_drew1 | refine below_set ?_ GE250.out | refine below_set ?_ GE251.out) | exact HB.out)⟩⟩
                  · rw [if_neg c37] at H
                    have c37b0 : (!(((rd_T35 t257 0).f0) == 1) || (!(((rd_T35 t257 0).f1) == a1_3) || (!(((rd_T35 t257 0).f2) == x2_14) || (!(((rd_T35 t257 0).f3) == 0) || (!(((rd_T35 t257 0).f4) == 0)))))) = false := by simpa using c37
                    clear c37
                    by_cases c41 : (t263.length : Int) = 1
                    · rw [if_pos c41] at H
                      have c41b0 : ((t263.length : Int) == 1) = true := beq_iff_eq.mpr c41
                      have c41b1 : ((t263.length : Int) != 1) = false := bne_eq_false_iff_eq.mpr c41
                      clear c41
                      by_cases c42 : 0 < (t263.length : Int)
                      · rw [if_pos c42] at H
                        have c42b0 : decide (0 < (t263.length : Int)) = true := decide_eq_true c42
                        have c42b1 : decide (0 < t263.length) = true := decide_eq_true (by omega)
                        clear c42
                        have H' := Aside0.mk H
                        clear H
                        obtain ⟨Ao43, co43, eo43⟩ := Kd.R_slice HO259.out
                        subst eo43
                        have p266 : 0 ≤ (0 : Int) := (by omega)
                        have q266 : 0 < (t257.length : Int) := of_decide_eq_true (by first | (with_reducible assumption) | assumption)
                        obtain ⟨ad266, e266, hx266_0, hx266_1, hx266_2, hx266_3, hx266_4⟩ := at_T35 (Kd.R_reads' HO259.out).2.2 0 p266 q266
                        cases e266
                        have qi266 : (0 < t257.length) = True := eq_true (by omega)
                        (try rw [show ((0 : Int)).toNat = 0 from rfl] at hx266_0)
                        (try rw [show 0 * 5 = 0 from rfl] at hx266_0)
                        (try rw [Addr.add_zero'] at hx266_0)
                        (try rw [show ((0 : Int)).toNat = 0 from rfl] at hx266_1)
                        (try rw [show 0 * 5 = 0 from rfl] at hx266_1)
                        (try rw [Addr.add_zero'] at hx266_1)
                        (try rw [show ((0 : Int)).toNat = 0 from rfl] at hx266_2)
                        (try rw [show 0 * 5 = 0 from rfl] at hx266_2)
                        (try rw [Addr.add_zero'] at hx266_2)
                        (try rw [show ((0 : Int)).toNat = 0 from rfl] at hx266_3)
                        (try rw [show 0 * 5 = 0 from rfl] at hx266_3)
                        (try rw [Addr.add_zero'] at hx266_3)
                        (try rw [show ((0 : Int)).toNat = 0 from rfl] at hx266_4)
                        (try rw [show 0 * 5 = 0 from rfl] at hx266_4)
                        (try rw [Addr.add_zero'] at hx266_4)
                        replace p266 := eq_true p266
                        replace q266 := eq_true q266
                        have hnb44 := NB251_250.out
                        have hnc44 := NB250_251.out
                        have hcz45_0 : w34.cell? ⟨gb251, 0, none⟩ = some (.int .i64 a1_0) := (blk_cell BK251.out 0).trans rfl
                        have hcz45_1 : w34.cell? ⟨gb251, 1, none⟩ = some (.int .i64 a1_1) := (blk_cell BK251.out 1).trans rfl
                        have hcz45_2 : w34.cell? ⟨gb251, 2, none⟩ = some (.int .i64 a1_2) := (blk_cell BK251.out 2).trans rfl
                        have hcz45_3 : w34.cell? ⟨gb251, 3, none⟩ = some (.int .i64 a1_3) := (blk_cell BK251.out 3).trans rfl
                        have hfz45_0 := blk_frozen BK251.out 0
                        have hfz45_1 := blk_frozen BK251.out 1
                        have hfz45_2 := blk_frozen BK251.out 2
                        have hfz45_3 := blk_frozen BK251.out 3
                        obtain ⟨Ao46, co46, eo46⟩ := Kd.R_slice HO265.out
                        subst eo46
                        have p267 : 0 ≤ (0 : Int) := (by omega)
                        have q267 : 0 < (t263.length : Int) := of_decide_eq_true (by first | (with_reducible assumption) | assumption)
                        obtain ⟨ad267, e267, hx267_0, hx267_1, hx267_2, hx267_3, hx267_4⟩ := at_T35 (Kd.R_reads' HO265.out).2.2 0 p267 q267
                        cases e267
                        have qi267 : (0 < t263.length) = True := eq_true (by omega)
                        (try rw [show ((0 : Int)).toNat = 0 from rfl] at hx267_0)
                        (try rw [show 0 * 5 = 0 from rfl] at hx267_0)
                        (try rw [Addr.add_zero'] at hx267_0)
                        (try rw [show ((0 : Int)).toNat = 0 from rfl] at hx267_1)
                        (try rw [show 0 * 5 = 0 from rfl] at hx267_1)
                        (try rw [Addr.add_zero'] at hx267_1)
                        (try rw [show ((0 : Int)).toNat = 0 from rfl] at hx267_2)
                        (try rw [show 0 * 5 = 0 from rfl] at hx267_2)
                        (try rw [Addr.add_zero'] at hx267_2)
                        (try rw [show ((0 : Int)).toNat = 0 from rfl] at hx267_3)
                        (try rw [show 0 * 5 = 0 from rfl] at hx267_3)
                        (try rw [Addr.add_zero'] at hx267_3)
                        (try rw [show ((0 : Int)).toNat = 0 from rfl] at hx267_4)
                        (try rw [show 0 * 5 = 0 from rfl] at hx267_4)
                        (try rw [Addr.add_zero'] at hx267_4)
                        replace p267 := eq_true p267
                        replace q267 := eq_true q267
                        go_wp2
                        repeat (go_quiet (fail); try go_wp2)
                        go_meet
                        case rel => exact ⟨_, ((!(((rd_T35 t263 0).f0) == 2) || (!(((rd_T35 t263 0).f1) == a1_3) || (!(((rd_T35 t263 0).f2) == x2_14) || (!(((rd_T35 t263 0).f3) == 0) || (!(((rd_T35 t263 0).f4) == 0))))))), (by first | rfl | (simp; done) | (simp [*]; done)), H', ⟨by have := HJ5.out; have := HJ14.out; first | omega | exact Nat.le_refl _⟩, ⟨by (with_reducible repeat (first | refine blk_drewN ?_ _ | refine blk_drew ?_ | refine blk_alloc ?_ _)); exact BK250.out⟩, ⟨by (with_reducible repeat (first | refine blk_drewN ?_ _ | refine blk_drew ?_ | refine blk_alloc ?_ _)); exact BK251.out⟩, ⟨by repeat (first | (with_reducible first | exact HB.out | apply below_alloc | apply pw_below_drewN | apply below_drew1 | refine below_set ?_ GE250.out | refine below_set ?_ GE251.out) | exact HB.out)⟩⟩
                      · rw [if_neg c42] at H
                        exact absurd H (by simp)
                    · rw [if_neg c41] at H
                      have c41b0 : ((t263.length : Int) == 1) = false := beq_eq_false_iff_ne.mpr c41
                      have c41b1 : ((t263.length : Int) != 1) = true := bne_iff_ne.mpr c41
                      have H' := Aside0.mk H
                      clear H
                      obtain ⟨Ao47, co47, eo47⟩ := Kd.R_slice HO259.out
                      subst eo47
                      have p266 : 0 ≤ (0 : Int) := (by omega)
                      have q266 : 0 < (t257.length : Int) := of_decide_eq_true (by first | (with_reducible assumption) | assumption)
                      obtain ⟨ad266, e266, hx266_0, hx266_1, hx266_2, hx266_3, hx266_4⟩ := at_T35 (Kd.R_reads' HO259.out).2.2 0 p266 q266
                      cases e266
                      have qi266 : (0 < t257.length) = True := eq_true (by omega)
                      (try rw [show ((0 : Int)).toNat = 0 from rfl] at hx266_0)
                      (try rw [show 0 * 5 = 0 from rfl] at hx266_0)
                      (try rw [Addr.add_zero'] at hx266_0)
                      (try rw [show ((0 : Int)).toNat = 0 from rfl] at hx266_1)
                      (try rw [show 0 * 5 = 0 from rfl] at hx266_1)
                      (try rw [Addr.add_zero'] at hx266_1)
                      (try rw [show ((0 : Int)).toNat = 0 from rfl] at hx266_2)
                      (try rw [show 0 * 5 = 0 from rfl] at hx266_2)
                      (try rw [Addr.add_zero'] at hx266_2)
                      (try rw [show ((0 : Int)).toNat = 0 from rfl] at hx266_3)
                      (try rw [show 0 * 5 = 0 from rfl] at hx266_3)
                      (try rw [Addr.add_zero'] at hx266_3)
                      (try rw [show ((0 : Int)).toNat = 0 from rfl] at hx266_4)
                      (try rw [show 0 * 5 = 0 from rfl] at hx266_4)
                      (try rw [Addr.add_zero'] at hx266_4)
                      replace p266 := eq_true p266
                      replace q266 := eq_true q266
                      have hnb48 := NB251_250.out
                      have hnc48 := NB250_251.out
                      have hcz49_0 : w34.cell? ⟨gb251, 0, none⟩ = some (.int .i64 a1_0) := (blk_cell BK251.out 0).trans rfl
                      have hcz49_1 : w34.cell? ⟨gb251, 1, none⟩ = some (.int .i64 a1_1) := (blk_cell BK251.out 1).trans rfl
                      have hcz49_2 : w34.cell? ⟨gb251, 2, none⟩ = some (.int .i64 a1_2) := (blk_cell BK251.out 2).trans rfl
                      have hcz49_3 : w34.cell? ⟨gb251, 3, none⟩ = some (.int .i64 a1_3) := (blk_cell BK251.out 3).trans rfl
                      have hfz49_0 := blk_frozen BK251.out 0
                      have hfz49_1 := blk_frozen BK251.out 1
                      have hfz49_2 := blk_frozen BK251.out 2
                      have hfz49_3 := blk_frozen BK251.out 3
                      obtain ⟨Ao50, co50, eo50⟩ := Kd.R_slice HO265.out
                      subst eo50
                      go_wp2
                      repeat (go_quiet (fail); try go_wp2)
                      go_meet
                      case rel => exact ⟨_, (true), (by first | rfl | (simp; done) | (simp [*]; done)), H', ⟨by have := HJ5.out; have := HJ14.out; first | omega | exact Nat.le_refl _⟩, ⟨by (with_reducible repeat (first | refine blk_drewN ?_ _ | refine blk_drew ?_ | refine blk_alloc ?_ _)); exact BK250.out⟩, ⟨by (with_reducible repeat (first | refine blk_drewN ?_ _ | refine blk_drew ?_ | refine blk_alloc ?_ _)); exact BK251.out⟩, ⟨by repeat (first | (with_reducible first | exact HB.out | apply below_alloc | apply pw_below_drewN | apply below_drew1 | refine below_set ?_ GE250.out | refine below_set ?_ GE251.out) | exact HB.out)⟩⟩
                · rw [if_neg c36] at H
                  exact absurd H (by simp)
              · rw [if_neg c35] at H
                have c35b0 : ((t257.length : Int) == 1) = false := beq_eq_false_iff_ne.mpr c35
                have c35b1 : ((t257.length : Int) != 1) = true := bne_iff_ne.mpr c35
                (first | rw [c35b0] | (simp only [i64_w, i32_w]; rw [c35b0]) | skip)
                have H' := Aside0.mk H
                clear H
                obtain ⟨Ao51, co51, eo51⟩ := Kd.R_slice HO259.out
                subst eo51
                go_wp2
                repeat (go_quiet (fail); try go_wp2)
                go_meet
                case rel => exact ⟨_, (true), (by first | rfl | (simp; done) | (simp [*]; done)), H', ⟨by have := HJ5.out; have := HJ14.out; first | omega | exact Nat.le_refl _⟩, ⟨by (with_reducible repeat (first | refine blk_drewN ?_ _ | refine blk_drew ?_ | refine blk_alloc ?_ _)); exact BK250.out⟩, ⟨by (with_reducible repeat (first | refine blk_drewN ?_ _ | refine blk_drew ?_ | refine blk_alloc ?_ _)); exact BK251.out⟩, ⟨by repeat (first | (with_reducible first | exact HB.out | apply below_alloc | apply pw_below_drewN | apply below_drew1 | refine below_set ?_ GE250.out | refine below_set ?_ GE251.out) | exact HB.out)⟩⟩
            case rest =>
              clear HC21
              try clear c1
              try clear c2
              try clear p2
              try clear q2
              try clear hx2
              try clear qi2
              try clear c3
              try clear c4
              try clear c5
              try clear p6
              try clear c9
              try clear c12
              try clear c12b0
              try clear c13
              try clear c16
              try clear c17
              try clear c22
              try clear p26
              try clear q26
              try clear hx26
              try clear qi26
              try clear c35
              try clear c35b0
              try clear c35b1
              try clear c36
              try clear c36b0
              try clear c36b1
              try clear c37
              try clear c37b0
              try clear c39
              try clear c41
              try clear c41b0
              try clear c41b1
              try clear c42
              try clear c42b0
              try clear c42b1
              try clear c44
              try clear c48
              try clear hcz10_0
              try clear hcz10_1
              try clear hcz10_2
              try clear hcz14_0
              try clear hcz14_1
              try clear hcz14_2
              try clear hcz18_0
              try clear hcz18_1
              try clear hcz18_2
              try clear hcz23_0
              try clear hcz23_1
              try clear hcz23_2
              try clear hcz24_0
              try clear hcz24_1
              try clear hcz24_2
              try clear hcz24_3
              try clear hcz29_0
              try clear hcz29_1
              try clear hcz29_2
              try clear hcz30_0
              try clear hcz30_1
              try clear hcz30_2
              try clear hcz30_3
              try clear hcz40_0
              try clear hcz40_1
              try clear hcz40_2
              try clear hcz40_3
              try clear hcz45_0
              try clear hcz45_1
              try clear hcz45_2
              try clear hcz45_3
              try clear hcz49_0
              try clear hcz49_1
              try clear hcz49_2
              try clear hcz49_3
              try clear hfz10_0
              try clear hfz10_1
              try clear hfz10_2
              try clear hfz14_0
              try clear hfz14_1
              try clear hfz14_2
              try clear hfz18_0
              try clear hfz18_1
              try clear hfz18_2
              try clear hfz23_0
              try clear hfz23_1
              try clear hfz23_2
              try clear hfz24_0
              try clear hfz24_1
              try clear hfz24_2
              try clear hfz24_3
              try clear hfz29_0
              try clear hfz29_1
              try clear hfz29_2
              try clear hfz30_0
              try clear hfz30_1
              try clear hfz30_2
              try clear hfz30_3
              try clear hfz40_0
              try clear hfz40_1
              try clear hfz40_2
              try clear hfz40_3
              try clear hfz45_0
              try clear hfz45_1
              try clear hfz45_2
              try clear hfz45_3
              try clear hfz49_0
              try clear hfz49_1
              try clear hfz49_2
              try clear hfz49_3
              try clear hx266_0
              try clear hx266_1
              try clear hx266_2
              try clear hx266_3
              try clear hx266_4
              try clear hx267_0
              try clear hx267_1
              try clear hx267_2
              try clear hx267_3
              try clear hx267_4
              try clear p2
              try clear p266
              try clear p267
              try clear p6
              try clear q266
              try clear q267
              obtain ⟨kq, x67_20, rfl, HA, HJ20, BK250, BK251, HB⟩ := hcut
              cases kq with
              | zero => exact absurd HA.out (by simp [remontoirlaw27_OrdersNone.j2])
              | succ kj20 =>
                have H := HA.out
                clear HA
                simp only [remontoirlaw27_OrdersNone.j2] at H
                by_cases c52 : x67_20 = true
                · subst c52
                  have H1 : (some false) = some true := by rw [if_pos rfl] at H; exact H
                  clear H
                  have H := H1
                  clear H1
                  exact absurd (Option.some.inj H) (by decide)
                · replace c52 := Bool.eq_false_iff.mpr c52
                  subst c52
                  have H1 : (if a1_0 = 2 then (remontoirlaw27_OrdersNone.j3 kj20 true a0_0 l0_1 l0_2 a1_0 a1_1 a1_2 a1_3) else (if a1_0 = 3 then (remontoirlaw27_OrdersNone.j3 kj20 true a0_0 l0_1 l0_2 a1_0 a1_1 a1_2 a1_3) else (remontoirlaw27_OrdersNone.j3 kj20 (a1_0 == 4) a0_0 l0_1 l0_2 a1_0 a1_1 a1_2 a1_3))) = some true := by rw [if_neg (show ¬ (false = true) by decide)] at H; exact H
                  clear H
                  have H := H1
                  clear H1
                  have HC53 := Aside0.mk H
                  clear H
                  go_upto_region 9 with (fail)
                  repeat (go_quiet (fail); go_upto_region 9 with (fail))
                  go_cut [80] (fun v80 wc => ∃ (kq : Nat) (x80_52 : Bool), v80 = .bool x80_52 ∧ Aside0 (remontoirlaw27_OrdersNone.j3 kq x80_52 a0_0 l0_1 l0_2 a1_0 a1_1 a1_2 a1_3 = some true) ∧ Aside0 (kq ≤ kj20) ∧ Aside0 (wc.heap[gb250]? = some (.cells #[.string a0_0, (.slice A0_1 l0_1.length c0_1), (.slice A0_2 l0_2.length c0_2)] 25 (0, 0))) ∧ Aside0 (wc.heap[gb251]? = some (.cells #[.int .i64 a1_0, .int .i64 a1_1, .int .i64 a1_2, .int .i64 a1_3] 32 (0, 0))) ∧ Aside0 (Below w.heap.size w wc))
                  case first =>
                    have H := HC53.out
                    clear HC53
                    by_cases c54 : a1_0 = 2
                    · rw [if_pos c54] at H
                      have c54b0 : (a1_0 == 2) = true := beq_iff_eq.mpr c54
                      have c54b1 : (a1_0 != 2) = false := bne_eq_false_iff_eq.mpr c54
                      clear c54
                      (first | rw [c54b0] | (simp only [i64_w, i32_w]; rw [c54b0]) | skip)
                      have H' := Aside0.mk H
                      clear H
                      have hnb55 := NB251_250.out
                      have hnc55 := NB250_251.out
                      have hcz56_0 : wc.cell? ⟨gb251, 0, none⟩ = some (.int .i64 a1_0) := (blk_cell BK251.out 0).trans rfl
                      have hcz56_1 : wc.cell? ⟨gb251, 1, none⟩ = some (.int .i64 a1_1) := (blk_cell BK251.out 1).trans rfl
                      have hcz56_2 : wc.cell? ⟨gb251, 2, none⟩ = some (.int .i64 a1_2) := (blk_cell BK251.out 2).trans rfl
                      have hcz56_3 : wc.cell? ⟨gb251, 3, none⟩ = some (.int .i64 a1_3) := (blk_cell BK251.out 3).trans rfl
                      have hfz56_0 := blk_frozen BK251.out 0
                      have hfz56_1 := blk_frozen BK251.out 1
                      have hfz56_2 := blk_frozen BK251.out 2
                      have hfz56_3 := blk_frozen BK251.out 3
                      go_wp2
                      repeat (go_quiet (fail); try go_wp2)
                      go_meet
                      case rel => exact ⟨_, (true), (by first | rfl | (simp; done) | (simp [*]; done)), H', ⟨by have := HJ5.out; have := HJ14.out; have := HJ20.out; first | omega | exact Nat.le_refl _⟩, ⟨by (with_reducible repeat (first | refine blk_drewN ?_ _ | refine blk_drew ?_ | refine blk_alloc ?_ _)); exact BK250.out⟩, ⟨by (with_reducible repeat (first | refine blk_drewN ?_ _ | refine blk_drew ?_ | refine blk_alloc ?_ _)); exact BK251.out⟩, ⟨by repeat (first | (with_reducible first | exact HB.out | apply below_alloc | apply pw_below_drewN | apply below_drew1 | refine below_set ?_ GE250.out | refine below_set ?_ GE251.out) | exact HB.out)⟩⟩
                    · rw [if_neg c54] at H
                      have c54b0 : (a1_0 == 2) = false := beq_eq_false_iff_ne.mpr c54
                      have c54b1 : (a1_0 != 2) = true := bne_iff_ne.mpr c54
                      (first | rw [c54b0] | (simp only [i64_w, i32_w]; rw [c54b0]) | skip)
                      by_cases c57 : a1_0 = 3
                      · rw [if_pos c57] at H
                        have c57b0 : (a1_0 == 3) = true := beq_iff_eq.mpr c57
                        have c57b1 : (a1_0 != 3) = false := bne_eq_false_iff_eq.mpr c57
                        clear c57
                        have H' := Aside0.mk H
                        clear H
                        have hnb58 := NB251_250.out
                        have hnc58 := NB250_251.out
                        have hcz59_0 : wc.cell? ⟨gb251, 0, none⟩ = some (.int .i64 a1_0) := (blk_cell BK251.out 0).trans rfl
                        have hcz59_1 : wc.cell? ⟨gb251, 1, none⟩ = some (.int .i64 a1_1) := (blk_cell BK251.out 1).trans rfl
                        have hcz59_2 : wc.cell? ⟨gb251, 2, none⟩ = some (.int .i64 a1_2) := (blk_cell BK251.out 2).trans rfl
                        have hcz59_3 : wc.cell? ⟨gb251, 3, none⟩ = some (.int .i64 a1_3) := (blk_cell BK251.out 3).trans rfl
                        have hfz59_0 := blk_frozen BK251.out 0
                        have hfz59_1 := blk_frozen BK251.out 1
                        have hfz59_2 := blk_frozen BK251.out 2
                        have hfz59_3 := blk_frozen BK251.out 3
                        go_wp2
                        repeat (go_quiet (fail); try go_wp2)
                        go_meet
                        case rel => exact ⟨_, (true), (by first | rfl | (simp; done) | (simp [*]; done)), H', ⟨by have := HJ5.out; have := HJ14.out; have := HJ20.out; first | omega | exact Nat.le_refl _⟩, ⟨by (with_reducible repeat (first | refine blk_drewN ?_ _ | refine blk_drew ?_ | refine blk_alloc ?_ _)); exact BK250.out⟩, ⟨by (with_reducible repeat (first | refine blk_drewN ?_ _ | refine blk_drew ?_ | refine blk_alloc ?_ _)); exact BK251.out⟩, ⟨by repeat (first | (with_reducible first | exact HB.out | apply below_alloc | apply pw_below_drewN | apply below_drew1 | refine below_set ?_ GE250.out | refine below_set ?_ GE251.out) | exact HB.out)⟩⟩
                      · rw [if_neg c57] at H
                        have c57b0 : (a1_0 == 3) = false := beq_eq_false_iff_ne.mpr c57
                        have c57b1 : (a1_0 != 3) = true := bne_iff_ne.mpr c57
                        have H' := Aside0.mk H
                        clear H
                        have hnb60 := NB251_250.out
                        have hnc60 := NB250_251.out
                        have hcz61_0 : wc.cell? ⟨gb251, 0, none⟩ = some (.int .i64 a1_0) := (blk_cell BK251.out 0).trans rfl
                        have hcz61_1 : wc.cell? ⟨gb251, 1, none⟩ = some (.int .i64 a1_1) := (blk_cell BK251.out 1).trans rfl
                        have hcz61_2 : wc.cell? ⟨gb251, 2, none⟩ = some (.int .i64 a1_2) := (blk_cell BK251.out 2).trans rfl
                        have hcz61_3 : wc.cell? ⟨gb251, 3, none⟩ = some (.int .i64 a1_3) := (blk_cell BK251.out 3).trans rfl
                        have hfz61_0 := blk_frozen BK251.out 0
                        have hfz61_1 := blk_frozen BK251.out 1
                        have hfz61_2 := blk_frozen BK251.out 2
                        have hfz61_3 := blk_frozen BK251.out 3
                        go_wp2
                        repeat (go_quiet (fail); try go_wp2)
                        go_meet
                        case rel => exact ⟨_, ((a1_0 == 4)), (by first | rfl | (simp; done) | (simp [*]; done)), H', ⟨by have := HJ5.out; have := HJ14.out; have := HJ20.out; first | omega | exact Nat.le_refl _⟩, ⟨by (with_reducible repeat (first | refine blk_drewN ?_ _ | refine blk_drew ?_ | refine blk_alloc ?_ _)); exact BK250.out⟩, ⟨by (with_reducible repeat (first | refine blk_drewN ?_ _ | refine blk_drew ?_ | refine blk_alloc ?_ _)); exact BK251.out⟩, ⟨by repeat (first | (with_reducible first | exact HB.out | apply below_alloc | apply pw_below_drewN | apply below_drew1 | refine below_set ?_ GE250.out | refine below_set ?_ GE251.out) | exact HB.out)⟩⟩
                  case rest =>
                    clear HC53
                    try clear c1
                    try clear c2
                    try clear p2
                    try clear q2
                    try clear hx2
                    try clear qi2
                    try clear c3
                    try clear c4
                    try clear c5
                    try clear c6
                    try clear p6
                    try clear c9
                    try clear c12
                    try clear c12b0
                    try clear c13
                    try clear c16
                    try clear c17
                    try clear c22
                    try clear p26
                    try clear q26
                    try clear hx26
                    try clear qi26
                    try clear c35
                    try clear c35b0
                    try clear c35b1
                    try clear c36
                    try clear c36b0
                    try clear c36b1
                    try clear c37
                    try clear c37b0
                    try clear c39
                    try clear c41
                    try clear c41b0
                    try clear c41b1
                    try clear c42
                    try clear c42b0
                    try clear c42b1
                    try clear c44
                    try clear c48
                    try clear c52
                    try clear c54
                    try clear c54b0
                    try clear c54b1
                    try clear c55
                    try clear c57
                    try clear c57b0
                    try clear c57b1
                    try clear c58
                    try clear c60
                    try clear hcz10_0
                    try clear hcz10_1
                    try clear hcz10_2
                    try clear hcz14_0
                    try clear hcz14_1
                    try clear hcz14_2
                    try clear hcz18_0
                    try clear hcz18_1
                    try clear hcz18_2
                    try clear hcz23_0
                    try clear hcz23_1
                    try clear hcz23_2
                    try clear hcz24_0
                    try clear hcz24_1
                    try clear hcz24_2
                    try clear hcz24_3
                    try clear hcz29_0
                    try clear hcz29_1
                    try clear hcz29_2
                    try clear hcz30_0
                    try clear hcz30_1
                    try clear hcz30_2
                    try clear hcz30_3
                    try clear hcz40_0
                    try clear hcz40_1
                    try clear hcz40_2
                    try clear hcz40_3
                    try clear hcz45_0
                    try clear hcz45_1
                    try clear hcz45_2
                    try clear hcz45_3
                    try clear hcz49_0
                    try clear hcz49_1
                    try clear hcz49_2
                    try clear hcz49_3
                    try clear hcz56_0
                    try clear hcz56_1
                    try clear hcz56_2
                    try clear hcz56_3
                    try clear hcz59_0
                    try clear hcz59_1
                    try clear hcz59_2
                    try clear hcz59_3
                    try clear hcz61_0
                    try clear hcz61_1
                    try clear hcz61_2
                    try clear hcz61_3
                    try clear hfz10_0
                    try clear hfz10_1
                    try clear hfz10_2
                    try clear hfz14_0
                    try clear hfz14_1
                    try clear hfz14_2
                    try clear hfz18_0
                    try clear hfz18_1
                    try clear hfz18_2
                    try clear hfz23_0
                    try clear hfz23_1
                    try clear hfz23_2
                    try clear hfz24_0
                    try clear hfz24_1
                    try clear hfz24_2
                    try clear hfz24_3
                    try clear hfz29_0
                    try clear hfz29_1
                    try clear hfz29_2
                    try clear hfz30_0
                    try clear hfz30_1
                    try clear hfz30_2
                    try clear hfz30_3
                    try clear hfz40_0
                    try clear hfz40_1
                    try clear hfz40_2
                    try clear hfz40_3
                    try clear hfz45_0
                    try clear hfz45_1
                    try clear hfz45_2
                    try clear hfz45_3
                    try clear hfz49_0
                    try clear hfz49_1
                    try clear hfz49_2
                    try clear hfz49_3
                    try clear hfz56_0
                    try clear hfz56_1
                    try clear hfz56_2
                    try clear hfz56_3
                    try clear hfz59_0
                    try clear hfz59_1
                    try clear hfz59_2
                    try clear hfz59_3
                    try clear hfz61_0
                    try clear hfz61_1
                    try clear hfz61_2
                    try clear hfz61_3
                    try clear hx266_0
                    try clear hx266_1
                    try clear hx266_2
                    try clear hx266_3
                    try clear hx266_4
                    try clear hx267_0
                    try clear hx267_1
                    try clear hx267_2
                    try clear hx267_3
                    try clear hx267_4
                    try clear p2
                    try clear p26
                    try clear p266
                    try clear p267
                    try clear p6
                    try clear q2
                    try clear q26
                    try clear q266
                    try clear q267
                    obtain ⟨kq, x80_52, rfl, HA, HJ52, BK250, BK251, HB⟩ := hcut
                    cases kq with
                    | zero => exact absurd HA.out (by simp [remontoirlaw27_OrdersNone.j3])
                    | succ kj52 =>
                      have H := HA.out
                      clear HA
                      simp only [remontoirlaw27_OrdersNone.j3] at H
                      by_cases c62 : x80_52 = true
                      · subst c62
                        have H1 : ((orders_Of.f kj52 a0_0 l0_1 l0_2 (([(⟨a1_0, a1_1, a1_2, a1_3⟩ : S32)] : List (S32)))).bind fun t271 => (if (t271.length : Int) = 1 then ((remontoirlaw27_wakes.f kj52).bind fun t274 => (some t274)) else (some false))) = some true := by rw [if_pos rfl] at H; exact H
                        clear H
                        have H := H1
                        clear H1
                        obtain ⟨y268, hy268⟩ : ∃ y_ : List (S32), y_ = (([(⟨a1_0, a1_1, a1_2, a1_3⟩ : S32)] : List (S32))) := ⟨_, rfl⟩
                        replace H : ((orders_Of.f kj52 a0_0 l0_1 l0_2 y268).bind fun t271 => (if (t271.length : Int) = 1 then ((remontoirlaw27_wakes.f kj52).bind fun t274 => (some t274)) else (some false))) = some true := by first | (rw [hy268]; with_reducible exact H) | (have H2_ := (Option.bind_some _ _).symm.trans H; rw [hy268]; with_reducible exact H2_) | (have H2_ := (Option.bind_some _ _).symm.trans H; with_reducible exact H2_) | with_reducible exact H | (rw [hy268]; exact H) | exact H
                        have Ny268 := Aside0.mk hy268
                        clear hy268
                        replace H := Option.bind_eq_some_iff.mp H
                        obtain ⟨t271, A630, H⟩ := H
                        replace H : (if (t271.length : Int) = 1 then ((remontoirlaw27_wakes.f kj52).bind fun t274 => (some t274)) else (some false)) = some true := H
                        have A63 := Aside0.mk A630
                        clear A630
                        by_cases c64 : (t271.length : Int) = 1
                        · rw [if_pos c64] at H
                          have c64b0 : ((t271.length : Int) == 1) = true := beq_iff_eq.mpr c64
                          have c64b1 : ((t271.length : Int) != 1) = false := bne_eq_false_iff_eq.mpr c64
                          clear c64
                          replace H := Option.bind_eq_some_iff.mp H
                          obtain ⟨t274, A650, H⟩ := H
                          replace H : (some t274) = some true := H
                          have A65 := Aside0.mk A650
                          clear A650
                          obtain rfl := Option.some.inj H
                          have hnb66 := NB250_251.out
                          have hnc66 := NB251_250.out
                          have hcz67_0 : wc.cell? ⟨gb250, 0, none⟩ = some (.string a0_0) := (blk_cell BK250.out 0).trans rfl
                          have hcz67_1 : wc.cell? ⟨gb250, 1, none⟩ = some (.slice A0_1 l0_1.length c0_1) := (blk_cell BK250.out 1).trans rfl
                          have hcz67_2 : wc.cell? ⟨gb250, 2, none⟩ = some (.slice A0_2 l0_2.length c0_2) := (blk_cell BK250.out 2).trans rfl
                          have hfz67_0 := blk_frozen BK250.out 0
                          have hfz67_1 := blk_frozen BK250.out 1
                          have hfz67_2 := blk_frozen BK250.out 2
                          have hcz68_0 : wc.cell? ⟨gb251, 0, none⟩ = some (.int .i64 a1_0) := (blk_cell BK251.out 0).trans rfl
                          have hcz68_1 : wc.cell? ⟨gb251, 1, none⟩ = some (.int .i64 a1_1) := (blk_cell BK251.out 1).trans rfl
                          have hcz68_2 : wc.cell? ⟨gb251, 2, none⟩ = some (.int .i64 a1_2) := (blk_cell BK251.out 2).trans rfl
                          have hcz68_3 : wc.cell? ⟨gb251, 3, none⟩ = some (.int .i64 a1_3) := (blk_cell BK251.out 3).trans rfl
                          have hfz68_0 := blk_frozen BK251.out 0
                          have hfz68_1 := blk_frozen BK251.out 1
                          have hfz68_2 := blk_frozen BK251.out 2
                          have hfz68_3 := blk_frozen BK251.out 3
                          go_wp2_with (first | ((with_reducible refine gate_dst (N := 83) rfl ?_); (try (refine gate_guard (by rfl) ?_; dsimp only)); refine Kd.R_lit k32 _ 32 ?hg (N := 83) ?hd (xs := ([(⟨a1_0, a1_1, a1_2, a1_3⟩ : S32)] : List (S32))) (inner := [.int .i64 a1_0, .int .i64 a1_1, .int .i64 a1_2, .int .i64 a1_3]) (ok := fun _ => True) (okp := fun _ => True) ?hr ?hp (fun _ hk => hk) trivial (Below.refl _ _) (Nat.le_refl _) (by simp) ?_; (case hd => rfl); (case hg => rfl); (case hr => first | (go_simp; done) | (go_simp; rfl)); (case hp => exact (Reps.c4 (show Kd.M k32 _ _ _ (⟨a1_0, a1_1, a1_2, a1_3⟩ : S32) [.int .i64 a1_0, .int .i64 a1_1, .int .i64 a1_2, .int .i64 a1_3] from (k32_mkM _ _ _ (⟨a1_0, a1_1, a1_2, a1_3⟩ : S32) )) (Reps.none _ _))); intro v269 w69 ho70 hb hg_ hnew_; clear hg_ hnew_; (first | rw [← Ny268.out] at ho70 | (simp only [Int.reduceToNat] at ho70; rw [← Ny268.out] at ho70)); have n0_ := Aside0.mk (Kd.R_lower (Kd.R_newB ho70 (g := gb251) (o := .cells #[.int .i64 a1_0, .int .i64 a1_1, .int .i64 a1_2, .int .i64 a1_3] 32 (0, 0)) (by (with_reducible repeat (first | refine blk_drewN ?_ _ | refine blk_drew ?_ | refine blk_alloc ?_ _)); exact BK251.out)) (below_size (by repeat (first | (with_reducible first | exact HB.out | apply below_alloc | apply pw_below_drewN | apply below_drew1 | refine below_set ?_ GE250.out | refine below_set ?_ GE251.out) | exact HB.out)))); have n1_ := Aside0.mk (blk_below (g := gb250) (o := .cells #[.string a0_0, .slice A0_1 l0_1.length c0_1, .slice A0_2 l0_2.length c0_2] 25 (0, 0)) (by (with_reducible repeat (first | refine blk_drewN ?_ _ | refine blk_drew ?_ | refine blk_alloc ?_ _)); exact BK250.out) hb); have n2_ := Aside0.mk (blk_below (g := gb251) (o := .cells #[.int .i64 a1_0, .int .i64 a1_1, .int .i64 a1_2, .int .i64 a1_3] 32 (0, 0)) (by (with_reducible repeat (first | refine blk_drewN ?_ _ | refine blk_drew ?_ | refine blk_alloc ?_ _)); exact BK251.out) hb); have n3_ := Aside0.mk (below_step (by repeat (first | (with_reducible first | exact HB.out | apply below_alloc | apply pw_below_drewN | apply below_drew1 | refine below_set ?_ GE250.out | refine below_set ?_ GE251.out) | exact HB.out)) hb); clear BK250; clear BK251; clear HB; have HO270 := n0_; have BK250 := n1_; have BK251 := n2_; have HB := n3_; clear n0_ n1_ n2_ n3_; clear hb ho70; obtain ⟨Ao71, co71, eo71⟩ := Kd.R_slice HO270.out; subst eo71) | (go_at_call 8; (with_reducible refine (orders_Of.calls kj52 a0_0 _ _ l0_1 _ _ l0_2 _ _ y268 t271 _ ?side1 ?side2 ?side3 ?side4 ?side5 ?side6 A63.out).mono ?_); (case side1 => repeat (first | exact (Kd.C_below HR0_1.out HB.out) | (with_reducible refine Kd.C_alloc ?_ _) | (with_reducible refine Kd.C_drewN ?_ _) | (with_reducible refine Kd.C_drew ?_))); (case side2 => exact HC0_1.out); (case side3 => repeat (first | exact (Kd.C_below HR0_2.out HB.out) | (with_reducible refine Kd.C_alloc ?_ _) | (with_reducible refine Kd.C_drewN ?_ _) | (with_reducible refine Kd.C_drew ?_))); (case side4 => exact HC0_2.out); (case side5 => repeat (first | exact (Kd.R_reads' HO270.out).2.2 | (with_reducible refine Kd.C_alloc ?_ _) | (with_reducible refine Kd.C_drewN ?_ _) | (with_reducible refine Kd.C_drew ?_))); (case side6 => exact (Kd.R_reads' HO270.out).2.1); rintro e w72 ⟨v272, rfl, ho0, hb⟩; have n0_ := Aside0.mk (Kd.R_below (by (with_reducible repeat (first | apply Kd.R_alloc | apply Kd.R_drewN | apply Kd.R_drew)); exact HO270.out) hb); have n1_ := Aside0.mk (Kd.R_lower ho0 (below_size (by repeat (first | (with_reducible first | exact HB.out | apply below_alloc | apply pw_below_drewN | apply below_drew1 | refine below_set ?_ GE250.out | refine below_set ?_ GE251.out) | exact HB.out)))); have n2_ := Aside0.mk (blk_below (g := gb250) (o := .cells #[.string a0_0, .slice A0_1 l0_1.length c0_1, .slice A0_2 l0_2.length c0_2] 25 (0, 0)) (by (with_reducible repeat (first | refine blk_drewN ?_ _ | refine blk_drew ?_ | refine blk_alloc ?_ _)); exact BK250.out) hb); have n3_ := Aside0.mk (blk_below (g := gb251) (o := .cells #[.int .i64 a1_0, .int .i64 a1_1, .int .i64 a1_2, .int .i64 a1_3] 32 (0, 0)) (by (with_reducible repeat (first | refine blk_drewN ?_ _ | refine blk_drew ?_ | refine blk_alloc ?_ _)); exact BK251.out) hb); have n4_ := Aside0.mk (below_step (by repeat (first | (with_reducible first | exact HB.out | apply below_alloc | apply pw_below_drewN | apply below_drew1 | refine below_set ?_ GE250.out | refine below_set ?_ GE251.out) | exact HB.out)) hb); clear HO270; clear BK250; clear BK251; clear HB; have HO270 := n0_; have HO273 := n1_; have BK250 := n2_; have BK251 := n3_; have HB := n4_; clear n0_ n1_ n2_ n3_ n4_; (try clear hb); (try clear hb2); (try clear hk); (try clear hi); (try clear ho0); obtain ⟨Ao73, co73, eo73⟩ := Kd.R_slice HO273.out; subst eo73) | (go_at_call 7; (with_reducible refine (remontoirlaw27_wakes.calls kj52  true _ A65.out).mono ?_); rintro e w74 ⟨rfl, hb⟩; have n0_ := Aside0.mk (Kd.R_below (by (with_reducible repeat (first | apply Kd.R_alloc | apply Kd.R_drewN | apply Kd.R_drew)); exact HO270.out) hb); have n1_ := Aside0.mk (Kd.R_below (by (with_reducible repeat (first | apply Kd.R_alloc | apply Kd.R_drewN | apply Kd.R_drew)); exact HO273.out) hb); have n2_ := Aside0.mk (blk_below (g := gb250) (o := .cells #[.string a0_0, .slice A0_1 l0_1.length c0_1, .slice A0_2 l0_2.length c0_2] 25 (0, 0)) (by (with_reducible repeat (first | refine blk_drewN ?_ _ | refine blk_drew ?_ | refine blk_alloc ?_ _)); exact BK250.out) hb); have n3_ := Aside0.mk (blk_below (g := gb251) (o := .cells #[.int .i64 a1_0, .int .i64 a1_1, .int .i64 a1_2, .int .i64 a1_3] 32 (0, 0)) (by (with_reducible repeat (first | refine blk_drewN ?_ _ | refine blk_drew ?_ | refine blk_alloc ?_ _)); exact BK251.out) hb); have n4_ := Aside0.mk (below_step (by repeat (first | (with_reducible first | exact HB.out | apply below_alloc | apply pw_below_drewN | apply below_drew1 | refine below_set ?_ GE250.out | refine below_set ?_ GE251.out) | exact HB.out)) hb); clear HO270; clear HO273; clear BK250; clear BK251; clear HB; have HO270 := n0_; have HO273 := n1_; have BK250 := n2_; have BK251 := n3_; have HB := n4_; clear n0_ n1_ n2_ n3_ n4_; (try clear hb); (try clear hb2); (try clear hk); (try clear hi)))
                          repeat (go_quiet (first | ((with_reducible refine gate_dst (N := 83) rfl ?_); (try (refine gate_guard (by rfl) ?_; dsimp only)); refine Kd.R_lit k32 _ 32 ?hg (N := 83) ?hd (xs := ([(⟨a1_0, a1_1, a1_2, a1_3⟩ : S32)] : List (S32))) (inner := [.int .i64 a1_0, .int .i64 a1_1, .int .i64 a1_2, .int .i64 a1_3]) (ok := fun _ => True) (okp := fun _ => True) ?hr ?hp (fun _ hk => hk) trivial (Below.refl _ _) (Nat.le_refl _) (by simp) ?_; (case hd => rfl); (case hg => rfl); (case hr => first | (go_simp; done) | (go_simp; rfl)); (case hp => exact (Reps.c4 (show Kd.M k32 _ _ _ (⟨a1_0, a1_1, a1_2, a1_3⟩ : S32) [.int .i64 a1_0, .int .i64 a1_1, .int .i64 a1_2, .int .i64 a1_3] from (k32_mkM _ _ _ (⟨a1_0, a1_1, a1_2, a1_3⟩ : S32) )) (Reps.none _ _))); intro v269 w69 ho70 hb hg_ hnew_; clear hg_ hnew_; (first | rw [← Ny268.out] at ho70 | (simp only [Int.reduceToNat] at ho70; rw [← Ny268.out] at ho70)); have n0_ := Aside0.mk (Kd.R_lower (Kd.R_newB ho70 (g := gb251) (o := .cells #[.int .i64 a1_0, .int .i64 a1_1, .int .i64 a1_2, .int .i64 a1_3] 32 (0, 0)) (by (with_reducible repeat (first | refine blk_drewN ?_ _ | refine blk_drew ?_ | refine blk_alloc ?_ _)); exact BK251.out)) (below_size (by repeat (first | (with_reducible first | exact HB.out | apply below_alloc | apply pw_below_drewN | apply below_drew1 | refine below_set ?_ GE250.out | refine below_set ?_ GE251.out) | exact HB.out)))); have n1_ := Aside0.mk (blk_below (g := gb250) (o := .cells #[.string a0_0, .slice A0_1 l0_1.length c0_1, .slice A0_2 l0_2.length c0_2] 25 (0, 0)) (by (with_reducible repeat (first | refine blk_drewN ?_ _ | refine blk_drew ?_ | refine blk_alloc ?_ _)); exact BK250.out) hb); have n2_ := Aside0.mk (blk_below (g := gb251) (o := .cells #[.int .i64 a1_0, .int .i64 a1_1, .int .i64 a1_2, .int .i64 a1_3] 32 (0, 0)) (by (with_reducible repeat (first | refine blk_drewN ?_ _ | refine blk_drew ?_ | refine blk_alloc ?_ _)); exact BK251.out) hb); have n3_ := Aside0.mk (below_step (by repeat (first | (with_reducible first | exact HB.out | apply below_alloc | apply pw_below_drewN | apply below_drew1 | refine below_set ?_ GE250.out | refine below_set ?_ GE251.out) | exact HB.out)) hb); clear BK250; clear BK251; clear HB; have HO270 := n0_; have BK250 := n1_; have BK251 := n2_; have HB := n3_; clear n0_ n1_ n2_ n3_; clear hb ho70; obtain ⟨Ao71, co71, eo71⟩ := Kd.R_slice HO270.out; subst eo71) | (go_at_call 8; (with_reducible refine (orders_Of.calls kj52 a0_0 _ _ l0_1 _ _ l0_2 _ _ y268 t271 _ ?side1 ?side2 ?side3 ?side4 ?side5 ?side6 A63.out).mono ?_); (case side1 => repeat (first | exact (Kd.C_below HR0_1.out HB.out) | (with_reducible refine Kd.C_alloc ?_ _) | (with_reducible refine Kd.C_drewN ?_ _) | (with_reducible refine Kd.C_drew ?_))); (case side2 => exact HC0_1.out); (case side3 => repeat (first | exact (Kd.C_below HR0_2.out HB.out) | (with_reducible refine Kd.C_alloc ?_ _) | (with_reducible refine Kd.C_drewN ?_ _) | (with_reducible refine Kd.C_drew ?_))); (case side4 => exact HC0_2.out); (case side5 => repeat (first | exact (Kd.R_reads' HO270.out).2.2 | (with_reducible refine Kd.C_alloc ?_ _) | (with_reducible refine Kd.C_drewN ?_ _) | (with_reducible refine Kd.C_drew ?_))); (case side6 => exact (Kd.R_reads' HO270.out).2.1); rintro e w72 ⟨v272, rfl, ho0, hb⟩; have n0_ := Aside0.mk (Kd.R_below (by (with_reducible repeat (first | apply Kd.R_alloc | apply Kd.R_drewN | apply Kd.R_drew)); exact HO270.out) hb); have n1_ := Aside0.mk (Kd.R_lower ho0 (below_size (by repeat (first | (with_reducible first | exact HB.out | apply below_alloc | apply pw_below_drewN | apply below_drew1 | refine below_set ?_ GE250.out | refine below_set ?_ GE251.out) | exact HB.out)))); have n2_ := Aside0.mk (blk_below (g := gb250) (o := .cells #[.string a0_0, .slice A0_1 l0_1.length c0_1, .slice A0_2 l0_2.length c0_2] 25 (0, 0)) (by (with_reducible repeat (first | refine blk_drewN ?_ _ | refine blk_drew ?_ | refine blk_alloc ?_ _)); exact BK250.out) hb); have n3_ := Aside0.mk (blk_below (g := gb251) (o := .cells #[.int .i64 a1_0, .int .i64 a1_1, .int .i64 a1_2, .int .i64 a1_3] 32 (0, 0)) (by (with_reducible repeat (first | refine blk_drewN ?_ _ | refine blk_drew ?_ | refine blk_alloc ?_ _)); exact BK251.out) hb); have n4_ := Aside0.mk (below_step (by repeat (first | (with_reducible first | exact HB.out | apply below_alloc | apply pw_below_drewN | apply below_drew1 | refine below_set ?_ GE250.out | refine below_set ?_ GE251.out) | exact HB.out)) hb); clear HO270; clear BK250; clear BK251; clear HB; have HO270 := n0_; have HO273 := n1_; have BK250 := n2_; have BK251 := n3_; have HB := n4_; clear n0_ n1_ n2_ n3_ n4_; (try clear hb); (try clear hb2); (try clear hk); (try clear hi); (try clear ho0); obtain ⟨Ao73, co73, eo73⟩ := Kd.R_slice HO273.out; subst eo73) | (go_at_call 7; (with_reducible refine (remontoirlaw27_wakes.calls kj52  true _ A65.out).mono ?_); rintro e w74 ⟨rfl, hb⟩; have n0_ := Aside0.mk (Kd.R_below (by (with_reducible repeat (first | apply Kd.R_alloc | apply Kd.R_drewN | apply Kd.R_drew)); exact HO270.out) hb); have n1_ := Aside0.mk (Kd.R_below (by (with_reducible repeat (first | apply Kd.R_alloc | apply Kd.R_drewN | apply Kd.R_drew)); exact HO273.out) hb); have n2_ := Aside0.mk (blk_below (g := gb250) (o := .cells #[.string a0_0, .slice A0_1 l0_1.length c0_1, .slice A0_2 l0_2.length c0_2] 25 (0, 0)) (by (with_reducible repeat (first | refine blk_drewN ?_ _ | refine blk_drew ?_ | refine blk_alloc ?_ _)); exact BK250.out) hb); have n3_ := Aside0.mk (blk_below (g := gb251) (o := .cells #[.int .i64 a1_0, .int .i64 a1_1, .int .i64 a1_2, .int .i64 a1_3] 32 (0, 0)) (by (with_reducible repeat (first | refine blk_drewN ?_ _ | refine blk_drew ?_ | refine blk_alloc ?_ _)); exact BK251.out) hb); have n4_ := Aside0.mk (below_step (by repeat (first | (with_reducible first | exact HB.out | apply below_alloc | apply pw_below_drewN | apply below_drew1 | refine below_set ?_ GE250.out | refine below_set ?_ GE251.out) | exact HB.out)) hb); clear HO270; clear HO273; clear BK250; clear BK251; clear HB; have HO270 := n0_; have HO273 := n1_; have BK250 := n2_; have BK251 := n3_; have HB := n4_; clear n0_ n1_ n2_ n3_ n4_; (try clear hb); (try clear hb2); (try clear hk); (try clear hi))); try go_wp2_with (first | ((with_reducible refine gate_dst (N := 83) rfl ?_); (try (refine gate_guard (by rfl) ?_; dsimp only)); refine Kd.R_lit k32 _ 32 ?hg (N := 83) ?hd (xs := ([(⟨a1_0, a1_1, a1_2, a1_3⟩ : S32)] : List (S32))) (inner := [.int .i64 a1_0, .int .i64 a1_1, .int .i64 a1_2, .int .i64 a1_3]) (ok := fun _ => True) (okp := fun _ => True) ?hr ?hp (fun _ hk => hk) trivial (Below.refl _ _) (Nat.le_refl _) (by simp) ?_; (case hd => rfl); (case hg => rfl); (case hr => first | (go_simp; done) | (go_simp; rfl)); (case hp => exact (Reps.c4 (show Kd.M k32 _ _ _ (⟨a1_0, a1_1, a1_2, a1_3⟩ : S32) [.int .i64 a1_0, .int .i64 a1_1, .int .i64 a1_2, .int .i64 a1_3] from (k32_mkM _ _ _ (⟨a1_0, a1_1, a1_2, a1_3⟩ : S32) )) (Reps.none _ _))); intro v269 w69 ho70 hb hg_ hnew_; clear hg_ hnew_; (first | rw [← Ny268.out] at ho70 | (simp only [Int.reduceToNat] at ho70; rw [← Ny268.out] at ho70)); have n0_ := Aside0.mk (Kd.R_lower (Kd.R_newB ho70 (g := gb251) (o := .cells #[.int .i64 a1_0, .int .i64 a1_1, .int .i64 a1_2, .int .i64 a1_3] 32 (0, 0)) (by (with_reducible repeat (first | refine blk_drewN ?_ _ | refine blk_drew ?_ | refine blk_alloc ?_ _)); exact BK251.out)) (below_size (by repeat (first | (with_reducible first | exact HB.out | apply below_alloc | apply pw_below_drewN | apply below_drew1 | refine below_set ?_ GE250.out | refine below_set ?_ GE251.out) | exact HB.out)))); have n1_ := Aside0.mk (blk_below (g := gb250) (o := .cells #[.string a0_0, .slice A0_1 l0_1.length c0_1, .slice A0_2 l0_2.length c0_2] 25 (0, 0)) (by (with_reducible repeat (first | refine blk_drewN ?_ _ | refine blk_drew ?_ | refine blk_alloc ?_ _)); exact BK250.out) hb); have n2_ := Aside0.mk (blk_below (g := gb251) (o := .cells #[.int .i64 a1_0, .int .i64 a1_1, .int .i64 a1_2, .int .i64 a1_3] 32 (0, 0)) (by (with_reducible repeat (first | refine blk_drewN ?_ _ | refine blk_drew ?_ | refine blk_alloc ?_ _)); exact BK251.out) hb); have n3_ := Aside0.mk (below_step (by repeat (first | (with_reducible first | exact HB.out | apply below_alloc | apply pw_below_drewN | apply below_drew1 | refine below_set ?_ GE250.out | refine below_set ?_ GE251.out) | exact HB.out)) hb); clear BK250; clear BK251; clear HB; have HO270 := n0_; have BK250 := n1_; have BK251 := n2_; have HB := n3_; clear n0_ n1_ n2_ n3_; clear hb ho70; obtain ⟨Ao71, co71, eo71⟩ := Kd.R_slice HO270.out; subst eo71) | (go_at_call 8; (with_reducible refine (orders_Of.calls kj52 a0_0 _ _ l0_1 _ _ l0_2 _ _ y268 t271 _ ?side1 ?side2 ?side3 ?side4 ?side5 ?side6 A63.out).mono ?_); (case side1 => repeat (first | exact (Kd.C_below HR0_1.out HB.out) | (with_reducible refine Kd.C_alloc ?_ _) | (with_reducible refine Kd.C_drewN ?_ _) | (with_reducible refine Kd.C_drew ?_))); (case side2 => exact HC0_1.out); (case side3 => repeat (first | exact (Kd.C_below HR0_2.out HB.out) | (with_reducible refine Kd.C_alloc ?_ _) | (with_reducible refine Kd.C_drewN ?_ _) | (with_reducible refine Kd.C_drew ?_))); (case side4 => exact HC0_2.out); (case side5 => repeat (first | exact (Kd.R_reads' HO270.out).2.2 | (with_reducible refine Kd.C_alloc ?_ _) | (with_reducible refine Kd.C_drewN ?_ _) | (with_reducible refine Kd.C_drew ?_))); (case side6 => exact (Kd.R_reads' HO270.out).2.1); rintro e w72 ⟨v272, rfl, ho0, hb⟩; have n0_ := Aside0.mk (Kd.R_below (by (with_reducible repeat (first | apply Kd.R_alloc | apply Kd.R_drewN | apply Kd.R_drew)); exact HO270.out) hb); have n1_ := Aside0.mk (Kd.R_lower ho0 (below_size (by repeat (first | (with_reducible first | exact HB.out | apply below_alloc | apply pw_below_drewN | apply below_drew1 | refine below_set ?_ GE250.out | refine below_set ?_ GE251.out) | exact HB.out)))); have n2_ := Aside0.mk (blk_below (g := gb250) (o := .cells #[.string a0_0, .slice A0_1 l0_1.length c0_1, .slice A0_2 l0_2.length c0_2] 25 (0, 0)) (by (with_reducible repeat (first | refine blk_drewN ?_ _ | refine blk_drew ?_ | refine blk_alloc ?_ _)); exact BK250.out) hb); have n3_ := Aside0.mk (blk_below (g := gb251) (o := .cells #[.int .i64 a1_0, .int .i64 a1_1, .int .i64 a1_2, .int .i64 a1_3] 32 (0, 0)) (by (with_reducible repeat (first | refine blk_drewN ?_ _ | refine blk_drew ?_ | refine blk_alloc ?_ _)); exact BK251.out) hb); have n4_ := Aside0.mk (below_step (by repeat (first | (with_reducible first | exact HB.out | apply below_alloc | apply pw_below_drewN | apply below_drew1 | refine below_set ?_ GE250.out | refine below_set ?_ GE251.out) | exact HB.out)) hb); clear HO270; clear BK250; clear BK251; clear HB; have HO270 := n0_; have HO273 := n1_; have BK250 := n2_; have BK251 := n3_; have HB := n4_; clear n0_ n1_ n2_ n3_ n4_; (try clear hb); (try clear hb2); (try clear hk); (try clear hi); (try clear ho0); obtain ⟨Ao73, co73, eo73⟩ := Kd.R_slice HO273.out; subst eo73) | (go_at_call 7; (with_reducible refine (remontoirlaw27_wakes.calls kj52  true _ A65.out).mono ?_); rintro e w74 ⟨rfl, hb⟩; have n0_ := Aside0.mk (Kd.R_below (by (with_reducible repeat (first | apply Kd.R_alloc | apply Kd.R_drewN | apply Kd.R_drew)); exact HO270.out) hb); have n1_ := Aside0.mk (Kd.R_below (by (with_reducible repeat (first | apply Kd.R_alloc | apply Kd.R_drewN | apply Kd.R_drew)); exact HO273.out) hb); have n2_ := Aside0.mk (blk_below (g := gb250) (o := .cells #[.string a0_0, .slice A0_1 l0_1.length c0_1, .slice A0_2 l0_2.length c0_2] 25 (0, 0)) (by (with_reducible repeat (first | refine blk_drewN ?_ _ | refine blk_drew ?_ | refine blk_alloc ?_ _)); exact BK250.out) hb); have n3_ := Aside0.mk (blk_below (g := gb251) (o := .cells #[.int .i64 a1_0, .int .i64 a1_1, .int .i64 a1_2, .int .i64 a1_3] 32 (0, 0)) (by (with_reducible repeat (first | refine blk_drewN ?_ _ | refine blk_drew ?_ | refine blk_alloc ?_ _)); exact BK251.out) hb); have n4_ := Aside0.mk (below_step (by repeat (first | (with_reducible first | exact HB.out | apply below_alloc | apply pw_below_drewN | apply below_drew1 | refine below_set ?_ GE250.out | refine below_set ?_ GE251.out) | exact HB.out)) hb); clear HO270; clear HO273; clear BK250; clear BK251; clear HB; have HO270 := n0_; have HO273 := n1_; have BK250 := n2_; have BK251 := n3_; have HB := n4_; clear n0_ n1_ n2_ n3_ n4_; (try clear hb); (try clear hb2); (try clear hk); (try clear hi))))
                          go_ret
                          exact ⟨by first | rfl | (simp [errW_none, errW_some] <;> rfl) | (simp [*, errW_none, errW_some] <;> rfl), by repeat (first | (with_reducible first | exact HB.out | apply below_alloc | apply pw_below_drewN | apply below_drew1 | refine below_set ?_ GE250.out | refine below_set ?_ GE251.out) | exact HB.out)⟩
                        · rw [if_neg c64] at H
                          have c64b0 : ((t271.length : Int) == 1) = false := beq_eq_false_iff_ne.mpr c64
                          have c64b1 : ((t271.length : Int) != 1) = true := bne_iff_ne.mpr c64
                          exact absurd (Option.some.inj H) (by decide)
                      · replace c62 := Bool.eq_false_iff.mpr c62
                        subst c62
                        have H1 : ((orders_Of.f kj52 a0_0 l0_1 l0_2 (([(⟨a1_0, a1_1, a1_2, a1_3⟩ : S32)] : List (S32)))).bind fun t278 => (if (t278.length : Int) = 0 then ((orders_Of.f kj52 a0_0 l0_1 l0_2 ([] : List (S32))).bind fun t281 => (if (t281.length : Int) = 0 then ((orders_Jobs.f ([] : List (S35))).bind fun t284 => (if (t284.length : Int) = 0 then ((orders_Timers.f ([] : List (S35))).bind fun t287 => (if (t287.length : Int) = 0 then ((remontoirlaw27_wakes.f kj52).bind fun t290 => (some t290)) else (some false))) else (some false))) else (some false))) else (some false))) = some true := by rw [if_neg (show ¬ (false = true) by decide)] at H; exact H
                        clear H
                        have H := H1
                        clear H1
                        obtain ⟨y275, hy275⟩ : ∃ y_ : List (S32), y_ = (([(⟨a1_0, a1_1, a1_2, a1_3⟩ : S32)] : List (S32))) := ⟨_, rfl⟩
                        replace H : ((orders_Of.f kj52 a0_0 l0_1 l0_2 y275).bind fun t278 => (if (t278.length : Int) = 0 then ((orders_Of.f kj52 a0_0 l0_1 l0_2 ([] : List (S32))).bind fun t281 => (if (t281.length : Int) = 0 then ((orders_Jobs.f ([] : List (S35))).bind fun t284 => (if (t284.length : Int) = 0 then ((orders_Timers.f ([] : List (S35))).bind fun t287 => (if (t287.length : Int) = 0 then ((remontoirlaw27_wakes.f kj52).bind fun t290 => (some t290)) else (some false))) else (some false))) else (some false))) else (some false))) = some true := by first | (rw [hy275]; with_reducible exact H) | (have H2_ := (Option.bind_some _ _).symm.trans H; rw [hy275]; with_reducible exact H2_) | (have H2_ := (Option.bind_some _ _).symm.trans H; with_reducible exact H2_) | with_reducible exact H | (rw [hy275]; exact H) | exact H
                        have Ny275 := Aside0.mk hy275
                        clear hy275
                        replace H := Option.bind_eq_some_iff.mp H
                        obtain ⟨t278, A830, H⟩ := H
                        replace H : (if (t278.length : Int) = 0 then ((orders_Of.f kj52 a0_0 l0_1 l0_2 ([] : List (S32))).bind fun t281 => (if (t281.length : Int) = 0 then ((orders_Jobs.f ([] : List (S35))).bind fun t284 => (if (t284.length : Int) = 0 then ((orders_Timers.f ([] : List (S35))).bind fun t287 => (if (t287.length : Int) = 0 then ((remontoirlaw27_wakes.f kj52).bind fun t290 => (some t290)) else (some false))) else (some false))) else (some false))) else (some false)) = some true := H
                        have A83 := Aside0.mk A830
                        clear A830
                        by_cases c84 : (t278.length : Int) = 0
                        · rw [if_pos c84] at H
                          have c84b0 : ((t278.length : Int) == 0) = true := beq_iff_eq.mpr c84
                          have c84b1 : ((t278.length : Int) != 0) = false := bne_eq_false_iff_eq.mpr c84
                          clear c84
                          replace H := Option.bind_eq_some_iff.mp H
                          obtain ⟨t281, A850, H⟩ := H
                          replace H : (if (t281.length : Int) = 0 then ((orders_Jobs.f ([] : List (S35))).bind fun t284 => (if (t284.length : Int) = 0 then ((orders_Timers.f ([] : List (S35))).bind fun t287 => (if (t287.length : Int) = 0 then ((remontoirlaw27_wakes.f kj52).bind fun t290 => (some t290)) else (some false))) else (some false))) else (some false)) = some true := H
                          have A85 := Aside0.mk A850
                          clear A850
                          by_cases c86 : (t281.length : Int) = 0
                          · rw [if_pos c86] at H
                            have c86b0 : ((t281.length : Int) == 0) = true := beq_iff_eq.mpr c86
                            have c86b1 : ((t281.length : Int) != 0) = false := bne_eq_false_iff_eq.mpr c86
                            clear c86
                            replace H := Option.bind_eq_some_iff.mp H
                            obtain ⟨t284, A870, H⟩ := H
                            replace H : (if (t284.length : Int) = 0 then ((orders_Timers.f ([] : List (S35))).bind fun t287 => (if (t287.length : Int) = 0 then ((remontoirlaw27_wakes.f kj52).bind fun t290 => (some t290)) else (some false))) else (some false)) = some true := H
                            have A87 := Aside0.mk A870
                            clear A870
                            by_cases c88 : (t284.length : Int) = 0
                            · rw [if_pos c88] at H
                              have c88b0 : ((t284.length : Int) == 0) = true := beq_iff_eq.mpr c88
                              have c88b1 : ((t284.length : Int) != 0) = false := bne_eq_false_iff_eq.mpr c88
                              clear c88
                              replace H := Option.bind_eq_some_iff.mp H
                              obtain ⟨t287, A890, H⟩ := H
                              replace H : (if (t287.length : Int) = 0 then ((remontoirlaw27_wakes.f kj52).bind fun t290 => (some t290)) else (some false)) = some true := H
                              have A89 := Aside0.mk A890
                              clear A890
                              by_cases c90 : (t287.length : Int) = 0
                              · rw [if_pos c90] at H
                                have c90b0 : ((t287.length : Int) == 0) = true := beq_iff_eq.mpr c90
                                have c90b1 : ((t287.length : Int) != 0) = false := bne_eq_false_iff_eq.mpr c90
                                clear c90
                                replace H := Option.bind_eq_some_iff.mp H
                                obtain ⟨t290, A910, H⟩ := H
                                replace H : (some t290) = some true := H
                                have A91 := Aside0.mk A910
                                clear A910
                                obtain rfl := Option.some.inj H
                                have hnb92 := NB250_251.out
                                have hnc92 := NB251_250.out
                                have hcz93_0 : wc.cell? ⟨gb250, 0, none⟩ = some (.string a0_0) := (blk_cell BK250.out 0).trans rfl
                                have hcz93_1 : wc.cell? ⟨gb250, 1, none⟩ = some (.slice A0_1 l0_1.length c0_1) := (blk_cell BK250.out 1).trans rfl
                                have hcz93_2 : wc.cell? ⟨gb250, 2, none⟩ = some (.slice A0_2 l0_2.length c0_2) := (blk_cell BK250.out 2).trans rfl
                                have hfz93_0 := blk_frozen BK250.out 0
                                have hfz93_1 := blk_frozen BK250.out 1
                                have hfz93_2 := blk_frozen BK250.out 2
                                have hcz94_0 : wc.cell? ⟨gb251, 0, none⟩ = some (.int .i64 a1_0) := (blk_cell BK251.out 0).trans rfl
                                have hcz94_1 : wc.cell? ⟨gb251, 1, none⟩ = some (.int .i64 a1_1) := (blk_cell BK251.out 1).trans rfl
                                have hcz94_2 : wc.cell? ⟨gb251, 2, none⟩ = some (.int .i64 a1_2) := (blk_cell BK251.out 2).trans rfl
                                have hcz94_3 : wc.cell? ⟨gb251, 3, none⟩ = some (.int .i64 a1_3) := (blk_cell BK251.out 3).trans rfl
                                have hfz94_0 := blk_frozen BK251.out 0
                                have hfz94_1 := blk_frozen BK251.out 1
                                have hfz94_2 := blk_frozen BK251.out 2
                                have hfz94_3 := blk_frozen BK251.out 3
                                go_wp2_with (first | ((with_reducible refine gate_dst (N := 92) rfl ?_); (try (refine gate_guard (by rfl) ?_; dsimp only)); refine Kd.R_lit k32 _ 32 ?hg (N := 92) ?hd (xs := ([(⟨a1_0, a1_1, a1_2, a1_3⟩ : S32)] : List (S32))) (inner := [.int .i64 a1_0, .int .i64 a1_1, .int .i64 a1_2, .int .i64 a1_3]) (ok := fun _ => True) (okp := fun _ => True) ?hr ?hp (fun _ hk => hk) trivial (Below.refl _ _) (Nat.le_refl _) (by simp) ?_; (case hd => rfl); (case hg => rfl); (case hr => first | (go_simp; done) | (go_simp; rfl)); (case hp => exact (Reps.c4 (show Kd.M k32 _ _ _ (⟨a1_0, a1_1, a1_2, a1_3⟩ : S32) [.int .i64 a1_0, .int .i64 a1_1, .int .i64 a1_2, .int .i64 a1_3] from (k32_mkM _ _ _ (⟨a1_0, a1_1, a1_2, a1_3⟩ : S32) )) (Reps.none _ _))); intro v276 w95 ho96 hb hg_ hnew_; clear hg_ hnew_; (first | rw [← Ny275.out] at ho96 | (simp only [Int.reduceToNat] at ho96; rw [← Ny275.out] at ho96)); have n0_ := Aside0.mk (Kd.R_lower (Kd.R_newB ho96 (g := gb251) (o := .cells #[.int .i64 a1_0, .int .i64 a1_1, .int .i64 a1_2, .int .i64 a1_3] 32 (0, 0)) (by (with_reducible repeat (first | refine blk_drewN ?_ _ | refine blk_drew ?_ | refine blk_alloc ?_ _)); exact BK251.out)) (below_size (by repeat (first | (with_reducible first | exact HB.out | apply below_alloc | apply pw_below_drewN | apply below_drew1 | refine below_set ?_ GE250.out | refine below_set ?_ GE251.out) | exact HB.out)))); have n1_ := Aside0.mk (blk_below (g := gb250) (o := .cells #[.string a0_0, .slice A0_1 l0_1.length c0_1, .slice A0_2 l0_2.length c0_2] 25 (0, 0)) (by (with_reducible repeat (first | refine blk_drewN ?_ _ | refine blk_drew ?_ | refine blk_alloc ?_ _)); exact BK250.out) hb); have n2_ := Aside0.mk (blk_below (g := gb251) (o := .cells #[.int .i64 a1_0, .int .i64 a1_1, .int .i64 a1_2, .int .i64 a1_3] 32 (0, 0)) (by (with_reducible repeat (first | refine blk_drewN ?_ _ | refine blk_drew ?_ | refine blk_alloc ?_ _)); exact BK251.out) hb); have n3_ := Aside0.mk (below_step (by repeat (first | (with_reducible first | exact HB.out | apply below_alloc | apply pw_below_drewN | apply below_drew1 | refine below_set ?_ GE250.out | refine below_set ?_ GE251.out) | exact HB.out)) hb); clear BK250; clear BK251; clear HB; have HO277 := n0_; have BK250 := n1_; have BK251 := n2_; have HB := n3_; clear n0_ n1_ n2_ n3_; clear hb ho96; obtain ⟨Ao97, co97, eo97⟩ := Kd.R_slice HO277.out; subst eo97) | (go_at_call 8; (with_reducible refine (orders_Of.calls kj52 a0_0 _ _ l0_1 _ _ l0_2 _ _ y275 t278 _ ?side1 ?side2 ?side3 ?side4 ?side5 ?side6 A83.out).mono ?_); (case side1 => repeat (first | exact (Kd.C_below HR0_1.out HB.out) | (with_reducible refine Kd.C_alloc ?_ _) | (with_reducible refine Kd.C_drewN ?_ _) | (with_reducible refine Kd.C_drew ?_))); (case side2 => exact HC0_1.out); (case side3 => repeat (first | exact (Kd.C_below HR0_2.out HB.out) | (with_reducible refine Kd.C_alloc ?_ _) | (with_reducible refine Kd.C_drewN ?_ _) | (with_reducible refine Kd.C_drew ?_))); (case side4 => exact HC0_2.out); (case side5 => repeat (first | exact (Kd.R_reads' HO277.out).2.2 | (with_reducible refine Kd.C_alloc ?_ _) | (with_reducible refine Kd.C_drewN ?_ _) | (with_reducible refine Kd.C_drew ?_))); (case side6 => exact (Kd.R_reads' HO277.out).2.1); rintro e w98 ⟨v279, rfl, ho0, hb⟩; have n0_ := Aside0.mk (Kd.R_below (by (with_reducible repeat (first | apply Kd.R_alloc | apply Kd.R_drewN | apply Kd.R_drew)); exact HO277.out) hb); have n1_ := Aside0.mk (Kd.R_lower ho0 (below_size (by repeat (first | (with_reducible first | exact HB.out | apply below_alloc | apply pw_below_drewN | apply below_drew1 | refine below_set ?_ GE250.out | refine below_set ?_ GE251.out) | exact HB.out)))); have n2_ := Aside0.mk (blk_below (g := gb250) (o := .cells #[.string a0_0, .slice A0_1 l0_1.length c0_1, .slice A0_2 l0_2.length c0_2] 25 (0, 0)) (by (with_reducible repeat (first | refine blk_drewN ?_ _ | refine blk_drew ?_ | refine blk_alloc ?_ _)); exact BK250.out) hb); have n3_ := Aside0.mk (blk_below (g := gb251) (o := .cells #[.int .i64 a1_0, .int .i64 a1_1, .int .i64 a1_2, .int .i64 a1_3] 32 (0, 0)) (by (with_reducible repeat (first | refine blk_drewN ?_ _ | refine blk_drew ?_ | refine blk_alloc ?_ _)); exact BK251.out) hb); have n4_ := Aside0.mk (below_step (by repeat (first | (with_reducible first | exact HB.out | apply below_alloc | apply pw_below_drewN | apply below_drew1 | refine below_set ?_ GE250.out | refine below_set ?_ GE251.out) | exact HB.out)) hb); clear HO277; clear BK250; clear BK251; clear HB; have HO277 := n0_; have HO280 := n1_; have BK250 := n2_; have BK251 := n3_; have HB := n4_; clear n0_ n1_ n2_ n3_ n4_; (try clear hb); (try clear hb2); (try clear hk); (try clear hi); (try clear ho0); obtain ⟨Ao99, co99, eo99⟩ := Kd.R_slice HO280.out; subst eo99; have hcz100_0 : w98.cell? ⟨gb250, 0, none⟩ = some (.string a0_0) := (blk_cell BK250.out 0).trans rfl; have hcz100_1 : w98.cell? ⟨gb250, 1, none⟩ = some (.slice A0_1 l0_1.length c0_1) := (blk_cell BK250.out 1).trans rfl; have hcz100_2 : w98.cell? ⟨gb250, 2, none⟩ = some (.slice A0_2 l0_2.length c0_2) := (blk_cell BK250.out 2).trans rfl; have hfz100_0 := blk_frozen BK250.out 0; have hfz100_1 := blk_frozen BK250.out 1; have hfz100_2 := blk_frozen BK250.out 2) | (go_at_call 8; (refine (orders_Of.calls kj52 a0_0 _ _ l0_1 _ _ l0_2 _ _ ([] : List (S32)) t281 _ ?side1 ?side2 ?side3 ?side4 ?side5 ?side6 A85.out).mono ?_); (case side1 => repeat (first | exact (Kd.C_below HR0_1.out HB.out) | (with_reducible refine Kd.C_alloc ?_ _) | (with_reducible refine Kd.C_drewN ?_ _) | (with_reducible refine Kd.C_drew ?_))); (case side2 => exact HC0_1.out); (case side3 => repeat (first | exact (Kd.C_below HR0_2.out HB.out) | (with_reducible refine Kd.C_alloc ?_ _) | (with_reducible refine Kd.C_drewN ?_ _) | (with_reducible refine Kd.C_drew ?_))); (case side4 => exact HC0_2.out); (case side5 => exact Kd.C_nil _ _); (case side6 => exact Nat.le_refl _); rintro e w101 ⟨v282, rfl, ho0, hb⟩; have n0_ := Aside0.mk (Kd.R_below (by (with_reducible repeat (first | apply Kd.R_alloc | apply Kd.R_drewN | apply Kd.R_drew)); exact HO277.out) hb); have n1_ := Aside0.mk (Kd.R_elder' (by (with_reducible repeat (first | apply Kd.R_alloc | apply Kd.R_drewN | apply Kd.R_drew)); exact HO280.out) (Kd.R_base ho0) hb); have n2_ := Aside0.mk (Kd.R_lower (Kd.R_new' ho0 (Kd.R_lt (by (with_reducible repeat (first | apply Kd.R_alloc | apply Kd.R_drewN | apply Kd.R_drew)); exact HO280.out))) (below_size (by repeat (first | (with_reducible first | exact HB.out | apply below_alloc | apply pw_below_drewN | apply below_drew1 | refine below_set ?_ GE250.out | refine below_set ?_ GE251.out) | exact HB.out)))); have n3_ := Aside0.mk (blk_below (g := gb250) (o := .cells #[.string a0_0, .slice A0_1 l0_1.length c0_1, .slice A0_2 l0_2.length c0_2] 25 (0, 0)) (by (with_reducible repeat (first | refine blk_drewN ?_ _ | refine blk_drew ?_ | refine blk_alloc ?_ _)); exact BK250.out) hb); have n4_ := Aside0.mk (blk_below (g := gb251) (o := .cells #[.int .i64 a1_0, .int .i64 a1_1, .int .i64 a1_2, .int .i64 a1_3] 32 (0, 0)) (by (with_reducible repeat (first | refine blk_drewN ?_ _ | refine blk_drew ?_ | refine blk_alloc ?_ _)); exact BK251.out) hb); have n5_ := Aside0.mk (below_step (by repeat (first | (with_reducible first | exact HB.out | apply below_alloc | apply pw_below_drewN | apply below_drew1 | refine below_set ?_ GE250.out | refine below_set ?_ GE251.out) | exact HB.out)) hb); clear HO277; clear HO280; clear BK250; clear BK251; clear HB; have HO277 := n0_; have HO280 := n1_; have HO283 := n2_; have BK250 := n3_; have BK251 := n4_; have HB := n5_; clear n0_ n1_ n2_ n3_ n4_ n5_; (try clear hb); (try clear hb2); (try clear hk); (try clear hi); (try clear ho0); obtain ⟨Ao102, co102, eo102⟩ := Kd.R_slice HO283.out; subst eo102) | (go_at_call 10; (refine (orders_Jobs.calls _ _ ([] : List (S35)) t284 _ ?side1 ?side2 A87.out).mono ?_); (case side1 => exact Kd.C_nil _ _); (case side2 => exact Nat.le_refl _); rintro e w103 ⟨v285, rfl, ho0, hb⟩; have n0_ := Aside0.mk (Kd.R_below (by (with_reducible repeat (first | apply Kd.R_alloc | apply Kd.R_drewN | apply Kd.R_drew)); exact HO277.out) hb); have n1_ := Aside0.mk (Kd.R_below (by (with_reducible repeat (first | apply Kd.R_alloc | apply Kd.R_drewN | apply Kd.R_drew)); exact HO280.out) hb); have n2_ := Aside0.mk (Kd.R_below (by (with_reducible repeat (first | apply Kd.R_alloc | apply Kd.R_drewN | apply Kd.R_drew)); exact HO283.out) hb); have n3_ := Aside0.mk (Kd.R_lower ho0 (below_size (by repeat (first | (with_reducible first | exact HB.out | apply below_alloc | apply pw_below_drewN | apply below_drew1 | refine below_set ?_ GE250.out | refine below_set ?_ GE251.out) | exact HB.out)))); have n4_ := Aside0.mk (blk_below (g := gb250) (o := .cells #[.string a0_0, .slice A0_1 l0_1.length c0_1, .slice A0_2 l0_2.length c0_2] 25 (0, 0)) (by (with_reducible repeat (first | refine blk_drewN ?_ _ | refine blk_drew ?_ | refine blk_alloc ?_ _)); exact BK250.out) hb); have n5_ := Aside0.mk (blk_below (g := gb251) (o := .cells #[.int .i64 a1_0, .int .i64 a1_1, .int .i64 a1_2, .int .i64 a1_3] 32 (0, 0)) (by (with_reducible repeat (first | refine blk_drewN ?_ _ | refine blk_drew ?_ | refine blk_alloc ?_ _)); exact BK251.out) hb); have n6_ := Aside0.mk (below_step (by repeat (first | (with_reducible first | exact HB.out | apply below_alloc | apply pw_below_drewN | apply below_drew1 | refine below_set ?_ GE250.out | refine below_set ?_ GE251.out) | exact HB.out)) hb); clear HO277; clear HO280; clear HO283; clear BK250; clear BK251; clear HB; have HO277 := n0_; have HO280 := n1_; have HO283 := n2_; have HO286 := n3_; have BK250 := n4_; have BK251 := n5_; have HB := n6_; clear n0_ n1_ n2_ n3_ n4_ n5_ n6_; (try clear hb); (try clear hb2); (try clear hk); (try clear hi); (try clear ho0); obtain ⟨Ao104, co104, eo104⟩ := Kd.R_slice HO286.out; subst eo104) | (go_at_call 11; (refine (orders_Timers.calls _ _ ([] : List (S35)) t287 _ ?side1 ?side2 A89.out).mono ?_); (case side1 => exact Kd.C_nil _ _); (case side2 => exact Nat.le_refl _); rintro e w105 ⟨v288, rfl, ho0, hb⟩; have n0_ := Aside0.mk (Kd.R_below (by (with_reducible repeat (first | apply Kd.R_alloc | apply Kd.R_drewN | apply Kd.R_drew)); exact HO277.out) hb); have n1_ := Aside0.mk (Kd.R_elder' (by (with_reducible repeat (first | apply Kd.R_alloc | apply Kd.R_drewN | apply Kd.R_drew)); exact HO280.out) (Kd.R_base ho0) hb); have n2_ := Aside0.mk (Kd.R_elder' (by (with_reducible repeat (first | apply Kd.R_alloc | apply Kd.R_drewN | apply Kd.R_drew)); exact HO283.out) (Kd.R_base ho0) hb); have n3_ := Aside0.mk (Kd.R_below (by (with_reducible repeat (first | apply Kd.R_alloc | apply Kd.R_drewN | apply Kd.R_drew)); exact HO286.out) hb); have n4_ := Aside0.mk (Kd.R_lower (Kd.R_new' (Kd.R_new' ho0 (Kd.R_lt (by (with_reducible repeat (first | apply Kd.R_alloc | apply Kd.R_drewN | apply Kd.R_drew)); exact HO280.out))) (Kd.R_lt (by (with_reducible repeat (first | apply Kd.R_alloc | apply Kd.R_drewN | apply Kd.R_drew)); exact HO283.out))) (below_size (by repeat (first | (with_reducible first | exact HB.out | apply below_alloc | apply pw_below_drewN | apply below_drew1 | refine below_set ?_ GE250.out | refine below_set ?_ GE251.out) | exact HB.out)))); have n5_ := Aside0.mk (blk_below (g := gb250) (o := .cells #[.string a0_0, .slice A0_1 l0_1.length c0_1, .slice A0_2 l0_2.length c0_2] 25 (0, 0)) (by (with_reducible repeat (first | refine blk_drewN ?_ _ | refine blk_drew ?_ | refine blk_alloc ?_ _)); exact BK250.out) hb); have n6_ := Aside0.mk (blk_below (g := gb251) (o := .cells #[.int .i64 a1_0, .int .i64 a1_1, .int .i64 a1_2, .int .i64 a1_3] 32 (0, 0)) (by (with_reducible repeat (first | refine blk_drewN ?_ _ | refine blk_drew ?_ | refine blk_alloc ?_ _)); exact BK251.out) hb); have n7_ := Aside0.mk (below_step (by repeat (first | (with_reducible first | exact HB.out | apply below_alloc | apply pw_below_drewN | apply below_drew1 | refine below_set ?_ GE250.out | refine below_set ?_ GE251.out) | exact HB.out)) hb); clear HO277; clear HO280; clear HO283; clear HO286; clear BK250; clear BK251; clear HB; have HO277 := n0_; have HO280 := n1_; have HO283 := n2_; have HO286 := n3_; have HO289 := n4_; have BK250 := n5_; have BK251 := n6_; have HB := n7_; clear n0_ n1_ n2_ n3_ n4_ n5_ n6_ n7_; (try clear hb); (try clear hb2); (try clear hk); (try clear hi); (try clear ho0); obtain ⟨Ao106, co106, eo106⟩ := Kd.R_slice HO289.out; subst eo106) | (go_at_call 7; (with_reducible refine (remontoirlaw27_wakes.calls kj52  true _ A91.out).mono ?_); rintro e w107 ⟨rfl, hb⟩; have n0_ := Aside0.mk (Kd.R_below (by (with_reducible repeat (first | apply Kd.R_alloc | apply Kd.R_drewN | apply Kd.R_drew)); exact HO277.out) hb); have n1_ := Aside0.mk (Kd.R_below (by (with_reducible repeat (first | apply Kd.R_alloc | apply Kd.R_drewN | apply Kd.R_drew)); exact HO280.out) hb); have n2_ := Aside0.mk (Kd.R_below (by (with_reducible repeat (first | apply Kd.R_alloc | apply Kd.R_drewN | apply Kd.R_drew)); exact HO283.out) hb); have n3_ := Aside0.mk (Kd.R_below (by (with_reducible repeat (first | apply Kd.R_alloc | apply Kd.R_drewN | apply Kd.R_drew)); exact HO286.out) hb); have n4_ := Aside0.mk (Kd.R_below (by (with_reducible repeat (first | apply Kd.R_alloc | apply Kd.R_drewN | apply Kd.R_drew)); exact HO289.out) hb); have n5_ := Aside0.mk (blk_below (g := gb250) (o := .cells #[.string a0_0, .slice A0_1 l0_1.length c0_1, .slice A0_2 l0_2.length c0_2] 25 (0, 0)) (by (with_reducible repeat (first | refine blk_drewN ?_ _ | refine blk_drew ?_ | refine blk_alloc ?_ _)); exact BK250.out) hb); have n6_ := Aside0.mk (blk_below (g := gb251) (o := .cells #[.int .i64 a1_0, .int .i64 a1_1, .int .i64 a1_2, .int .i64 a1_3] 32 (0, 0)) (by (with_reducible repeat (first | refine blk_drewN ?_ _ | refine blk_drew ?_ | refine blk_alloc ?_ _)); exact BK251.out) hb); have n7_ := Aside0.mk (below_step (by repeat (first | (with_reducible first | exact HB.out | apply below_alloc | apply pw_below_drewN | apply below_drew1 | refine below_set ?_ GE250.out | refine below_set ?_ GE251.out) | exact HB.out)) hb); clear HO277; clear HO280; clear HO283; clear HO286; clear HO289; clear BK250; clear BK251; clear HB; have HO277 := n0_; have HO280 := n1_; have HO283 := n2_; have HO286 := n3_; have HO289 := n4_; have BK250 := n5_; have BK251 := n6_; have HB := n7_; clear n0_ n1_ n2_ n3_ n4_ n5_ n6_ n7_; (try clear hb); (try clear hb2); (try clear hk); (try clear hi)))
                                repeat (go_quiet (first | ((with_reducible refine gate_dst (N := 92) rfl ?_); (try (refine gate_guard (by rfl) ?_; dsimp only)); refine Kd.R_lit k32 _ 32 ?hg (N := 92) ?hd (xs := ([(⟨a1_0, a1_1, a1_2, a1_3⟩ : S32)] : List (S32))) (inner := [.int .i64 a1_0, .int .i64 a1_1, .int .i64 a1_2, .int .i64 a1_3]) (ok := fun _ => True) (okp := fun _ => True) ?hr ?hp (fun _ hk => hk) trivial (Below.refl _ _) (Nat.le_refl _) (by simp) ?_; (case hd => rfl); (case hg => rfl); (case hr => first | (go_simp; done) | (go_simp; rfl)); (case hp => exact (Reps.c4 (show Kd.M k32 _ _ _ (⟨a1_0, a1_1, a1_2, a1_3⟩ : S32) [.int .i64 a1_0, .int .i64 a1_1, .int .i64 a1_2, .int .i64 a1_3] from (k32_mkM _ _ _ (⟨a1_0, a1_1, a1_2, a1_3⟩ : S32) )) (Reps.none _ _))); intro v276 w95 ho96 hb hg_ hnew_; clear hg_ hnew_; (first | rw [← Ny275.out] at ho96 | (simp only [Int.reduceToNat] at ho96; rw [← Ny275.out] at ho96)); have n0_ := Aside0.mk (Kd.R_lower (Kd.R_newB ho96 (g := gb251) (o := .cells #[.int .i64 a1_0, .int .i64 a1_1, .int .i64 a1_2, .int .i64 a1_3] 32 (0, 0)) (by (with_reducible repeat (first | refine blk_drewN ?_ _ | refine blk_drew ?_ | refine blk_alloc ?_ _)); exact BK251.out)) (below_size (by repeat (first | (with_reducible first | exact HB.out | apply below_alloc | apply pw_below_drewN | apply below_drew1 | refine below_set ?_ GE250.out | refine below_set ?_ GE251.out) | exact HB.out)))); have n1_ := Aside0.mk (blk_below (g := gb250) (o := .cells #[.string a0_0, .slice A0_1 l0_1.length c0_1, .slice A0_2 l0_2.length c0_2] 25 (0, 0)) (by (with_reducible repeat (first | refine blk_drewN ?_ _ | refine blk_drew ?_ | refine blk_alloc ?_ _)); exact BK250.out) hb); have n2_ := Aside0.mk (blk_below (g := gb251) (o := .cells #[.int .i64 a1_0, .int .i64 a1_1, .int .i64 a1_2, .int .i64 a1_3] 32 (0, 0)) (by (with_reducible repeat (first | refine blk_drewN ?_ _ | refine blk_drew ?_ | refine blk_alloc ?_ _)); exact BK251.out) hb); have n3_ := Aside0.mk (below_step (by repeat (first | (with_reducible first | exact HB.out | apply below_alloc | apply pw_below_drewN | apply below_drew1 | refine below_set ?_ GE250.out | refine below_set ?_ GE251.out) | exact HB.out)) hb); clear BK250; clear BK251; clear HB; have HO277 := n0_; have BK250 := n1_; have BK251 := n2_; have HB := n3_; clear n0_ n1_ n2_ n3_; clear hb ho96; obtain ⟨Ao97, co97, eo97⟩ := Kd.R_slice HO277.out; subst eo97) | (go_at_call 8; (with_reducible refine (orders_Of.calls kj52 a0_0 _ _ l0_1 _ _ l0_2 _ _ y275 t278 _ ?side1 ?side2 ?side3 ?side4 ?side5 ?side6 A83.out).mono ?_); (case side1 => repeat (first | exact (Kd.C_below HR0_1.out HB.out) | (with_reducible refine Kd.C_alloc ?_ _) | (with_reducible refine Kd.C_drewN ?_ _) | (with_reducible refine Kd.C_drew ?_))); (case side2 => exact HC0_1.out); (case side3 => repeat (first | exact (Kd.C_below HR0_2.out HB.out) | (with_reducible refine Kd.C_alloc ?_ _) | (with_reducible refine Kd.C_drewN ?_ _) | (with_reducible refine Kd.C_drew ?_))); (case side4 => exact HC0_2.out); (case side5 => repeat (first | exact (Kd.R_reads' HO277.out).2.2 | (with_reducible refine Kd.C_alloc ?_ _) | (with_reducible refine Kd.C_drewN ?_ _) | (with_reducible refine Kd.C_drew ?_))); (case side6 => exact (Kd.R_reads' HO277.out).2.1); rintro e w98 ⟨v279, rfl, ho0, hb⟩; have n0_ := Aside0.mk (Kd.R_below (by (with_reducible repeat (first | apply Kd.R_alloc | apply Kd.R_drewN | apply Kd.R_drew)); exact HO277.out) hb); have n1_ := Aside0.mk (Kd.R_lower ho0 (below_size (by repeat (first | (with_reducible first | exact HB.out | apply below_alloc | apply pw_below_drewN | apply below_drew1 | refine below_set ?_ GE250.out | refine below_set ?_ GE251.out) | exact HB.out)))); have n2_ := Aside0.mk (blk_below (g := gb250) (o := .cells #[.string a0_0, .slice A0_1 l0_1.length c0_1, .slice A0_2 l0_2.length c0_2] 25 (0, 0)) (by (with_reducible repeat (first | refine blk_drewN ?_ _ | refine blk_drew ?_ | refine blk_alloc ?_ _)); exact BK250.out) hb); have n3_ := Aside0.mk (blk_below (g := gb251) (o := .cells #[.int .i64 a1_0, .int .i64 a1_1, .int .i64 a1_2, .int .i64 a1_3] 32 (0, 0)) (by (with_reducible repeat (first | refine blk_drewN ?_ _ | refine blk_drew ?_ | refine blk_alloc ?_ _)); exact BK251.out) hb); have n4_ := Aside0.mk (below_step (by repeat (first | (with_reducible first | exact HB.out | apply below_alloc | apply pw_below_drewN | apply below_drew1 | refine below_set ?_ GE250.out | refine below_set ?_ GE251.out) | exact HB.out)) hb); clear HO277; clear BK250; clear BK251; clear HB; have HO277 := n0_; have HO280 := n1_; have BK250 := n2_; have BK251 := n3_; have HB := n4_; clear n0_ n1_ n2_ n3_ n4_; (try clear hb); (try clear hb2); (try clear hk); (try clear hi); (try clear ho0); obtain ⟨Ao99, co99, eo99⟩ := Kd.R_slice HO280.out; subst eo99; have hcz100_0 : w98.cell? ⟨gb250, 0, none⟩ = some (.string a0_0) := (blk_cell BK250.out 0).trans rfl; have hcz100_1 : w98.cell? ⟨gb250, 1, none⟩ = some (.slice A0_1 l0_1.length c0_1) := (blk_cell BK250.out 1).trans rfl; have hcz100_2 : w98.cell? ⟨gb250, 2, none⟩ = some (.slice A0_2 l0_2.length c0_2) := (blk_cell BK250.out 2).trans rfl; have hfz100_0 := blk_frozen BK250.out 0; have hfz100_1 := blk_frozen BK250.out 1; have hfz100_2 := blk_frozen BK250.out 2) | (go_at_call 8; (refine (orders_Of.calls kj52 a0_0 _ _ l0_1 _ _ l0_2 _ _ ([] : List (S32)) t281 _ ?side1 ?side2 ?side3 ?side4 ?side5 ?side6 A85.out).mono ?_); (case side1 => repeat (first | exact (Kd.C_below HR0_1.out HB.out) | (with_reducible refine Kd.C_alloc ?_ _) | (with_reducible refine Kd.C_drewN ?_ _) | (with_reducible refine Kd.C_drew ?_))); (case side2 => exact HC0_1.out); (case side3 => repeat (first | exact (Kd.C_below HR0_2.out HB.out) | (with_reducible refine Kd.C_alloc ?_ _) | (with_reducible refine Kd.C_drewN ?_ _) | (with_reducible refine Kd.C_drew ?_))); (case side4 => exact HC0_2.out); (case side5 => exact Kd.C_nil _ _); (case side6 => exact Nat.le_refl _); rintro e w101 ⟨v282, rfl, ho0, hb⟩; have n0_ := Aside0.mk (Kd.R_below (by (with_reducible repeat (first | apply Kd.R_alloc | apply Kd.R_drewN | apply Kd.R_drew)); exact HO277.out) hb); have n1_ := Aside0.mk (Kd.R_elder' (by (with_reducible repeat (first | apply Kd.R_alloc | apply Kd.R_drewN | apply Kd.R_drew)); exact HO280.out) (Kd.R_base ho0) hb); have n2_ := Aside0.mk (Kd.R_lower (Kd.R_new' ho0 (Kd.R_lt (by (with_reducible repeat (first | apply Kd.R_alloc | apply Kd.R_drewN | apply Kd.R_drew)); exact HO280.out))) (below_size (by repeat (first | (with_reducible first | exact HB.out | apply below_alloc | apply pw_below_drewN | apply below_drew1 | refine below_set ?_ GE250.out | refine below_set ?_ GE251.out) | exact HB.out)))); have n3_ := Aside0.mk (blk_below (g := gb250) (o := .cells #[.string a0_0, .slice A0_1 l0_1.length c0_1, .slice A0_2 l0_2.length c0_2] 25 (0, 0)) (by (with_reducible repeat (first | refine blk_drewN ?_ _ | refine blk_drew ?_ | refine blk_alloc ?_ _)); exact BK250.out) hb); have n4_ := Aside0.mk (blk_below (g := gb251) (o := .cells #[.int .i64 a1_0, .int .i64 a1_1, .int .i64 a1_2, .int .i64 a1_3] 32 (0, 0)) (by (with_reducible repeat (first | refine blk_drewN ?_ _ | refine blk_drew ?_ | refine blk_alloc ?_ _)); exact BK251.out) hb); have n5_ := Aside0.mk (below_step (by repeat (first | (with_reducible first | exact HB.out | apply below_alloc | apply pw_below_drewN | apply below_drew1 | refine below_set ?_ GE250.out | refine below_set ?_ GE251.out) | exact HB.out)) hb); clear HO277; clear HO280; clear BK250; clear BK251; clear HB; have HO277 := n0_; have HO280 := n1_; have HO283 := n2_; have BK250 := n3_; have BK251 := n4_; have HB := n5_; clear n0_ n1_ n2_ n3_ n4_ n5_; (try clear hb); (try clear hb2); (try clear hk); (try clear hi); (try clear ho0); obtain ⟨Ao102, co102, eo102⟩ := Kd.R_slice HO283.out; subst eo102) | (go_at_call 10; (refine (orders_Jobs.calls _ _ ([] : List (S35)) t284 _ ?side1 ?side2 A87.out).mono ?_); (case side1 => exact Kd.C_nil _ _); (case side2 => exact Nat.le_refl _); rintro e w103 ⟨v285, rfl, ho0, hb⟩; have n0_ := Aside0.mk (Kd.R_below (by (with_reducible repeat (first | apply Kd.R_alloc | apply Kd.R_drewN | apply Kd.R_drew)); exact HO277.out) hb); have n1_ := Aside0.mk (Kd.R_below (by (with_reducible repeat (first | apply Kd.R_alloc | apply Kd.R_drewN | apply Kd.R_drew)); exact HO280.out) hb); have n2_ := Aside0.mk (Kd.R_below (by (with_reducible repeat (first | apply Kd.R_alloc | apply Kd.R_drewN | apply Kd.R_drew)); exact HO283.out) hb); have n3_ := Aside0.mk (Kd.R_lower ho0 (below_size (by repeat (first | (with_reducible first | exact HB.out | apply below_alloc | apply pw_below_drewN | apply below_drew1 | refine below_set ?_ GE250.out | refine below_set ?_ GE251.out) | exact HB.out)))); have n4_ := Aside0.mk (blk_below (g := gb250) (o := .cells #[.string a0_0, .slice A0_1 l0_1.length c0_1, .slice A0_2 l0_2.length c0_2] 25 (0, 0)) (by (with_reducible repeat (first | refine blk_drewN ?_ _ | refine blk_drew ?_ | refine blk_alloc ?_ _)); exact BK250.out) hb); have n5_ := Aside0.mk (blk_below (g := gb251) (o := .cells #[.int .i64 a1_0, .int .i64 a1_1, .int .i64 a1_2, .int .i64 a1_3] 32 (0, 0)) (by (with_reducible repeat (first | refine blk_drewN ?_ _ | refine blk_drew ?_ | refine blk_alloc ?_ _)); exact BK251.out) hb); have n6_ := Aside0.mk (below_step (by repeat (first | (with_reducible first | exact HB.out | apply below_alloc | apply pw_below_drewN | apply below_drew1 | refine below_set ?_ GE250.out | refine below_set ?_ GE251.out) | exact HB.out)) hb); clear HO277; clear HO280; clear HO283; clear BK250; clear BK251; clear HB; have HO277 := n0_; have HO280 := n1_; have HO283 := n2_; have HO286 := n3_; have BK250 := n4_; have BK251 := n5_; have HB := n6_; clear n0_ n1_ n2_ n3_ n4_ n5_ n6_; (try clear hb); (try clear hb2); (try clear hk); (try clear hi); (try clear ho0); obtain ⟨Ao104, co104, eo104⟩ := Kd.R_slice HO286.out; subst eo104) | (go_at_call 11; (refine (orders_Timers.calls _ _ ([] : List (S35)) t287 _ ?side1 ?side2 A89.out).mono ?_); (case side1 => exact Kd.C_nil _ _); (case side2 => exact Nat.le_refl _); rintro e w105 ⟨v288, rfl, ho0, hb⟩; have n0_ := Aside0.mk (Kd.R_below (by (with_reducible repeat (first | apply Kd.R_alloc | apply Kd.R_drewN | apply Kd.R_drew)); exact HO277.out) hb); have n1_ := Aside0.mk (Kd.R_elder' (by (with_reducible repeat (first | apply Kd.R_alloc | apply Kd.R_drewN | apply Kd.R_drew)); exact HO280.out) (Kd.R_base ho0) hb); have n2_ := Aside0.mk (Kd.R_elder' (by (with_reducible repeat (first | apply Kd.R_alloc | apply Kd.R_drewN | apply Kd.R_drew)); exact HO283.out) (Kd.R_base ho0) hb); have n3_ := Aside0.mk (Kd.R_below (by (with_reducible repeat (first | apply Kd.R_alloc | apply Kd.R_drewN | apply Kd.R_drew)); exact HO286.out) hb); have n4_ := Aside0.mk (Kd.R_lower (Kd.R_new' (Kd.R_new' ho0 (Kd.R_lt (by (with_reducible repeat (first | apply Kd.R_alloc | apply Kd.R_drewN | apply Kd.R_drew)); exact HO280.out))) (Kd.R_lt (by (with_reducible repeat (first | apply Kd.R_alloc | apply Kd.R_drewN | apply Kd.R_drew)); exact HO283.out))) (below_size (by repeat (first | (with_reducible first | exact HB.out | apply below_alloc | apply pw_below_drewN | apply below_drew1 | refine below_set ?_ GE250.out | refine below_set ?_ GE251.out) | exact HB.out)))); have n5_ := Aside0.mk (blk_below (g := gb250) (o := .cells #[.string a0_0, .slice A0_1 l0_1.length c0_1, .slice A0_2 l0_2.length c0_2] 25 (0, 0)) (by (with_reducible repeat (first | refine blk_drewN ?_ _ | refine blk_drew ?_ | refine blk_alloc ?_ _)); exact BK250.out) hb); have n6_ := Aside0.mk (blk_below (g := gb251) (o := .cells #[.int .i64 a1_0, .int .i64 a1_1, .int .i64 a1_2, .int .i64 a1_3] 32 (0, 0)) (by (with_reducible repeat (first | refine blk_drewN ?_ _ | refine blk_drew ?_ | refine blk_alloc ?_ _)); exact BK251.out) hb); have n7_ := Aside0.mk (below_step (by repeat (first | (with_reducible first | exact HB.out | apply below_alloc | apply pw_below_drewN | apply below_drew1 | refine below_set ?_ GE250.out | refine below_set ?_ GE251.out) | exact HB.out)) hb); clear HO277; clear HO280; clear HO283; clear HO286; clear BK250; clear BK251; clear HB; have HO277 := n0_; have HO280 := n1_; have HO283 := n2_; have HO286 := n3_; have HO289 := n4_; have BK250 := n5_; have BK251 := n6_; have HB := n7_; clear n0_ n1_ n2_ n3_ n4_ n5_ n6_ n7_; (try clear hb); (try clear hb2); (try clear hk); (try clear hi); (try clear ho0); obtain ⟨Ao106, co106, eo106⟩ := Kd.R_slice HO289.out; subst eo106) | (go_at_call 7; (with_reducible refine (remontoirlaw27_wakes.calls kj52  true _ A91.out).mono ?_); rintro e w107 ⟨rfl, hb⟩; have n0_ := Aside0.mk (Kd.R_below (by (with_reducible repeat (first | apply Kd.R_alloc | apply Kd.R_drewN | apply Kd.R_drew)); exact HO277.out) hb); have n1_ := Aside0.mk (Kd.R_below (by (with_reducible repeat (first | apply Kd.R_alloc | apply Kd.R_drewN | apply Kd.R_drew)); exact HO280.out) hb); have n2_ := Aside0.mk (Kd.R_below (by (with_reducible repeat (first | apply Kd.R_alloc | apply Kd.R_drewN | apply Kd.R_drew)); exact HO283.out) hb); have n3_ := Aside0.mk (Kd.R_below (by (with_reducible repeat (first | apply Kd.R_alloc | apply Kd.R_drewN | apply Kd.R_drew)); exact HO286.out) hb); have n4_ := Aside0.mk (Kd.R_below (by (with_reducible repeat (first | apply Kd.R_alloc | apply Kd.R_drewN | apply Kd.R_drew)); exact HO289.out) hb); have n5_ := Aside0.mk (blk_below (g := gb250) (o := .cells #[.string a0_0, .slice A0_1 l0_1.length c0_1, .slice A0_2 l0_2.length c0_2] 25 (0, 0)) (by (with_reducible repeat (first | refine blk_drewN ?_ _ | refine blk_drew ?_ | refine blk_alloc ?_ _)); exact BK250.out) hb); have n6_ := Aside0.mk (blk_below (g := gb251) (o := .cells #[.int .i64 a1_0, .int .i64 a1_1, .int .i64 a1_2, .int .i64 a1_3] 32 (0, 0)) (by (with_reducible repeat (first | refine blk_drewN ?_ _ | refine blk_drew ?_ | refine blk_alloc ?_ _)); exact BK251.out) hb); have n7_ := Aside0.mk (below_step (by repeat (first | (with_reducible first | exact HB.out | apply below_alloc | apply pw_below_drewN | apply below_drew1 | refine below_set ?_ GE250.out | refine below_set ?_ GE251.out) | exact HB.out)) hb); clear HO277; clear HO280; clear HO283; clear HO286; clear HO289; clear BK250; clear BK251; clear HB; have HO277 := n0_; have HO280 := n1_; have HO283 := n2_; have HO286 := n3_; have HO289 := n4_; have BK250 := n5_; have BK251 := n6_; have HB := n7_; clear n0_ n1_ n2_ n3_ n4_ n5_ n6_ n7_; (try clear hb); (try clear hb2); (try clear hk); (try clear hi))); try go_wp2_with (first | ((with_reducible refine gate_dst (N := 92) rfl ?_); (try (refine gate_guard (by rfl) ?_; dsimp only)); refine Kd.R_lit k32 _ 32 ?hg (N := 92) ?hd (xs := ([(⟨a1_0, a1_1, a1_2, a1_3⟩ : S32)] : List (S32))) (inner := [.int .i64 a1_0, .int .i64 a1_1, .int .i64 a1_2, .int .i64 a1_3]) (ok := fun _ => True) (okp := fun _ => True) ?hr ?hp (fun _ hk => hk) trivial (Below.refl _ _) (Nat.le_refl _) (by simp) ?_; (case hd => rfl); (case hg => rfl); (case hr => first | (go_simp; done) | (go_simp; rfl)); (case hp => exact (Reps.c4 (show Kd.M k32 _ _ _ (⟨a1_0, a1_1, a1_2, a1_3⟩ : S32) [.int .i64 a1_0, .int .i64 a1_1, .int .i64 a1_2, .int .i64 a1_3] from (k32_mkM _ _ _ (⟨a1_0, a1_1, a1_2, a1_3⟩ : S32) )) (Reps.none _ _))); intro v276 w95 ho96 hb hg_ hnew_; clear hg_ hnew_; (first | rw [← Ny275.out] at ho96 | (simp only [Int.reduceToNat] at ho96; rw [← Ny275.out] at ho96)); have n0_ := Aside0.mk (Kd.R_lower (Kd.R_newB ho96 (g := gb251) (o := .cells #[.int .i64 a1_0, .int .i64 a1_1, .int .i64 a1_2, .int .i64 a1_3] 32 (0, 0)) (by (with_reducible repeat (first | refine blk_drewN ?_ _ | refine blk_drew ?_ | refine blk_alloc ?_ _)); exact BK251.out)) (below_size (by repeat (first | (with_reducible first | exact HB.out | apply below_alloc | apply pw_below_drewN | apply below_drew1 | refine below_set ?_ GE250.out | refine below_set ?_ GE251.out) | exact HB.out)))); have n1_ := Aside0.mk (blk_below (g := gb250) (o := .cells #[.string a0_0, .slice A0_1 l0_1.length c0_1, .slice A0_2 l0_2.length c0_2] 25 (0, 0)) (by (with_reducible repeat (first | refine blk_drewN ?_ _ | refine blk_drew ?_ | refine blk_alloc ?_ _)); exact BK250.out) hb); have n2_ := Aside0.mk (blk_below (g := gb251) (o := .cells #[.int .i64 a1_0, .int .i64 a1_1, .int .i64 a1_2, .int .i64 a1_3] 32 (0, 0)) (by (with_reducible repeat (first | refine blk_drewN ?_ _ | refine blk_drew ?_ | refine blk_alloc ?_ _)); exact BK251.out) hb); have n3_ := Aside0.mk (below_step (by repeat (first | (with_reducible first | exact HB.out | apply below_alloc | apply pw_below_drewN | apply below_drew1 | refine below_set ?_ GE250.out | refine below_set ?_ GE251.out) | exact HB.out)) hb); clear BK250; clear BK251; clear HB; have HO277 := n0_; have BK250 := n1_; have BK251 := n2_; have HB := n3_; clear n0_ n1_ n2_ n3_; clear hb ho96; obtain ⟨Ao97, co97, eo97⟩ := Kd.R_slice HO277.out; subst eo97) | (go_at_call 8; (with_reducible refine (orders_Of.calls kj52 a0_0 _ _ l0_1 _ _ l0_2 _ _ y275 t278 _ ?side1 ?side2 ?side3 ?side4 ?side5 ?side6 A83.out).mono ?_); (case side1 => repeat (first | exact (Kd.C_below HR0_1.out HB.out) | (with_reducible refine Kd.C_alloc ?_ _) | (with_reducible refine Kd.C_drewN ?_ _) | (with_reducible refine Kd.C_drew ?_))); (case side2 => exact HC0_1.out); (case side3 => repeat (first | exact (Kd.C_below HR0_2.out HB.out) | (with_reducible refine Kd.C_alloc ?_ _) | (with_reducible refine Kd.C_drewN ?_ _) | (with_reducible refine Kd.C_drew ?_))); (case side4 => exact HC0_2.out); (case side5 => repeat (first | exact (Kd.R_reads' HO277.out).2.2 | (with_reducible refine Kd.C_alloc ?_ _) | (with_reducible refine Kd.C_drewN ?_ _) | (with_reducible refine Kd.C_drew ?_))); (case side6 => exact (Kd.R_reads' HO277.out).2.1); rintro e w98 ⟨v279, rfl, ho0, hb⟩; have n0_ := Aside0.mk (Kd.R_below (by (with_reducible repeat (first | apply Kd.R_alloc | apply Kd.R_drewN | apply Kd.R_drew)); exact HO277.out) hb); have n1_ := Aside0.mk (Kd.R_lower ho0 (below_size (by repeat (first | (with_reducible first | exact HB.out | apply below_alloc | apply pw_below_drewN | apply below_drew1 | refine below_set ?_ GE250.out | refine below_set ?_ GE251.out) | exact HB.out)))); have n2_ := Aside0.mk (blk_below (g := gb250) (o := .cells #[.string a0_0, .slice A0_1 l0_1.length c0_1, .slice A0_2 l0_2.length c0_2] 25 (0, 0)) (by (with_reducible repeat (first | refine blk_drewN ?_ _ | refine blk_drew ?_ | refine blk_alloc ?_ _)); exact BK250.out) hb); have n3_ := Aside0.mk (blk_below (g := gb251) (o := .cells #[.int .i64 a1_0, .int .i64 a1_1, .int .i64 a1_2, .int .i64 a1_3] 32 (0, 0)) (by (with_reducible repeat (first | refine blk_drewN ?_ _ | refine blk_drew ?_ | refine blk_alloc ?_ _)); exact BK251.out) hb); have n4_ := Aside0.mk (below_step (by repeat (first | (with_reducible first | exact HB.out | apply below_alloc | apply pw_below_drewN | apply below_drew1 | refine below_set ?_ GE250.out | refine below_set ?_ GE251.out) | exact HB.out)) hb); clear HO277; clear BK250; clear BK251; clear HB; have HO277 := n0_; have HO280 := n1_; have BK250 := n2_; have BK251 := n3_; have HB := n4_; clear n0_ n1_ n2_ n3_ n4_; (try clear hb); (try clear hb2); (try clear hk); (try clear hi); (try clear ho0); obtain ⟨Ao99, co99, eo99⟩ := Kd.R_slice HO280.out; subst eo99; have hcz100_0 : w98.cell? ⟨gb250, 0, none⟩ = some (.string a0_0) := (blk_cell BK250.out 0).trans rfl; have hcz100_1 : w98.cell? ⟨gb250, 1, none⟩ = some (.slice A0_1 l0_1.length c0_1) := (blk_cell BK250.out 1).trans rfl; have hcz100_2 : w98.cell? ⟨gb250, 2, none⟩ = some (.slice A0_2 l0_2.length c0_2) := (blk_cell BK250.out 2).trans rfl; have hfz100_0 := blk_frozen BK250.out 0; have hfz100_1 := blk_frozen BK250.out 1; have hfz100_2 := blk_frozen BK250.out 2) | (go_at_call 8; (refine (orders_Of.calls kj52 a0_0 _ _ l0_1 _ _ l0_2 _ _ ([] : List (S32)) t281 _ ?side1 ?side2 ?side3 ?side4 ?side5 ?side6 A85.out).mono ?_); (case side1 => repeat (first | exact (Kd.C_below HR0_1.out HB.out) | (with_reducible refine Kd.C_alloc ?_ _) | (with_reducible refine Kd.C_drewN ?_ _) | (with_reducible refine Kd.C_drew ?_))); (case side2 => exact HC0_1.out); (case side3 => repeat (first | exact (Kd.C_below HR0_2.out HB.out) | (with_reducible refine Kd.C_alloc ?_ _) | (with_reducible refine Kd.C_drewN ?_ _) | (with_reducible refine Kd.C_drew ?_))); (case side4 => exact HC0_2.out); (case side5 => exact Kd.C_nil _ _); (case side6 => exact Nat.le_refl _); rintro e w101 ⟨v282, rfl, ho0, hb⟩; have n0_ := Aside0.mk (Kd.R_below (by (with_reducible repeat (first | apply Kd.R_alloc | apply Kd.R_drewN | apply Kd.R_drew)); exact HO277.out) hb); have n1_ := Aside0.mk (Kd.R_elder' (by (with_reducible repeat (first | apply Kd.R_alloc | apply Kd.R_drewN | apply Kd.R_drew)); exact HO280.out) (Kd.R_base ho0) hb); have n2_ := Aside0.mk (Kd.R_lower (Kd.R_new' ho0 (Kd.R_lt (by (with_reducible repeat (first | apply Kd.R_alloc | apply Kd.R_drewN | apply Kd.R_drew)); exact HO280.out))) (below_size (by repeat (first | (with_reducible first | exact HB.out | apply below_alloc | apply pw_below_drewN | apply below_drew1 | refine below_set ?_ GE250.out | refine below_set ?_ GE251.out) | exact HB.out)))); have n3_ := Aside0.mk (blk_below (g := gb250) (o := .cells #[.string a0_0, .slice A0_1 l0_1.length c0_1, .slice A0_2 l0_2.length c0_2] 25 (0, 0)) (by (with_reducible repeat (first | refine blk_drewN ?_ _ | refine blk_drew ?_ | refine blk_alloc ?_ _)); exact BK250.out) hb); have n4_ := Aside0.mk (blk_below (g := gb251) (o := .cells #[.int .i64 a1_0, .int .i64 a1_1, .int .i64 a1_2, .int .i64 a1_3] 32 (0, 0)) (by (with_reducible repeat (first | refine blk_drewN ?_ _ | refine blk_drew ?_ | refine blk_alloc ?_ _)); exact BK251.out) hb); have n5_ := Aside0.mk (below_step (by repeat (first | (with_reducible first | exact HB.out | apply below_alloc | apply pw_below_drewN | apply below_drew1 | refine below_set ?_ GE250.out | refine below_set ?_ GE251.out) | exact HB.out)) hb); clear HO277; clear HO280; clear BK250; clear BK251; clear HB; have HO277 := n0_; have HO280 := n1_; have HO283 := n2_; have BK250 := n3_; have BK251 := n4_; have HB := n5_; clear n0_ n1_ n2_ n3_ n4_ n5_; (try clear hb); (try clear hb2); (try clear hk); (try clear hi); (try clear ho0); obtain ⟨Ao102, co102, eo102⟩ := Kd.R_slice HO283.out; subst eo102) | (go_at_call 10; (refine (orders_Jobs.calls _ _ ([] : List (S35)) t284 _ ?side1 ?side2 A87.out).mono ?_); (case side1 => exact Kd.C_nil _ _); (case side2 => exact Nat.le_refl _); rintro e w103 ⟨v285, rfl, ho0, hb⟩; have n0_ := Aside0.mk (Kd.R_below (by (with_reducible repeat (first | apply Kd.R_alloc | apply Kd.R_drewN | apply Kd.R_drew)); exact HO277.out) hb); have n1_ := Aside0.mk (Kd.R_below (by (with_reducible repeat (first | apply Kd.R_alloc | apply Kd.R_drewN | apply Kd.R_drew)); exact HO280.out) hb); have n2_ := Aside0.mk (Kd.R_below (by (with_reducible repeat (first | apply Kd.R_alloc | apply Kd.R_drewN | apply Kd.R_drew)); exact HO283.out) hb); have n3_ := Aside0.mk (Kd.R_lower ho0 (below_size (by repeat (first | (with_reducible first | exact HB.out | apply below_alloc | apply pw_below_drewN | apply below_drew1 | refine below_set ?_ GE250.out | refine below_set ?_ GE251.out) | exact HB.out)))); have n4_ := Aside0.mk (blk_below (g := gb250) (o := .cells #[.string a0_0, .slice A0_1 l0_1.length c0_1, .slice A0_2 l0_2.length c0_2] 25 (0, 0)) (by (with_reducible repeat (first | refine blk_drewN ?_ _ | refine blk_drew ?_ | refine blk_alloc ?_ _)); exact BK250.out) hb); have n5_ := Aside0.mk (blk_below (g := gb251) (o := .cells #[.int .i64 a1_0, .int .i64 a1_1, .int .i64 a1_2, .int .i64 a1_3] 32 (0, 0)) (by (with_reducible repeat (first | refine blk_drewN ?_ _ | refine blk_drew ?_ | refine blk_alloc ?_ _)); exact BK251.out) hb); have n6_ := Aside0.mk (below_step (by repeat (first | (with_reducible first | exact HB.out | apply below_alloc | apply pw_below_drewN | apply below_drew1 | refine below_set ?_ GE250.out | refine below_set ?_ GE251.out) | exact HB.out)) hb); clear HO277; clear HO280; clear HO283; clear BK250; clear BK251; clear HB; have HO277 := n0_; have HO280 := n1_; have HO283 := n2_; have HO286 := n3_; have BK250 := n4_; have BK251 := n5_; have HB := n6_; clear n0_ n1_ n2_ n3_ n4_ n5_ n6_; (try clear hb); (try clear hb2); (try clear hk); (try clear hi); (try clear ho0); obtain ⟨Ao104, co104, eo104⟩ := Kd.R_slice HO286.out; subst eo104) | (go_at_call 11; (refine (orders_Timers.calls _ _ ([] : List (S35)) t287 _ ?side1 ?side2 A89.out).mono ?_); (case side1 => exact Kd.C_nil _ _); (case side2 => exact Nat.le_refl _); rintro e w105 ⟨v288, rfl, ho0, hb⟩; have n0_ := Aside0.mk (Kd.R_below (by (with_reducible repeat (first | apply Kd.R_alloc | apply Kd.R_drewN | apply Kd.R_drew)); exact HO277.out) hb); have n1_ := Aside0.mk (Kd.R_elder' (by (with_reducible repeat (first | apply Kd.R_alloc | apply Kd.R_drewN | apply Kd.R_drew)); exact HO280.out) (Kd.R_base ho0) hb); have n2_ := Aside0.mk (Kd.R_elder' (by (with_reducible repeat (first | apply Kd.R_alloc | apply Kd.R_drewN | apply Kd.R_drew)); exact HO283.out) (Kd.R_base ho0) hb); have n3_ := Aside0.mk (Kd.R_below (by (with_reducible repeat (first | apply Kd.R_alloc | apply Kd.R_drewN | apply Kd.R_drew)); exact HO286.out) hb); have n4_ := Aside0.mk (Kd.R_lower (Kd.R_new' (Kd.R_new' ho0 (Kd.R_lt (by (with_reducible repeat (first | apply Kd.R_alloc | apply Kd.R_drewN | apply Kd.R_drew)); exact HO280.out))) (Kd.R_lt (by (with_reducible repeat (first | apply Kd.R_alloc | apply Kd.R_drewN | apply Kd.R_drew)); exact HO283.out))) (below_size (by repeat (first | (with_reducible first | exact HB.out | apply below_alloc | apply pw_below_drewN | apply below_drew1 | refine below_set ?_ GE250.out | refine below_set ?_ GE251.out) | exact HB.out)))); have n5_ := Aside0.mk (blk_below (g := gb250) (o := .cells #[.string a0_0, .slice A0_1 l0_1.length c0_1, .slice A0_2 l0_2.length c0_2] 25 (0, 0)) (by (with_reducible repeat (first | refine blk_drewN ?_ _ | refine blk_drew ?_ | refine blk_alloc ?_ _)); exact BK250.out) hb); have n6_ := Aside0.mk (blk_below (g := gb251) (o := .cells #[.int .i64 a1_0, .int .i64 a1_1, .int .i64 a1_2, .int .i64 a1_3] 32 (0, 0)) (by (with_reducible repeat (first | refine blk_drewN ?_ _ | refine blk_drew ?_ | refine blk_alloc ?_ _)); exact BK251.out) hb); have n7_ := Aside0.mk (below_step (by repeat (first | (with_reducible first | exact HB.out | apply below_alloc | apply pw_below_drewN | apply below_drew1 | refine below_set ?_ GE250.out | refine below_set ?_ GE251.out) | exact HB.out)) hb); clear HO277; clear HO280; clear HO283; clear HO286; clear BK250; clear BK251; clear HB; have HO277 := n0_; have HO280 := n1_; have HO283 := n2_; have HO286 := n3_; have HO289 := n4_; have BK250 := n5_; have BK251 := n6_; have HB := n7_; clear n0_ n1_ n2_ n3_ n4_ n5_ n6_ n7_; (try clear hb); (try clear hb2); (try clear hk); (try clear hi); (try clear ho0); obtain ⟨Ao106, co106, eo106⟩ := Kd.R_slice HO289.out; subst eo106) | (go_at_call 7; (with_reducible refine (remontoirlaw27_wakes.calls kj52  true _ A91.out).mono ?_); rintro e w107 ⟨rfl, hb⟩; have n0_ := Aside0.mk (Kd.R_below (by (with_reducible repeat (first | apply Kd.R_alloc | apply Kd.R_drewN | apply Kd.R_drew)); exact HO277.out) hb); have n1_ := Aside0.mk (Kd.R_below (by (with_reducible repeat (first | apply Kd.R_alloc | apply Kd.R_drewN | apply Kd.R_drew)); exact HO280.out) hb); have n2_ := Aside0.mk (Kd.R_below (by (with_reducible repeat (first | apply Kd.R_alloc | apply Kd.R_drewN | apply Kd.R_drew)); exact HO283.out) hb); have n3_ := Aside0.mk (Kd.R_below (by (with_reducible repeat (first | apply Kd.R_alloc | apply Kd.R_drewN | apply Kd.R_drew)); exact HO286.out) hb); have n4_ := Aside0.mk (Kd.R_below (by (with_reducible repeat (first | apply Kd.R_alloc | apply Kd.R_drewN | apply Kd.R_drew)); exact HO289.out) hb); have n5_ := Aside0.mk (blk_below (g := gb250) (o := .cells #[.string a0_0, .slice A0_1 l0_1.length c0_1, .slice A0_2 l0_2.length c0_2] 25 (0, 0)) (by (with_reducible repeat (first | refine blk_drewN ?_ _ | refine blk_drew ?_ | refine blk_alloc ?_ _)); exact BK250.out) hb); have n6_ := Aside0.mk (blk_below (g := gb251) (o := .cells #[.int .i64 a1_0, .int .i64 a1_1, .int .i64 a1_2, .int .i64 a1_3] 32 (0, 0)) (by (with_reducible repeat (first | refine blk_drewN ?_ _ | refine blk_drew ?_ | refine blk_alloc ?_ _)); exact BK251.out) hb); have n7_ := Aside0.mk (below_step (by repeat (first | (with_reducible first | exact HB.out | apply below_alloc | apply pw_below_drewN | apply below_drew1 | refine below_set ?_ GE250.out | refine below_set ?_ GE251.out) | exact HB.out)) hb); clear HO277; clear HO280; clear HO283; clear HO286; clear HO289; clear BK250; clear BK251; clear HB; have HO277 := n0_; have HO280 := n1_; have HO283 := n2_; have HO286 := n3_; have HO289 := n4_; have BK250 := n5_; have BK251 := n6_; have HB := n7_; clear n0_ n1_ n2_ n3_ n4_ n5_ n6_ n7_; (try clear hb); (try clear hb2); (try clear hk); (try clear hi))))
                                go_ret
                                exact ⟨by first | rfl | (simp [errW_none, errW_some] <;> rfl) | (simp [*, errW_none, errW_some] <;> rfl), by repeat (first | (with_reducible first | exact HB.out | apply below_alloc | apply pw_below_drewN | apply below_drew1 | refine below_set ?_ GE250.out | refine below_set ?_ GE251.out) | exact HB.out)⟩
                              · rw [if_neg c90] at H
                                have c90b0 : ((t287.length : Int) == 0) = false := beq_eq_false_iff_ne.mpr c90
                                have c90b1 : ((t287.length : Int) != 0) = true := bne_iff_ne.mpr c90
                                have c90b2 : ¬ (t287 = []) := fun h_ => c90 (by rw [h_]; rfl)
                                exact absurd (Option.some.inj H) (by decide)
                            · rw [if_neg c88] at H
                              have c88b0 : ((t284.length : Int) == 0) = false := beq_eq_false_iff_ne.mpr c88
                              have c88b1 : ((t284.length : Int) != 0) = true := bne_iff_ne.mpr c88
                              have c88b2 : ¬ (t284 = []) := fun h_ => c88 (by rw [h_]; rfl)
                              exact absurd (Option.some.inj H) (by decide)
                          · rw [if_neg c86] at H
                            have c86b0 : ((t281.length : Int) == 0) = false := beq_eq_false_iff_ne.mpr c86
                            have c86b1 : ((t281.length : Int) != 0) = true := bne_iff_ne.mpr c86
                            have c86b2 : ¬ (t281 = []) := fun h_ => c86 (by rw [h_]; rfl)
                            exact absurd (Option.some.inj H) (by decide)
                        · rw [if_neg c84] at H
                          have c84b0 : ((t278.length : Int) == 0) = false := beq_eq_false_iff_ne.mpr c84
                          have c84b1 : ((t278.length : Int) != 0) = true := bne_iff_ne.mpr c84
                          have c84b2 : ¬ (t278 = []) := fun h_ => c84 (by rw [h_]; rfl)
                          exact absurd (Option.some.inj H) (by decide)
  · replace c5 := Bool.eq_false_iff.mpr c5
    subst c5
    have H1 : ((remontoirlaw27_wakes.f k).bind fun t253 => (some t253)) = some true := by rw [if_neg (show ¬ (false = true) by decide)] at H; exact H
    clear H
    have H := H1
    clear H1
    replace H := Option.bind_eq_some_iff.mp H
    obtain ⟨t253, A1550, H⟩ := H
    replace H : (some t253) = some true := H
    have A155 := Aside0.mk A1550
    clear A1550
    obtain rfl := Option.some.inj H
    go_enter Tryd.func5, Tryd.ntmps5
    go_wp2_with (first | ((with_reducible refine gate_dst (N := 3) rfl ?_); (try (refine gate_guard (by rfl) ?_; dsimp only)); refine box_event ?hg (N := 3) ?hd (cs := #[.string a0_0, .slice A0_1 l0_1.length c0_1, .slice A0_2 l0_2.length c0_2]) (t := 25) ?hr ?_; (case hd => rfl); (case hg => rfl); (case hr => first | (go_simp; done) | (go_simp; rfl)); intro gb250 hg w156 hbox hb; have n0_ := Aside0.mk (below_step (by repeat (first | (with_reducible first | exact HB.out | apply below_alloc | apply pw_below_drewN | apply below_drew1) | exact HB.out)) hb); have n1_ := Aside0.mk (hbox); have n2_ := Aside0.mk ((by rw [hg]; exact (below_size (by repeat (first | (with_reducible first | exact HB.out | apply below_alloc | apply pw_below_drewN | apply below_drew1) | exact HB.out))) : w.heap.size ≤ gb250)); have n3_ := Aside0.mk ((by rw [hg]; exact (below_size (by repeat (first | (with_reducible first | exact HB.out | apply below_alloc | apply pw_below_drewN | apply below_drew1) | exact HB.out))) : w.heap.size ≤ gb250)); clear HB; have HB := n0_; have BK250 := n1_; have GW250 := n2_; have GE250 := n3_; clear n0_ n1_ n2_ n3_; clear hb hbox hg) | ((with_reducible refine gate_dst (N := 4) rfl ?_); (try (refine gate_guard (by rfl) ?_; dsimp only)); refine box_event ?hg (N := 4) ?hd (cs := #[.int .i64 a1_0, .int .i64 a1_1, .int .i64 a1_2, .int .i64 a1_3]) (t := 32) ?hr ?_; (case hd => rfl); (case hg => rfl); (case hr => first | (go_simp; done) | (go_simp; rfl)); intro gb251 hg w157 hbox hb; have n0_ := Aside0.mk (blk_below (g := gb250) (o := .cells #[.string a0_0, .slice A0_1 l0_1.length c0_1, .slice A0_2 l0_2.length c0_2] 25 (0, 0)) (by (with_reducible repeat (first | refine blk_drewN ?_ _ | refine blk_drew ?_ | refine blk_alloc ?_ _)); exact BK250.out) hb); have n1_ := Aside0.mk (below_step (by repeat (first | (with_reducible first | exact HB.out | apply below_alloc | apply pw_below_drewN | apply below_drew1 | refine below_set ?_ GE250.out) | exact HB.out)) hb); have n2_ := Aside0.mk (hbox); have n3_ := Aside0.mk ((by rw [hg]; exact (below_size (by repeat (first | (with_reducible first | exact HB.out | apply below_alloc | apply pw_below_drewN | apply below_drew1 | refine below_set ?_ GE250.out) | exact HB.out))) : w.heap.size ≤ gb251)); have n4_ := Aside0.mk ((by rw [hg]; exact (below_size (by repeat (first | (with_reducible first | exact HB.out | apply below_alloc | apply pw_below_drewN | apply below_drew1 | refine below_set ?_ GE250.out) | exact HB.out))) : w.heap.size ≤ gb251)); have n5_ := Aside0.mk ((by rw [hg]; exact Nat.ne_of_lt (blk_lt (g := gb250) (o := .cells #[.string a0_0, .slice A0_1 l0_1.length c0_1, .slice A0_2 l0_2.length c0_2] 25 (0, 0)) (by (with_reducible repeat (first | refine blk_drewN ?_ _ | refine blk_drew ?_ | refine blk_alloc ?_ _)); exact BK250.out)) : gb250 ≠ gb251)); have n6_ := Aside0.mk ((by rw [hg]; exact Nat.ne_of_gt (blk_lt (g := gb250) (o := .cells #[.string a0_0, .slice A0_1 l0_1.length c0_1, .slice A0_2 l0_2.length c0_2] 25 (0, 0)) (by (with_reducible repeat (first | refine blk_drewN ?_ _ | refine blk_drew ?_ | refine blk_alloc ?_ _)); exact BK250.out)) : gb251 ≠ gb250)); clear BK250; clear HB; have BK250 := n0_; have HB := n1_; have BK251 := n2_; have GW251 := n3_; have GE251 := n4_; have NB250_251 := n5_; have NB251_250 := n6_; clear n0_ n1_ n2_ n3_ n4_ n5_ n6_; clear hb hbox hg; have hnb158 := NB250_251.out; have hnc158 := NB251_250.out; have hcz159_0 : w157.cell? ⟨gb250, 0, none⟩ = some (.string a0_0) := (blk_cell BK250.out 0).trans rfl; have hcz159_1 : w157.cell? ⟨gb250, 1, none⟩ = some (.slice A0_1 l0_1.length c0_1) := (blk_cell BK250.out 1).trans rfl; have hcz159_2 : w157.cell? ⟨gb250, 2, none⟩ = some (.slice A0_2 l0_2.length c0_2) := (blk_cell BK250.out 2).trans rfl; have hfz159_0 := blk_frozen BK250.out 0; have hfz159_1 := blk_frozen BK250.out 1; have hfz159_2 := blk_frozen BK250.out 2) | (go_at_call 6; (with_reducible refine (remontoirkeep_LightDef.calls k a0_0 _ _ l0_1 _ _ l0_2 false _ ?side1 ?side2 ?side3 ?side4 A4.out).mono ?_); (case side1 => repeat (first | exact (Kd.C_below HR0_1.out HB.out) | (with_reducible refine Kd.C_alloc ?_ _) | (with_reducible refine Kd.C_drewN ?_ _) | (with_reducible refine Kd.C_drew ?_))); (case side2 => exact HC0_1.out); (case side3 => repeat (first | exact (Kd.C_below HR0_2.out HB.out) | (with_reducible refine Kd.C_alloc ?_ _) | (with_reducible refine Kd.C_drewN ?_ _) | (with_reducible refine Kd.C_drew ?_))); (case side4 => exact HC0_2.out); rintro e w160 ⟨rfl, hb⟩; have n0_ := Aside0.mk (blk_below (g := gb250) (o := .cells #[.string a0_0, .slice A0_1 l0_1.length c0_1, .slice A0_2 l0_2.length c0_2] 25 (0, 0)) (by (with_reducible repeat (first | refine blk_drewN ?_ _ | refine blk_drew ?_ | refine blk_alloc ?_ _)); exact BK250.out) hb); have n1_ := Aside0.mk (blk_below (g := gb251) (o := .cells #[.int .i64 a1_0, .int .i64 a1_1, .int .i64 a1_2, .int .i64 a1_3] 32 (0, 0)) (by (with_reducible repeat (first | refine blk_drewN ?_ _ | refine blk_drew ?_ | refine blk_alloc ?_ _)); exact BK251.out) hb); have n2_ := Aside0.mk (below_step (by repeat (first | (with_reducible first | exact HB.out | apply below_alloc | apply pw_below_drewN | apply below_drew1 | refine below_set ?_ GE250.out | refine below_set ?_ GE251.out) | exact HB.out)) hb); clear BK250; clear BK251; clear HB; have BK250 := n0_; have BK251 := n1_; have HB := n2_; clear n0_ n1_ n2_; (try clear hb); (try clear hb2); (try clear hk); (try clear hi)) | (go_at_call 7; (with_reducible refine (remontoirlaw27_wakes.calls k  true _ A155.out).mono ?_); rintro e w161 ⟨rfl, hb⟩; have n0_ := Aside0.mk (blk_below (g := gb250) (o := .cells #[.string a0_0, .slice A0_1 l0_1.length c0_1, .slice A0_2 l0_2.length c0_2] 25 (0, 0)) (by (with_reducible repeat (first | refine blk_drewN ?_ _ | refine blk_drew ?_ | refine blk_alloc ?_ _)); exact BK250.out) hb); have n1_ := Aside0.mk (blk_below (g := gb251) (o := .cells #[.int .i64 a1_0, .int .i64 a1_1, .int .i64 a1_2, .int .i64 a1_3] 32 (0, 0)) (by (with_reducible repeat (first | refine blk_drewN ?_ _ | refine blk_drew ?_ | refine blk_alloc ?_ _)); exact BK251.out) hb); have n2_ := Aside0.mk (below_step (by repeat (first | (with_reducible first | exact HB.out | apply below_alloc | apply pw_below_drewN | apply below_drew1 | refine below_set ?_ GE250.out | refine below_set ?_ GE251.out) | exact HB.out)) hb); clear BK250; clear BK251; clear HB; have BK250 := n0_; have BK251 := n1_; have HB := n2_; clear n0_ n1_ n2_; (try clear hb); (try clear hb2); (try clear hk); (try clear hi)))
    repeat (go_quiet (first | ((with_reducible refine gate_dst (N := 3) rfl ?_); (try (refine gate_guard (by rfl) ?_; dsimp only)); refine box_event ?hg (N := 3) ?hd (cs := #[.string a0_0, .slice A0_1 l0_1.length c0_1, .slice A0_2 l0_2.length c0_2]) (t := 25) ?hr ?_; (case hd => rfl); (case hg => rfl); (case hr => first | (go_simp; done) | (go_simp; rfl)); intro gb250 hg w156 hbox hb; have n0_ := Aside0.mk (below_step (by repeat (first | (with_reducible first | exact HB.out | apply below_alloc | apply pw_below_drewN | apply below_drew1) | exact HB.out)) hb); have n1_ := Aside0.mk (hbox); have n2_ := Aside0.mk ((by rw [hg]; exact (below_size (by repeat (first | (with_reducible first | exact HB.out | apply below_alloc | apply pw_below_drewN | apply below_drew1) | exact HB.out))) : w.heap.size ≤ gb250)); have n3_ := Aside0.mk ((by rw [hg]; exact (below_size (by repeat (first | (with_reducible first | exact HB.out | apply below_alloc | apply pw_below_drewN | apply below_drew1) | exact HB.out))) : w.heap.size ≤ gb250)); clear HB; have HB := n0_; have BK250 := n1_; have GW250 := n2_; have GE250 := n3_; clear n0_ n1_ n2_ n3_; clear hb hbox hg) | ((with_reducible refine gate_dst (N := 4) rfl ?_); (try (refine gate_guard (by rfl) ?_; dsimp only)); refine box_event ?hg (N := 4) ?hd (cs := #[.int .i64 a1_0, .int .i64 a1_1, .int .i64 a1_2, .int .i64 a1_3]) (t := 32) ?hr ?_; (case hd => rfl); (case hg => rfl); (case hr => first | (go_simp; done) | (go_simp; rfl)); intro gb251 hg w157 hbox hb; have n0_ := Aside0.mk (blk_below (g := gb250) (o := .cells #[.string a0_0, .slice A0_1 l0_1.length c0_1, .slice A0_2 l0_2.length c0_2] 25 (0, 0)) (by (with_reducible repeat (first | refine blk_drewN ?_ _ | refine blk_drew ?_ | refine blk_alloc ?_ _)); exact BK250.out) hb); have n1_ := Aside0.mk (below_step (by repeat (first | (with_reducible first | exact HB.out | apply below_alloc | apply pw_below_drewN | apply below_drew1 | refine below_set ?_ GE250.out) | exact HB.out)) hb); have n2_ := Aside0.mk (hbox); have n3_ := Aside0.mk ((by rw [hg]; exact (below_size (by repeat (first | (with_reducible first | exact HB.out | apply below_alloc | apply pw_below_drewN | apply below_drew1 | refine below_set ?_ GE250.out) | exact HB.out))) : w.heap.size ≤ gb251)); have n4_ := Aside0.mk ((by rw [hg]; exact (below_size (by repeat (first | (with_reducible first | exact HB.out | apply below_alloc | apply pw_below_drewN | apply below_drew1 | refine below_set ?_ GE250.out) | exact HB.out))) : w.heap.size ≤ gb251)); have n5_ := Aside0.mk ((by rw [hg]; exact Nat.ne_of_lt (blk_lt (g := gb250) (o := .cells #[.string a0_0, .slice A0_1 l0_1.length c0_1, .slice A0_2 l0_2.length c0_2] 25 (0, 0)) (by (with_reducible repeat (first | refine blk_drewN ?_ _ | refine blk_drew ?_ | refine blk_alloc ?_ _)); exact BK250.out)) : gb250 ≠ gb251)); have n6_ := Aside0.mk ((by rw [hg]; exact Nat.ne_of_gt (blk_lt (g := gb250) (o := .cells #[.string a0_0, .slice A0_1 l0_1.length c0_1, .slice A0_2 l0_2.length c0_2] 25 (0, 0)) (by (with_reducible repeat (first | refine blk_drewN ?_ _ | refine blk_drew ?_ | refine blk_alloc ?_ _)); exact BK250.out)) : gb251 ≠ gb250)); clear BK250; clear HB; have BK250 := n0_; have HB := n1_; have BK251 := n2_; have GW251 := n3_; have GE251 := n4_; have NB250_251 := n5_; have NB251_250 := n6_; clear n0_ n1_ n2_ n3_ n4_ n5_ n6_; clear hb hbox hg; have hnb158 := NB250_251.out; have hnc158 := NB251_250.out; have hcz159_0 : w157.cell? ⟨gb250, 0, none⟩ = some (.string a0_0) := (blk_cell BK250.out 0).trans rfl; have hcz159_1 : w157.cell? ⟨gb250, 1, none⟩ = some (.slice A0_1 l0_1.length c0_1) := (blk_cell BK250.out 1).trans rfl; have hcz159_2 : w157.cell? ⟨gb250, 2, none⟩ = some (.slice A0_2 l0_2.length c0_2) := (blk_cell BK250.out 2).trans rfl; have hfz159_0 := blk_frozen BK250.out 0; have hfz159_1 := blk_frozen BK250.out 1; have hfz159_2 := blk_frozen BK250.out 2) | (go_at_call 6; (with_reducible refine (remontoirkeep_LightDef.calls k a0_0 _ _ l0_1 _ _ l0_2 false _ ?side1 ?side2 ?side3 ?side4 A4.out).mono ?_); (case side1 => repeat (first | exact (Kd.C_below HR0_1.out HB.out) | (with_reducible refine Kd.C_alloc ?_ _) | (with_reducible refine Kd.C_drewN ?_ _) | (with_reducible refine Kd.C_drew ?_))); (case side2 => exact HC0_1.out); (case side3 => repeat (first | exact (Kd.C_below HR0_2.out HB.out) | (with_reducible refine Kd.C_alloc ?_ _) | (with_reducible refine Kd.C_drewN ?_ _) | (with_reducible refine Kd.C_drew ?_))); (case side4 => exact HC0_2.out); rintro e w160 ⟨rfl, hb⟩; have n0_ := Aside0.mk (blk_below (g := gb250) (o := .cells #[.string a0_0, .slice A0_1 l0_1.length c0_1, .slice A0_2 l0_2.length c0_2] 25 (0, 0)) (by (with_reducible repeat (first | refine blk_drewN ?_ _ | refine blk_drew ?_ | refine blk_alloc ?_ _)); exact BK250.out) hb); have n1_ := Aside0.mk (blk_below (g := gb251) (o := .cells #[.int .i64 a1_0, .int .i64 a1_1, .int .i64 a1_2, .int .i64 a1_3] 32 (0, 0)) (by (with_reducible repeat (first | refine blk_drewN ?_ _ | refine blk_drew ?_ | refine blk_alloc ?_ _)); exact BK251.out) hb); have n2_ := Aside0.mk (below_step (by repeat (first | (with_reducible first | exact HB.out | apply below_alloc | apply pw_below_drewN | apply below_drew1 | refine below_set ?_ GE250.out | refine below_set ?_ GE251.out) | exact HB.out)) hb); clear BK250; clear BK251; clear HB; have BK250 := n0_; have BK251 := n1_; have HB := n2_; clear n0_ n1_ n2_; (try clear hb); (try clear hb2); (try clear hk); (try clear hi)) | (go_at_call 7; (with_reducible refine (remontoirlaw27_wakes.calls k  true _ A155.out).mono ?_); rintro e w161 ⟨rfl, hb⟩; have n0_ := Aside0.mk (blk_below (g := gb250) (o := .cells #[.string a0_0, .slice A0_1 l0_1.length c0_1, .slice A0_2 l0_2.length c0_2] 25 (0, 0)) (by (with_reducible repeat (first | refine blk_drewN ?_ _ | refine blk_drew ?_ | refine blk_alloc ?_ _)); exact BK250.out) hb); have n1_ := Aside0.mk (blk_below (g := gb251) (o := .cells #[.int .i64 a1_0, .int .i64 a1_1, .int .i64 a1_2, .int .i64 a1_3] 32 (0, 0)) (by (with_reducible repeat (first | refine blk_drewN ?_ _ | refine blk_drew ?_ | refine blk_alloc ?_ _)); exact BK251.out) hb); have n2_ := Aside0.mk (below_step (by repeat (first | (with_reducible first | exact HB.out | apply below_alloc | apply pw_below_drewN | apply below_drew1 | refine below_set ?_ GE250.out | refine below_set ?_ GE251.out) | exact HB.out)) hb); clear BK250; clear BK251; clear HB; have BK250 := n0_; have BK251 := n1_; have HB := n2_; clear n0_ n1_ n2_; (try clear hb); (try clear hb2); (try clear hk); (try clear hi))); try go_wp2_with (first | ((with_reducible refine gate_dst (N := 3) rfl ?_); (try (refine gate_guard (by rfl) ?_; dsimp only)); refine box_event ?hg (N := 3) ?hd (cs := #[.string a0_0, .slice A0_1 l0_1.length c0_1, .slice A0_2 l0_2.length c0_2]) (t := 25) ?hr ?_; (case hd => rfl); (case hg => rfl); (case hr => first | (go_simp; done) | (go_simp; rfl)); intro gb250 hg w156 hbox hb; have n0_ := Aside0.mk (below_step (by repeat (first | (with_reducible first | exact HB.out | apply below_alloc | apply pw_below_drewN | apply below_drew1) | exact HB.out)) hb); have n1_ := Aside0.mk (hbox); have n2_ := Aside0.mk ((by rw [hg]; exact (below_size (by repeat (first | (with_reducible first | exact HB.out | apply below_alloc | apply pw_below_drewN | apply below_drew1) | exact HB.out))) : w.heap.size ≤ gb250)); have n3_ := Aside0.mk ((by rw [hg]; exact (below_size (by repeat (first | (with_reducible first | exact HB.out | apply below_alloc | apply pw_below_drewN | apply below_drew1) | exact HB.out))) : w.heap.size ≤ gb250)); clear HB; have HB := n0_; have BK250 := n1_; have GW250 := n2_; have GE250 := n3_; clear n0_ n1_ n2_ n3_; clear hb hbox hg) | ((with_reducible refine gate_dst (N := 4) rfl ?_); (try (refine gate_guard (by rfl) ?_; dsimp only)); refine box_event ?hg (N := 4) ?hd (cs := #[.int .i64 a1_0, .int .i64 a1_1, .int .i64 a1_2, .int .i64 a1_3]) (t := 32) ?hr ?_; (case hd => rfl); (case hg => rfl); (case hr => first | (go_simp; done) | (go_simp; rfl)); intro gb251 hg w157 hbox hb; have n0_ := Aside0.mk (blk_below (g := gb250) (o := .cells #[.string a0_0, .slice A0_1 l0_1.length c0_1, .slice A0_2 l0_2.length c0_2] 25 (0, 0)) (by (with_reducible repeat (first | refine blk_drewN ?_ _ | refine blk_drew ?_ | refine blk_alloc ?_ _)); exact BK250.out) hb); have n1_ := Aside0.mk (below_step (by repeat (first | (with_reducible first | exact HB.out | apply below_alloc | apply pw_below_drewN | apply below_drew1 | refine below_set ?_ GE250.out) | exact HB.out)) hb); have n2_ := Aside0.mk (hbox); have n3_ := Aside0.mk ((by rw [hg]; exact (below_size (by repeat (first | (with_reducible first | exact HB.out | apply below_alloc | apply pw_below_drewN | apply below_drew1 | refine below_set ?_ GE250.out) | exact HB.out))) : w.heap.size ≤ gb251)); have n4_ := Aside0.mk ((by rw [hg]; exact (below_size (by repeat (first | (with_reducible first | exact HB.out | apply below_alloc | apply pw_below_drewN | apply below_drew1 | refine below_set ?_ GE250.out) | exact HB.out))) : w.heap.size ≤ gb251)); have n5_ := Aside0.mk ((by rw [hg]; exact Nat.ne_of_lt (blk_lt (g := gb250) (o := .cells #[.string a0_0, .slice A0_1 l0_1.length c0_1, .slice A0_2 l0_2.length c0_2] 25 (0, 0)) (by (with_reducible repeat (first | refine blk_drewN ?_ _ | refine blk_drew ?_ | refine blk_alloc ?_ _)); exact BK250.out)) : gb250 ≠ gb251)); have n6_ := Aside0.mk ((by rw [hg]; exact Nat.ne_of_gt (blk_lt (g := gb250) (o := .cells #[.string a0_0, .slice A0_1 l0_1.length c0_1, .slice A0_2 l0_2.length c0_2] 25 (0, 0)) (by (with_reducible repeat (first | refine blk_drewN ?_ _ | refine blk_drew ?_ | refine blk_alloc ?_ _)); exact BK250.out)) : gb251 ≠ gb250)); clear BK250; clear HB; have BK250 := n0_; have HB := n1_; have BK251 := n2_; have GW251 := n3_; have GE251 := n4_; have NB250_251 := n5_; have NB251_250 := n6_; clear n0_ n1_ n2_ n3_ n4_ n5_ n6_; clear hb hbox hg; have hnb158 := NB250_251.out; have hnc158 := NB251_250.out; have hcz159_0 : w157.cell? ⟨gb250, 0, none⟩ = some (.string a0_0) := (blk_cell BK250.out 0).trans rfl; have hcz159_1 : w157.cell? ⟨gb250, 1, none⟩ = some (.slice A0_1 l0_1.length c0_1) := (blk_cell BK250.out 1).trans rfl; have hcz159_2 : w157.cell? ⟨gb250, 2, none⟩ = some (.slice A0_2 l0_2.length c0_2) := (blk_cell BK250.out 2).trans rfl; have hfz159_0 := blk_frozen BK250.out 0; have hfz159_1 := blk_frozen BK250.out 1; have hfz159_2 := blk_frozen BK250.out 2) | (go_at_call 6; (with_reducible refine (remontoirkeep_LightDef.calls k a0_0 _ _ l0_1 _ _ l0_2 false _ ?side1 ?side2 ?side3 ?side4 A4.out).mono ?_); (case side1 => repeat (first | exact (Kd.C_below HR0_1.out HB.out) | (with_reducible refine Kd.C_alloc ?_ _) | (with_reducible refine Kd.C_drewN ?_ _) | (with_reducible refine Kd.C_drew ?_))); (case side2 => exact HC0_1.out); (case side3 => repeat (first | exact (Kd.C_below HR0_2.out HB.out) | (with_reducible refine Kd.C_alloc ?_ _) | (with_reducible refine Kd.C_drewN ?_ _) | (with_reducible refine Kd.C_drew ?_))); (case side4 => exact HC0_2.out); rintro e w160 ⟨rfl, hb⟩; have n0_ := Aside0.mk (blk_below (g := gb250) (o := .cells #[.string a0_0, .slice A0_1 l0_1.length c0_1, .slice A0_2 l0_2.length c0_2] 25 (0, 0)) (by (with_reducible repeat (first | refine blk_drewN ?_ _ | refine blk_drew ?_ | refine blk_alloc ?_ _)); exact BK250.out) hb); have n1_ := Aside0.mk (blk_below (g := gb251) (o := .cells #[.int .i64 a1_0, .int .i64 a1_1, .int .i64 a1_2, .int .i64 a1_3] 32 (0, 0)) (by (with_reducible repeat (first | refine blk_drewN ?_ _ | refine blk_drew ?_ | refine blk_alloc ?_ _)); exact BK251.out) hb); have n2_ := Aside0.mk (below_step (by repeat (first | (with_reducible first | exact HB.out | apply below_alloc | apply pw_below_drewN | apply below_drew1 | refine below_set ?_ GE250.out | refine below_set ?_ GE251.out) | exact HB.out)) hb); clear BK250; clear BK251; clear HB; have BK250 := n0_; have BK251 := n1_; have HB := n2_; clear n0_ n1_ n2_; (try clear hb); (try clear hb2); (try clear hk); (try clear hi)) | (go_at_call 7; (with_reducible refine (remontoirlaw27_wakes.calls k  true _ A155.out).mono ?_); rintro e w161 ⟨rfl, hb⟩; have n0_ := Aside0.mk (blk_below (g := gb250) (o := .cells #[.string a0_0, .slice A0_1 l0_1.length c0_1, .slice A0_2 l0_2.length c0_2] 25 (0, 0)) (by (with_reducible repeat (first | refine blk_drewN ?_ _ | refine blk_drew ?_ | refine blk_alloc ?_ _)); exact BK250.out) hb); have n1_ := Aside0.mk (blk_below (g := gb251) (o := .cells #[.int .i64 a1_0, .int .i64 a1_1, .int .i64 a1_2, .int .i64 a1_3] 32 (0, 0)) (by (with_reducible repeat (first | refine blk_drewN ?_ _ | refine blk_drew ?_ | refine blk_alloc ?_ _)); exact BK251.out) hb); have n2_ := Aside0.mk (below_step (by repeat (first | (with_reducible first | exact HB.out | apply below_alloc | apply pw_below_drewN | apply below_drew1 | refine below_set ?_ GE250.out | refine below_set ?_ GE251.out) | exact HB.out)) hb); clear BK250; clear BK251; clear HB; have BK250 := n0_; have BK251 := n1_; have HB := n2_; clear n0_ n1_ n2_; (try clear hb); (try clear hb2); (try clear hk); (try clear hi))))
    go_ret
    exact ⟨by first | rfl | (simp [errW_none, errW_some] <;> rfl) | (simp [*, errW_none, errW_some] <;> rfl), by repeat (first | (with_reducible first | exact HB.out | apply below_alloc | apply pw_below_drewN | apply below_drew1 | refine below_set ?_ GE250.out | refine below_set ?_ GE251.out) | exact HB.out)⟩

end Go.Proofs.YtdfkbiffdcfnpaaDoor.H
