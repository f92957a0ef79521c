/- Parts of the proof of LawOrdersTell: words, contracts of the functions, plain laws. -/
import Derived.Test.YtdfkbiffdcfnpaaGreatDoorDA02
import Derived.Test.YtdfkbiffdcfnpaaGreatDoorDA05
import Derived.Test.YtdfkbiffdcfnpaaGreatDoorDA06
-- Written by hp.py (a program of this session, over the kit's print.py), with hand-made contracts beside it.
namespace Go.Proofs.YtdfkbiffdcfnpaaGreatDoor.H
open Go.RowKit Go.Proofs.YtdfkbiffdcfnpaaGreatDoorW.PrintWords Go.Proofs.YtdfkbiffdcfnpaaGreatDoorW.PrintLast Go.Proofs.YtdfkbiffdcfnpaaGreatDoorW.PrintMore
attribute [local go_sem] max2_int min2_int max_two min_two max_three min_three max_four min_four   -- for this text's walks alone
set_option linter.unusedVariables false
set_option linter.unusedSimpArgs false

/-! ### remontoirref18_Time: function 41 -/
mutual
def remontoirref18_Time.j0 : Nat → Int → Int → Bool → ByteArray → List (S86) → List (S51) → Option (Int × Int × Bool)
  | 0, _, _, _, _, _, _ => none
  | k + 1, x1, x6, x23, x218000, x218001, x218002 => if x23 = true then (some (0, 0, false)) else (if 0 ≤ (wrap64 (x1 - 1)) then (if (wrap64 (x1 - 1)) < (x218001.length : Int) then ((remontoirref18_once.f k ((rd_T86 x218001 (wrap64 (x1 - 1))).f4)).bind fun bt221 => (if bt221.2.2 = true then (remontoirref18_Time.j1 k ((rd_T86 x218001 (wrap64 (x1 - 1))).f4) bt221.2.2 true bt221.1 bt221.2.1) else (remontoirref18_Time.j1 k ((rd_T86 x218001 (wrap64 (x1 - 1))).f4) bt221.2.2 (x6 != 9) bt221.1 bt221.2.1))) else (none)) else (none))
def remontoirref18_Time.j1 : Nat → ByteArray → Bool → Bool → Int → Int → Option (Int × Int × Bool)
  | 0, _, _, _, _, _ => none
  | k + 1, x7, x9, x41, x225000, x225001 => if x41 = true then (some (x225000, x225001, x9)) else ((remontoirref03_Parse.f k x7).bind fun bt225 => (if bt225.2.2 = 0 then (if bt225.1 > 9 then (some (0, 0, false)) else (some (bt225.1, bt225.2.1, true))) else (some (0, 0, false))))
end
def remontoirref18_Time.f (k : Nat) (a0_0 : ByteArray) (l0_1 : List (S86)) (l0_2 : List (S51)) (a1 : Int) : Option (Int × Int × Bool) := (remontoirref18_Kind.f a0_0 l0_1 l0_2 a1).bind fun t219 => (if t219 = 4 then (remontoirref18_Time.j0 k a1 t219 false a0_0 l0_1 l0_2) else (if t219 = 8 then (remontoirref18_Time.j0 k a1 t219 false a0_0 l0_1 l0_2) else (remontoirref18_Time.j0 k a1 t219 (t219 != 9) a0_0 l0_1 l0_2)))
theorem remontoirref18_Time.mono_l : ∀ k, (∀ y0 y1 y2 y3 y4 y5, LeO (remontoirref18_Time.j0 k y0 y1 y2 y3 y4 y5) (remontoirref18_Time.j0 (k + 1) y0 y1 y2 y3 y4 y5)) ∧ (∀ y0 y1 y2 y3 y4, LeO (remontoirref18_Time.j1 k y0 y1 y2 y3 y4) (remontoirref18_Time.j1 (k + 1) y0 y1 y2 y3 y4))
  | 0 => ⟨fun _ _ _ _ _ _ r h => by simp [remontoirref18_Time.j0] at h, fun _ _ _ _ _ r h => by simp [remontoirref18_Time.j1] at h⟩
  | k + 1 => by
    obtain ⟨ih0, ih1⟩ := remontoirref18_Time.mono_l k
    refine ⟨?_, ?_⟩
    · intro y0 y1 y2 y3 y4 y5
      unfold remontoirref18_Time.j0
      repeat' first
      | (with_reducible exact ih0 _ _ _ _ _ _)
      | (with_reducible exact ih1 _ _ _ _ _)
      | (with_reducible exact remontoirref03_Parse.mono _ _)
      | (with_reducible exact remontoirref18_once.mono _ _)
      | (with_reducible exact LeO.refl _)
      | (with_reducible exact LeO.none _)
      | (with_reducible refine LeO.ite ?_ ?_)
      | (with_reducible refine LeO.bind ?_ (fun _ => ?_))
      | exact ih0 _ _ _ _ _ _
      | exact ih1 _ _ _ _ _
      | exact remontoirref03_Parse.mono _ _
      | exact remontoirref18_once.mono _ _
      | exact LeO.none _
      | refine LeO.ite ?_ ?_
      | refine LeO.bind ?_ (fun _ => ?_)
    · intro y0 y1 y2 y3 y4
      unfold remontoirref18_Time.j1
      repeat' first
      | (with_reducible exact ih0 _ _ _ _ _ _)
      | (with_reducible exact ih1 _ _ _ _ _)
      | (with_reducible exact remontoirref03_Parse.mono _ _)
      | (with_reducible exact remontoirref18_once.mono _ _)
      | (with_reducible exact LeO.refl _)
      | (with_reducible exact LeO.none _)
      | (with_reducible refine LeO.ite ?_ ?_)
      | (with_reducible refine LeO.bind ?_ (fun _ => ?_))
      | exact ih0 _ _ _ _ _ _
      | exact ih1 _ _ _ _ _
      | exact remontoirref03_Parse.mono _ _
      | exact remontoirref18_once.mono _ _
      | exact LeO.none _
      | refine LeO.ite ?_ ?_
      | refine LeO.bind ?_ (fun _ => ?_)
theorem remontoirref18_Time.mono : ∀ a0 a1 a2 a3 k, LeO (remontoirref18_Time.f k a0 a1 a2 a3) (remontoirref18_Time.f (k + 1) a0 a1 a2 a3) := by
  intro a0 a1 a2 a3 k
  obtain ⟨ih0, ih1⟩ := remontoirref18_Time.mono_l k
  unfold remontoirref18_Time.f
  repeat' first
      | (with_reducible exact ih0 _ _ _ _ _ _)
      | (with_reducible exact ih1 _ _ _ _ _)
      | (with_reducible exact remontoirref03_Parse.mono _ _)
      | (with_reducible exact remontoirref18_once.mono _ _)
      | (with_reducible exact LeO.refl _)
      | (with_reducible exact LeO.none _)
      | (with_reducible refine LeO.ite ?_ ?_)
      | (with_reducible refine LeO.bind ?_ (fun _ => ?_))
      | exact ih0 _ _ _ _ _ _
      | exact ih1 _ _ _ _ _
      | exact remontoirref03_Parse.mono _ _
      | exact remontoirref18_once.mono _ _
      | exact LeO.none _
      | refine LeO.ite ?_ ?_
      | refine LeO.bind ?_ (fun _ => ?_)
set_option maxHeartbeats 8000000 in
set_option maxRecDepth 100000 in
theorem remontoirref18_Time.calls (k : Nat) (a0_0 : ByteArray) (A0_1 : Option Addr) (c0_1 : Nat) (l0_1 : List (S86)) (A0_2 : Option Addr) (c0_2 : Nat) (l0_2 : List (S51)) (a1 : Int) (r1 : Int) (r2 : Int) (r3 : Bool) (w : World) (hr0_1 : Kd.C k86 w A0_1 l0_1.length l0_1) (hc0_1 : l0_1.length ≤ c0_1) (hr0_2 : Kd.C k51 w A0_2 l0_2.length l0_2) (hc0_2 : l0_2.length ≤ c0_2) (h : remontoirref18_Time.f k a0_0 l0_1 l0_2 a1 = some (r1, r2, r3)) :
  Calls Tryz.prog 41 #[.agg #[.string a0_0, .slice A0_1 l0_1.length c0_1, .slice A0_2 l0_2.length c0_2], .int .i64 a1] w fun e w' => e = .returned (.tuple #[.agg #[.int .i64 r1, .int .u64 r2], .bool r3]) ∧ Below w.heap.size w w' := by
 have hu25 := Tryz.underlying25
 have hu88 := Tryz.underlying88
 have HR0_1 := Aside0.mk hr0_1
 have HC0_1 := Aside0.mk hc0_1
 clear hr0_1 hc0_1
 have HR0_2 := Aside0.mk hr0_2
 have HC0_2 := Aside0.mk hc0_2
 clear hr0_2 hc0_2
 have HB := Aside0.mk (Below.refl w.heap.size w)
 have H : ((remontoirref18_Kind.f a0_0 l0_1 l0_2 a1).bind fun t219 => (if t219 = 4 then (remontoirref18_Time.j0 k a1 t219 false a0_0 l0_1 l0_2) else (if t219 = 8 then (remontoirref18_Time.j0 k a1 t219 false a0_0 l0_1 l0_2) else (remontoirref18_Time.j0 k a1 t219 (t219 != 9) a0_0 l0_1 l0_2)))) = some (r1, r2, r3) := h
 clear h
 replace H := Option.bind_eq_some_iff.mp H
 obtain ⟨t219, A30, H⟩ := H
 replace H : (if t219 = 4 then (remontoirref18_Time.j0 k a1 t219 false a0_0 l0_1 l0_2) else (if t219 = 8 then (remontoirref18_Time.j0 k a1 t219 false a0_0 l0_1 l0_2) else (remontoirref18_Time.j0 k a1 t219 (t219 != 9) a0_0 l0_1 l0_2))) = some (r1, r2, r3) := H
 have A3 := Aside0.mk A30
 clear A30
 have HC4 := Aside0.mk H
 clear H
 go_enter Tryz.func41, Tryz.ntmps41
 go_upto_region 2 with (first | ((with_reducible refine gate_dst (N := 2) rfl ?_); refine box_event ?hg (N := 2) ?hd (cs := #[.string a0_0, .slice A0_1 l0_1.length c0_1, .slice A0_2 l0_2.length c0_2]) (t := 25) ?hr ?_; (case hd => rfl); (case hg => rfl); (case hr => first | (go_simp; done) | (go_simp; rfl)); intro gb217 hg w5 hbox hb; have n0_ := Aside0.mk (bsp (by repeat (first | (with_reducible first | exact HB.out | apply bal | apply pbN | apply bd1) | exact HB.out)) hb); have n1_ := Aside0.mk (hbox); have n2_ := Aside0.mk ((by rw [hg]; exact (bsz (by repeat (first | (with_reducible first | exact HB.out | apply bal | apply pbN | apply bd1) | exact HB.out))) : w.heap.size ≤ gb217)); have n3_ := Aside0.mk ((by rw [hg]; exact (bsz (by repeat (first | (with_reducible first | exact HB.out | apply bal | apply pbN | apply bd1) | exact HB.out))) : w.heap.size ≤ gb217)); clear HB; have HB := n0_; have BK217 := n1_; have GW217 := n2_; have GE217 := n3_; clear n0_ n1_ n2_ n3_; clear hb hbox hg) | ((with_reducible refine gate_dst (N := 4) rfl ?_); refine box_event ?hg (N := 4) ?hd (cs := #[.int .i64 0, .int .u64 0]) (t := 88) ?hr ?_; (case hd => rfl); (case hg => rfl); (case hr => first | (go_simp; done) | (go_simp; rfl)); intro gb218 hg w6 hbox hb; have n0_ := Aside0.mk (bbe (g := gb217) (o := .cells #[.string a0_0, .slice A0_1 l0_1.length c0_1, .slice A0_2 l0_2.length c0_2] 25 (0, 0)) (by (with_reducible repeat (first | refine bkn ?_ _ | refine bkd ?_ | refine bka ?_ _)); exact BK217.out) hb); have n1_ := Aside0.mk (bsp (by repeat (first | (with_reducible first | exact HB.out | apply bal | apply pbN | apply bd1 | refine bst ?_ GE217.out) | exact HB.out)) hb); have n2_ := Aside0.mk (hbox); have n3_ := Aside0.mk ((by rw [hg]; exact (bsz (by repeat (first | (with_reducible first | exact HB.out | apply bal | apply pbN | apply bd1 | refine bst ?_ GE217.out) | exact HB.out))) : w.heap.size ≤ gb218)); have n4_ := Aside0.mk ((by rw [hg]; exact (bsz (by repeat (first | (with_reducible first | exact HB.out | apply bal | apply pbN | apply bd1 | refine bst ?_ GE217.out) | exact HB.out))) : w.heap.size ≤ gb218)); have n5_ := Aside0.mk ((by rw [hg]; exact Nat.ne_of_lt (blk_lt (g := gb217) (o := .cells #[.string a0_0, .slice A0_1 l0_1.length c0_1, .slice A0_2 l0_2.length c0_2] 25 (0, 0)) (by (with_reducible repeat (first | refine bkn ?_ _ | refine bkd ?_ | refine bka ?_ _)); exact BK217.out)) : gb217 ≠ gb218)); have n6_ := Aside0.mk ((by rw [hg]; exact Nat.ne_of_gt (blk_lt (g := gb217) (o := .cells #[.string a0_0, .slice A0_1 l0_1.length c0_1, .slice A0_2 l0_2.length c0_2] 25 (0, 0)) (by (with_reducible repeat (first | refine bkn ?_ _ | refine bkd ?_ | refine bka ?_ _)); exact BK217.out)) : gb218 ≠ gb217)); clear BK217; clear HB; have BK217 := n0_; have HB := n1_; have BK218 := n2_; have GW218 := n3_; have GE218 := n4_; have NB217_218 := n5_; have NB218_217 := n6_; clear n0_ n1_ n2_ n3_ n4_ n5_ n6_; clear hb hbox hg; have hnb7 := NB217_218.out; have hnc7 := NB218_217.out; have hcz8_0 : w6.cell? ⟨gb217, 0, none⟩ = some (.string a0_0) := (bce BK217.out 0).trans rfl; have hcz8_1 : w6.cell? ⟨gb217, 1, none⟩ = some (.slice A0_1 l0_1.length c0_1) := (bce BK217.out 1).trans rfl; have hcz8_2 : w6.cell? ⟨gb217, 2, none⟩ = some (.slice A0_2 l0_2.length c0_2) := (bce BK217.out 2).trans rfl; have hfz8_0 := bfz BK217.out 0; have hfz8_1 := bfz BK217.out 1; have hfz8_2 := bfz BK217.out 2) | ((with_reducible refine gate_callee (f := 28) rfl ?_); refine goesL_ (some 13) rfl rfl Tryz.func28 (by kernel_rfl) rfl #[.agg #[.string a0_0, .slice A0_1 l0_1.length c0_1, .slice A0_2 l0_2.length c0_2], .int .i64 a1] rfl (by (try simp only [List.map_toArray, List.map_cons, List.map_nil]); first | done | rfl | (simp only [List.length_drop, List.length_take]; rfl)) ?_; (with_reducible refine (remontoirref18_Kind.calls a0_0 _ _ l0_1 _ _ l0_2 a1 t219 _ ?side1 ?side2 ?side3 ?side4 A3.out).mono ?_); (case side1 => repeat (first | exact (Kd.C_below HR0_1.out HB.out) | (with_reducible refine Kd.C_alloc ?_ _) | (with_reducible refine Kd.C_drewN ?_ _) | (with_reducible refine Kd.C_drew ?_))); (case side2 => exact HC0_1.out); (case side3 => repeat (first | exact (Kd.C_below HR0_2.out HB.out) | (with_reducible refine Kd.C_alloc ?_ _) | (with_reducible refine Kd.C_drewN ?_ _) | (with_reducible refine Kd.C_drew ?_))); (case side4 => exact HC0_2.out); rintro e w9 ⟨rfl, hb⟩; refine ⟨_, rfl, ?_⟩; have n0_ := Aside0.mk (bbe (g := gb217) (o := .cells #[.string a0_0, .slice A0_1 l0_1.length c0_1, .slice A0_2 l0_2.length c0_2] 25 (0, 0)) (by (with_reducible repeat (first | refine bkn ?_ _ | refine bkd ?_ | refine bka ?_ _)); exact BK217.out) hb); have n1_ := Aside0.mk (bbe (g := gb218) (o := .cells #[.int .i64 0, .int .u64 0] 88 (0, 0)) (by (with_reducible repeat (first | refine bkn ?_ _ | refine bkd ?_ | refine bka ?_ _)); exact BK218.out) hb); have n2_ := Aside0.mk (bsp (by repeat (first | (with_reducible first | exact HB.out | apply bal | apply pbN | apply bd1 | refine bst ?_ GE217.out | refine bst ?_ GE218.out) | exact HB.out)) hb); clear BK217; clear BK218; clear HB; have BK217 := n0_; have BK218 := n1_; have HB := n2_; clear n0_ n1_ n2_; (try clear hb); (try clear hb2); (try clear hk); (try clear hi)))
 (try simp only [Act.put, List.setIfInBounds_toArray, List.set_cons_zero, List.set_cons_succ])
 go_cut [23] (fun v23 wc => ∃ (kq : Nat) (x23_3 : Bool), v23 = .bool x23_3 ∧ Aside0 (remontoirref18_Time.j0 kq a1 t219 x23_3 a0_0 l0_1 l0_2 = some (r1, r2, r3)) ∧ Aside0 (kq ≤ k) ∧ Aside0 (wc.heap[gb217]? = some (.cells #[.string a0_0, (.slice A0_1 l0_1.length c0_1), (.slice A0_2 l0_2.length c0_2)] 25 (0, 0))) ∧ Aside0 (wc.heap[gb218]? = some (.cells #[.int .i64 0, .int .u64 0] 88 (0, 0))) ∧ Aside0 (Below w.heap.size w wc))
 case first =>
  have H := HC4.out
  clear HC4
  by_cases c10 : t219 = 4
  ·rw [if_pos c10] at H
   have c10b0 : (t219 == 4) = true := beq_iff_eq.mpr c10
   have c10b1 : (t219 != 4) = false := bne_eq_false_iff_eq.mpr c10
   clear c10
   (first | rw [c10b0] | (simp only [i64_w, i32_w]; rw [c10b0]) | skip)
   have H' := Aside0.mk H
   clear H
   go_wp2
   go_meet
   case rel => exact ⟨_, (false), (by first | rfl | (simp; done) | (simp [*]; done)), H', ⟨by first | omega | exact Nat.le_refl _⟩, ⟨by (with_reducible repeat (first | refine bkn ?_ _ | refine bkd ?_ | refine bka ?_ _)); exact BK217.out⟩, ⟨by (with_reducible repeat (first | refine bkn ?_ _ | refine bkd ?_ | refine bka ?_ _)); exact BK218.out⟩, ⟨by repeat (first | (with_reducible first | exact HB.out | apply bal | apply pbN | apply bd1 | refine bst ?_ GE217.out | refine bst ?_ GE218.out) | exact HB.out)⟩⟩
  ·rw [if_neg c10] at H
   have c10b0 : (t219 == 4) = false := beq_eq_false_iff_ne.mpr c10
   have c10b1 : (t219 != 4) = true := bne_iff_ne.mpr c10
   (first | rw [c10b0] | (simp only [i64_w, i32_w]; rw [c10b0]) | skip)
   by_cases c11 : t219 = 8
   ·rw [if_pos c11] at H
    have c11b0 : (t219 == 8) = true := beq_iff_eq.mpr c11
    have c11b1 : (t219 != 8) = false := bne_eq_false_iff_eq.mpr c11
    clear c11
    have H' := Aside0.mk H
    clear H
    go_wp2
    go_meet
    case rel => exact ⟨_, (false), (by first | rfl | (simp; done) | (simp [*]; done)), H', ⟨by first | omega | exact Nat.le_refl _⟩, ⟨by (with_reducible repeat (first | refine bkn ?_ _ | refine bkd ?_ | refine bka ?_ _)); exact BK217.out⟩, ⟨by (with_reducible repeat (first | refine bkn ?_ _ | refine bkd ?_ | refine bka ?_ _)); exact BK218.out⟩, ⟨by repeat (first | (with_reducible first | exact HB.out | apply bal | apply pbN | apply bd1 | refine bst ?_ GE217.out | refine bst ?_ GE218.out) | exact HB.out)⟩⟩
   ·rw [if_neg c11] at H
    have c11b0 : (t219 == 8) = false := beq_eq_false_iff_ne.mpr c11
    have c11b1 : (t219 != 8) = true := bne_iff_ne.mpr c11
    have H' := Aside0.mk H
    clear H
    go_wp2
    go_meet
    case rel => exact ⟨_, ((t219 != 9)), (by first | rfl | (simp; done) | (simp [*]; done)), H', ⟨by first | omega | exact Nat.le_refl _⟩, ⟨by (with_reducible repeat (first | refine bkn ?_ _ | refine bkd ?_ | refine bka ?_ _)); exact BK217.out⟩, ⟨by (with_reducible repeat (first | refine bkn ?_ _ | refine bkd ?_ | refine bka ?_ _)); exact BK218.out⟩, ⟨by repeat (first | (with_reducible first | exact HB.out | apply bal | apply pbN | apply bd1 | refine bst ?_ GE217.out | refine bst ?_ GE218.out) | exact HB.out)⟩⟩
 case rest =>
  clear HC4
  try clear c1
  try clear c2
  try clear p2
  try clear c4
  try clear c7
  try clear c10
  try clear c10b0
  try clear c10b1
  try clear c11
  try clear c11b0
  try clear c11b1
  try clear hcz8_0
  try clear hcz8_1
  try clear hcz8_2
  try clear hfz8_0
  try clear hfz8_1
  try clear hfz8_2
  obtain ⟨kq, x23_3, rfl, HA, HJ3, BK217, BK218, HB⟩ := hcut
  cases kq with
  | zero => exact absurd HA.out (by simp [remontoirref18_Time.j0])
  | succ kj3 =>
   have H := HA.out
   clear HA
   simp only [remontoirref18_Time.j0] at H
   by_cases c12 : x23_3 = true
   ·subst c12
    have H1 : (some (0, 0, false)) = some (r1, r2, r3) := by rw [if_pos rfl] at H; exact H
    clear H
    have H := H1
    clear H1
    simp only [Option.some.injEq, Prod.mk.injEq] at H
    obtain ⟨rfl, rfl, rfl⟩ := H
    have hnb13 := NB218_217.out
    have hnc13 := NB217_218.out
    have hcz14_0 : wc.cell? ⟨gb218, 0, none⟩ = some (.int .i64 0) := (bce BK218.out 0).trans rfl
    have hcz14_1 : wc.cell? ⟨gb218, 1, none⟩ = some (.int .u64 0) := (bce BK218.out 1).trans rfl
    have hfz14_0 := bfz BK218.out 0
    have hfz14_1 := bfz BK218.out 1
    go_wp2
    refine bodyPost_ret (results_ct rfl _ _ gb218 88 #[.int .i64 0, .int .u64 0] (0, 0) _ rfl (by (with_reducible repeat (first | refine bkn ?_ _ | refine bkd ?_ | refine bka ?_ _)); refine blk_put (cs := #[.int .i64 0, .int .u64 0]) ?_ 1 _ rfl; (with_reducible repeat (first | refine bkn ?_ _ | refine bkd ?_ | refine bka ?_ _)); refine blk_put (cs := #[.int .i64 0, .int .u64 0]) ?_ 0 _ rfl; (with_reducible repeat (first | refine bkn ?_ _ | refine bkd ?_ | refine bka ?_ _)); exact BK218.out) Tryz.underlying88 rfl (by kernel_rfl)) rfl ?_
    exact ⟨by first | rfl | (simp [errW_none, errW_some] <;> rfl) | (simp [*, errW_none, errW_some] <;> rfl), by repeat (first | (with_reducible first | exact HB.out | apply bal | apply pbN | apply bd1 | refine bst ?_ GE217.out | refine bst ?_ GE218.out) | exact HB.out)⟩
   ·replace c12 := Bool.eq_false_iff.mpr c12
    subst c12
    have H1 : (if 0 ≤ (wrap64 (a1 - 1)) then (if (wrap64 (a1 - 1)) < (l0_1.length : Int) then ((remontoirref18_once.f kj3 ((rd_T86 l0_1 (wrap64 (a1 - 1))).f4)).bind fun bt221 => (if bt221.2.2 = true then (remontoirref18_Time.j1 kj3 ((rd_T86 l0_1 (wrap64 (a1 - 1))).f4) bt221.2.2 true bt221.1 bt221.2.1) else (remontoirref18_Time.j1 kj3 ((rd_T86 l0_1 (wrap64 (a1 - 1))).f4) bt221.2.2 (t219 != 9) bt221.1 bt221.2.1))) else (none)) else (none)) = some (r1, r2, r3) := by rw [if_neg (show ¬ (false = true) by decide)] at H; exact H
    clear H
    have H := H1
    clear H1
    obtain ⟨ji15, hji15⟩ : ∃ j_ : Int, (wrap64 (a1 - 1)) = j_ := ⟨_, rfl⟩
    replace H : (if 0 ≤ (ji15) then (if (ji15) < (l0_1.length : Int) then ((remontoirref18_once.f kj3 ((rd_T86 l0_1 (ji15)).f4)).bind fun bt221 => (if bt221.2.2 = true then (remontoirref18_Time.j1 kj3 ((rd_T86 l0_1 (ji15)).f4) bt221.2.2 true bt221.1 bt221.2.1) else (remontoirref18_Time.j1 kj3 ((rd_T86 l0_1 (ji15)).f4) bt221.2.2 (t219 != 9) bt221.1 bt221.2.1))) else (none)) else (none)) = some (r1, r2, r3) := by first | (rw [hji15] at H; exact H) | (simp only [hji15] at H ⊢; exact H)
    have hji15w : (IntKind.i64.wrap (a1 - 1)) = ji15 := (i64_w _).trans hji15
    by_cases c16 : 0 ≤ (ji15)
    ·rw [if_pos c16] at H
     have c16b0 : decide (0 ≤ (ji15)) = true := decide_eq_true c16
     clear c16
     by_cases c17 : (ji15) < (l0_1.length : Int)
     ·rw [if_pos c17] at H
      have c17b0 : decide ((ji15) < (l0_1.length : Int)) = true := decide_eq_true c17
      clear c17
      replace H := Option.bind_eq_some_iff.mp H
      obtain ⟨⟨t221, t222, t223⟩, A180, H⟩ := H
      replace H : (if t223 = true then (remontoirref18_Time.j1 kj3 ((rd_T86 l0_1 (ji15)).f4) t223 true t221 t222) else (remontoirref18_Time.j1 kj3 ((rd_T86 l0_1 (ji15)).f4) t223 (t219 != 9) t221 t222)) = some (r1, r2, r3) := H
      have A18 := Aside0.mk A180
      clear A180
      have HC19 := Aside0.mk H
      clear H
      have hnb20 := NB217_218.out
      have hnc20 := NB218_217.out
      have hcz21_0 : wc.cell? ⟨gb217, 0, none⟩ = some (.string a0_0) := (bce BK217.out 0).trans rfl
      have hcz21_1 : wc.cell? ⟨gb217, 1, none⟩ = some (.slice A0_1 l0_1.length c0_1) := (bce BK217.out 1).trans rfl
      have hcz21_2 : wc.cell? ⟨gb217, 2, none⟩ = some (.slice A0_2 l0_2.length c0_2) := (bce BK217.out 2).trans rfl
      have hfz21_0 := bfz BK217.out 0
      have hfz21_1 := bfz BK217.out 1
      have hfz21_2 := bfz BK217.out 2
      have p220 : 0 ≤ ((ji15) : Int) := of_decide_eq_true (by first | (with_reducible assumption) | assumption)
      have q220 : (ji15) < (l0_1.length : Int) := of_decide_eq_true (by first | (with_reducible assumption) | assumption)
      obtain ⟨ad220, e220, hx220_0, hx220_1, hx220_2, hx220_3, hx220_4⟩ := at_T86 HR0_1.out (ji15) p220 q220
      cases e220
      replace hx220_0 := (HB.out.cell (World.block_lt_of_cell? w _ hx220_0)).trans hx220_0
      replace hx220_1 := (HB.out.cell (World.block_lt_of_cell? w _ hx220_1)).trans hx220_1
      replace hx220_2 := (HB.out.cell (World.block_lt_of_cell? w _ hx220_2)).trans hx220_2
      replace hx220_3 := (HB.out.cell (World.block_lt_of_cell? w _ hx220_3)).trans hx220_3
      replace hx220_4 := (HB.out.cell (World.block_lt_of_cell? w _ hx220_4)).trans hx220_4
      replace p220 := eq_true p220
      replace q220 := eq_true q220
      go_upto_region 6 with (first | ((with_reducible refine gate_callee (f := 69) rfl ?_); refine goesL_ (some 34) rfl rfl Tryz.func69 (by kernel_rfl) rfl #[.string ((rd_T86 l0_1 (ji15)).f4)] rfl (by (try simp only [List.map_toArray, List.map_cons, List.map_nil]); first | done | (simp only [hji15]; rfl) | rfl | (simp only [List.length_drop, List.length_take]; rfl)) ?_; (with_reducible refine (remontoirref18_once.calls kj3 ((rd_T86 l0_1 (ji15)).f4) t221 t222 t223 _ A18.out).mono ?_); rintro e w22 ⟨rfl, hb⟩; refine ⟨_, rfl, ?_⟩; have n0_ := Aside0.mk (bbe (g := gb217) (o := .cells #[.string a0_0, .slice (some ad220) l0_1.length c0_1, .slice A0_2 l0_2.length c0_2] 25 (0, 0)) (by (with_reducible repeat (first | refine bkn ?_ _ | refine bkd ?_ | refine bka ?_ _)); exact BK217.out) hb); have n1_ := Aside0.mk (bbe (g := gb218) (o := .cells #[.int .i64 0, .int .u64 0] 88 (0, 0)) (by (with_reducible repeat (first | refine bkn ?_ _ | refine bkd ?_ | refine bka ?_ _)); exact BK218.out) hb); have n2_ := Aside0.mk (bsp (by repeat (first | (with_reducible first | exact HB.out | apply bal | apply pbN | apply bd1 | refine bst ?_ GE217.out | refine bst ?_ GE218.out) | exact HB.out)) hb); clear BK217; clear BK218; clear HB; have BK217 := n0_; have BK218 := n1_; have HB := n2_; clear n0_ n1_ n2_; (try clear hb); (try clear hb2); (try clear hk); (try clear hi)) | ((with_reducible refine gate_dst (N := 8) rfl ?_); refine box_event ?hg (N := 8) ?hd (cs := #[.int .i64 0, .int .u64 0]) (t := 88) ?hr ?_; (case hd => rfl); (case hg => rfl); (case hr => first | (go_simp; done) | (go_simp; rfl)); intro gb224 hg w23 hbox hb; have n0_ := Aside0.mk (bbe (g := gb217) (o := .cells #[.string a0_0, .slice (some ad220) l0_1.length c0_1, .slice A0_2 l0_2.length c0_2] 25 (0, 0)) (by (with_reducible repeat (first | refine bkn ?_ _ | refine bkd ?_ | refine bka ?_ _)); exact BK217.out) hb); have n1_ := Aside0.mk (bbe (g := gb218) (o := .cells #[.int .i64 0, .int .u64 0] 88 (0, 0)) (by (with_reducible repeat (first | refine bkn ?_ _ | refine bkd ?_ | refine bka ?_ _)); exact BK218.out) hb); have n2_ := Aside0.mk (bsp (by repeat (first | (with_reducible first | exact HB.out | apply bal | apply pbN | apply bd1 | refine bst ?_ GE217.out | refine bst ?_ GE218.out) | exact HB.out)) hb); have n3_ := Aside0.mk (hbox); have n4_ := Aside0.mk ((by rw [hg]; exact (bsz (by repeat (first | (with_reducible first | exact HB.out | apply bal | apply pbN | apply bd1 | refine bst ?_ GE217.out | refine bst ?_ GE218.out) | exact HB.out))) : w.heap.size ≤ gb224)); have n5_ := Aside0.mk ((by rw [hg]; exact (bsz (by repeat (first | (with_reducible first | exact HB.out | apply bal | apply pbN | apply bd1 | refine bst ?_ GE217.out | refine bst ?_ GE218.out) | exact HB.out))) : w.heap.size ≤ gb224)); have n6_ := Aside0.mk ((by rw [hg]; exact Nat.ne_of_lt (blk_lt (g := gb217) (o := .cells #[.string a0_0, .slice (some ad220) l0_1.length c0_1, .slice A0_2 l0_2.length c0_2] 25 (0, 0)) (by (with_reducible repeat (first | refine bkn ?_ _ | refine bkd ?_ | refine bka ?_ _)); exact BK217.out)) : gb217 ≠ gb224)); have n7_ := Aside0.mk ((by rw [hg]; exact Nat.ne_of_gt (blk_lt (g := gb217) (o := .cells #[.string a0_0, .slice (some ad220) l0_1.length c0_1, .slice A0_2 l0_2.length c0_2] 25 (0, 0)) (by (with_reducible repeat (first | refine bkn ?_ _ | refine bkd ?_ | refine bka ?_ _)); exact BK217.out)) : gb224 ≠ gb217)); have n8_ := Aside0.mk ((by rw [hg]; exact Nat.ne_of_lt (blk_lt (g := gb218) (o := .cells #[.int .i64 0, .int .u64 0] 88 (0, 0)) (by (with_reducible repeat (first | refine bkn ?_ _ | refine bkd ?_ | refine bka ?_ _)); exact BK218.out)) : gb218 ≠ gb224)); have n9_ := Aside0.mk ((by rw [hg]; exact Nat.ne_of_gt (blk_lt (g := gb218) (o := .cells #[.int .i64 0, .int .u64 0] 88 (0, 0)) (by (with_reducible repeat (first | refine bkn ?_ _ | refine bkd ?_ | refine bka ?_ _)); exact BK218.out)) : gb224 ≠ gb218)); clear BK217; clear BK218; clear HB; have BK217 := n0_; have BK218 := n1_; have HB := n2_; have BK224 := n3_; have GW224 := n4_; have GE224 := n5_; have NB217_224 := n6_; have NB224_217 := n7_; have NB218_224 := n8_; have NB224_218 := n9_; clear n0_ n1_ n2_ n3_ n4_ n5_ n6_ n7_ n8_ n9_; clear hb hbox hg; have hnb24 := NB224_217.out; have hnc24 := NB217_224.out; have hnb25 := NB224_218.out; have hnc25 := NB218_224.out; have hcz26_0 : w23.cell? ⟨gb224, 0, none⟩ = some (.int .i64 0) := (bce BK224.out 0).trans rfl; have hcz26_1 : w23.cell? ⟨gb224, 1, none⟩ = some (.int .u64 0) := (bce BK224.out 1).trans rfl; have hfz26_0 := bfz BK224.out 0; have hfz26_1 := bfz BK224.out 1))
      (try simp only [Act.put, List.setIfInBounds_toArray, List.set_cons_zero, List.set_cons_succ])
      go_cut [41] (fun v41 wc => ∃ (kq : Nat) (x41_18 : Bool), v41 = .bool x41_18 ∧ Aside0 (remontoirref18_Time.j1 kq ((rd_T86 l0_1 (ji15)).f4) t223 x41_18 t221 t222 = some (r1, r2, r3)) ∧ Aside0 (kq ≤ kj3) ∧ Aside0 (wc.heap[gb217]? = some (.cells #[.string a0_0, (.slice (some ad220) l0_1.length c0_1), (.slice A0_2 l0_2.length c0_2)] 25 (0, 0))) ∧ Aside0 (wc.heap[gb218]? = some (.cells #[.int .i64 0, .int .u64 0] 88 (0, 0))) ∧ Aside0 (wc.heap[gb224]? = some (.cells #[.int .i64 t221, .int .u64 t222] 88 (0, 0))) ∧ Aside0 (Below w.heap.size w wc))
      case first =>
       have H := HC19.out
       clear HC19
       by_cases c27 : t223 = true
       ·subst c27
        have H1 : (remontoirref18_Time.j1 kj3 ((rd_T86 l0_1 (ji15)).f4) true true t221 t222) = some (r1, r2, r3) := by rw [if_pos rfl] at H; exact H
        clear H
        have H := H1
        clear H1
        have H' := Aside0.mk H
        clear H
        go_wp2
        go_meet
        case rel => exact ⟨_, (true), (by first | rfl | (simp; done) | (simp [*]; done)), H', ⟨by have := HJ3.out; first | omega | exact Nat.le_refl _⟩, ⟨by (with_reducible repeat (first | refine bkn ?_ _ | refine bkd ?_ | refine bka ?_ _)); refine blk_far ?_ NB217_224.out _; (with_reducible repeat (first | refine bkn ?_ _ | refine bkd ?_ | refine bka ?_ _)); refine blk_far ?_ NB217_224.out _; (with_reducible repeat (first | refine bkn ?_ _ | refine bkd ?_ | refine bka ?_ _)); exact BK217.out⟩, ⟨by (with_reducible repeat (first | refine bkn ?_ _ | refine bkd ?_ | refine bka ?_ _)); refine blk_far ?_ NB218_224.out _; (with_reducible repeat (first | refine bkn ?_ _ | refine bkd ?_ | refine bka ?_ _)); refine blk_far ?_ NB218_224.out _; (with_reducible repeat (first | refine bkn ?_ _ | refine bkd ?_ | refine bka ?_ _)); exact BK218.out⟩, ⟨by (with_reducible repeat (first | refine bkn ?_ _ | refine bkd ?_ | refine bka ?_ _)); refine blk_put (cs := #[.int .i64 t221, .int .u64 0]) ?_ 1 _ rfl; (with_reducible repeat (first | refine bkn ?_ _ | refine bkd ?_ | refine bka ?_ _)); refine blk_put (cs := #[.int .i64 0, .int .u64 0]) ?_ 0 _ rfl; (with_reducible repeat (first | refine bkn ?_ _ | refine bkd ?_ | refine bka ?_ _)); exact BK224.out⟩, ⟨by repeat (first | (with_reducible first | exact HB.out | apply bal | apply pbN | apply bd1 | refine bst ?_ GE217.out | refine bst ?_ GE218.out | refine bst ?_ GE224.out) | exact HB.out)⟩⟩
       ·replace c27 := Bool.eq_false_iff.mpr c27
        subst c27
        have H1 : (remontoirref18_Time.j1 kj3 ((rd_T86 l0_1 (ji15)).f4) false (t219 != 9) t221 t222) = some (r1, r2, r3) := by rw [if_neg (show ¬ (false = true) by decide)] at H; exact H
        clear H
        have H := H1
        clear H1
        have H' := Aside0.mk H
        clear H
        go_wp2
        go_meet
        case rel => exact ⟨_, ((t219 != 9)), (by first | rfl | (simp; done) | (simp [*]; done)), H', ⟨by have := HJ3.out; first | omega | exact Nat.le_refl _⟩, ⟨by (with_reducible repeat (first | refine bkn ?_ _ | refine bkd ?_ | refine bka ?_ _)); refine blk_far ?_ NB217_224.out _; (with_reducible repeat (first | refine bkn ?_ _ | refine bkd ?_ | refine bka ?_ _)); refine blk_far ?_ NB217_224.out _; (with_reducible repeat (first | refine bkn ?_ _ | refine bkd ?_ | refine bka ?_ _)); exact BK217.out⟩, ⟨by (with_reducible repeat (first | refine bkn ?_ _ | refine bkd ?_ | refine bka ?_ _)); refine blk_far ?_ NB218_224.out _; (with_reducible repeat (first | refine bkn ?_ _ | refine bkd ?_ | refine bka ?_ _)); refine blk_far ?_ NB218_224.out _; (with_reducible repeat (first | refine bkn ?_ _ | refine bkd ?_ | refine bka ?_ _)); exact BK218.out⟩, ⟨by (with_reducible repeat (first | refine bkn ?_ _ | refine bkd ?_ | refine bka ?_ _)); refine blk_put (cs := #[.int .i64 t221, .int .u64 0]) ?_ 1 _ rfl; (with_reducible repeat (first | refine bkn ?_ _ | refine bkd ?_ | refine bka ?_ _)); refine blk_put (cs := #[.int .i64 0, .int .u64 0]) ?_ 0 _ rfl; (with_reducible repeat (first | refine bkn ?_ _ | refine bkd ?_ | refine bka ?_ _)); exact BK224.out⟩, ⟨by repeat (first | (with_reducible first | exact HB.out | apply bal | apply pbN | apply bd1 | refine bst ?_ GE217.out | refine bst ?_ GE218.out | refine bst ?_ GE224.out) | exact HB.out)⟩⟩
      case rest =>
       clear HC19
       try clear c1
       try clear c2
       try clear p2
       try clear q2
       try clear hx2
       try clear c4
       try clear c6
       try clear p6
       try clear c7
       try clear c10
       try clear c10b0
       try clear c10b1
       try clear c11
       try clear c11b0
       try clear c11b1
       try clear c12
       try clear c13
       try clear c16
       try clear c16b0
       try clear c17
       try clear c17b0
       try clear c20
       try clear p22
       try clear q22
       try clear hx22
       try clear c24
       try clear c25
       try clear c27
       try clear hcz14_0
       try clear hcz14_1
       try clear hcz21_0
       try clear hcz21_1
       try clear hcz21_2
       try clear hcz26_0
       try clear hcz26_1
       try clear hcz8_0
       try clear hcz8_1
       try clear hcz8_2
       try clear hfz14_0
       try clear hfz14_1
       try clear hfz21_0
       try clear hfz21_1
       try clear hfz21_2
       try clear hfz26_0
       try clear hfz26_1
       try clear hfz8_0
       try clear hfz8_1
       try clear hfz8_2
       try clear hx220_0
       try clear hx220_1
       try clear hx220_2
       try clear hx220_3
       try clear hx220_4
       try clear p2
       try clear p220
       try clear q220
       obtain ⟨kq, x41_18, rfl, HA, HJ18, BK217, BK218, BK224, HB⟩ := hcut
       cases kq with
       | zero => exact absurd HA.out (by simp [remontoirref18_Time.j1])
       | succ kj18 =>
        have H := HA.out
        clear HA
        simp only [remontoirref18_Time.j1] at H
        by_cases c28 : x41_18 = true
        ·subst c28
         have H1 : (some (t221, t222, t223)) = some (r1, r2, r3) := by rw [if_pos rfl] at H; exact H
         clear H
         have H := H1
         clear H1
         simp only [Option.some.injEq, Prod.mk.injEq] at H
         obtain ⟨rfl, rfl, rfl⟩ := H
         have hnb29 := NB224_217.out
         have hnc29 := NB217_224.out
         have hnb30 := NB224_218.out
         have hnc30 := NB218_224.out
         have hcz31_0 : wc.cell? ⟨gb224, 0, none⟩ = some (.int .i64 t221) := (bce BK224.out 0).trans rfl
         have hcz31_1 : wc.cell? ⟨gb224, 1, none⟩ = some (.int .u64 t222) := (bce BK224.out 1).trans rfl
         have hfz31_0 := bfz BK224.out 0
         have hfz31_1 := bfz BK224.out 1
         have hnb32 := NB218_217.out
         have hnc32 := NB217_218.out
         have hcz33_0 : wc.cell? ⟨gb218, 0, none⟩ = some (.int .i64 0) := (bce BK218.out 0).trans rfl
         have hcz33_1 : wc.cell? ⟨gb218, 1, none⟩ = some (.int .u64 0) := (bce BK218.out 1).trans rfl
         have hfz33_0 := bfz BK218.out 0
         have hfz33_1 := bfz BK218.out 1
         go_wp2
         refine bodyPost_ret (results_ct rfl _ _ gb218 88 #[.int .i64 t221, .int .u64 t222] (0, 0) _ rfl (by (with_reducible repeat (first | refine bkn ?_ _ | refine bkd ?_ | refine bka ?_ _)); refine blk_put (cs := #[.int .i64 t221, .int .u64 0]) ?_ 1 _ rfl; (with_reducible repeat (first | refine bkn ?_ _ | refine bkd ?_ | refine bka ?_ _)); refine blk_put (cs := #[.int .i64 0, .int .u64 0]) ?_ 0 _ rfl; (with_reducible repeat (first | refine bkn ?_ _ | refine bkd ?_ | refine bka ?_ _)); exact BK218.out) Tryz.underlying88 rfl (by kernel_rfl)) rfl ?_
         exact ⟨by first | rfl | (simp [errW_none, errW_some] <;> rfl) | (simp only [← hji15]; first | rfl | (simp [errW_none, errW_some] <;> rfl)) | (simp [*, errW_none, errW_some] <;> rfl), by repeat (first | (with_reducible first | exact HB.out | apply bal | apply pbN | apply bd1 | refine bst ?_ GE217.out | refine bst ?_ GE218.out | refine bst ?_ GE224.out) | exact HB.out)⟩
        ·replace c28 := Bool.eq_false_iff.mpr c28
         subst c28
         have H1 : ((remontoirref03_Parse.f kj18 ((rd_T86 l0_1 (ji15)).f4)).bind fun bt225 => (if bt225.2.2 = 0 then (if bt225.1 > 9 then (some (0, 0, false)) else (some (bt225.1, bt225.2.1, true))) else (some (0, 0, false)))) = some (r1, r2, r3) := by rw [if_neg (show ¬ (false = true) by decide)] at H; exact H
         clear H
         have H := H1
         clear H1
         replace H := Option.bind_eq_some_iff.mp H
         obtain ⟨⟨t225, t226, t227⟩, A340, H⟩ := H
         replace H : (if t227 = 0 then (if t225 > 9 then (some (0, 0, false)) else (some (t225, t226, true))) else (some (0, 0, false))) = some (r1, r2, r3) := H
         have A34 := Aside0.mk A340
         clear A340
         by_cases c35 : t227 = 0
         ·rw [if_pos c35] at H
          have c35b0 : (t227 == 0) = true := beq_iff_eq.mpr c35
          have c35b1 : (t227 != 0) = false := bne_eq_false_iff_eq.mpr c35
          clear c35
          by_cases c36 : t225 > 9
          ·rw [if_pos c36] at H
           have c36b0 : decide (9 < t225) = true := decide_eq_true c36
           clear c36
           simp only [Option.some.injEq, Prod.mk.injEq] at H
           obtain ⟨rfl, rfl, rfl⟩ := H
           go_wp2_with (first | ((with_reducible refine gate_callee (f := 70) rfl ?_); refine goesL_ (some 46) rfl rfl Tryz.func70 (by kernel_rfl) rfl #[.string ((rd_T86 l0_1 (ji15)).f4)] rfl (by (try simp only [List.map_toArray, List.map_cons, List.map_nil]); first | done | (simp only [hji15]; rfl) | rfl | (simp only [List.length_drop, List.length_take]; rfl)) ?_; (with_reducible refine (remontoirref03_Parse.calls kj18 ((rd_T86 l0_1 (ji15)).f4) t225 t226 t227 _ A34.out).mono ?_); rintro e w37 ⟨rfl, hb⟩; refine ⟨_, rfl, ?_⟩; have n0_ := Aside0.mk (bbe (g := gb217) (o := .cells #[.string a0_0, .slice (some ad220) l0_1.length c0_1, .slice A0_2 l0_2.length c0_2] 25 (0, 0)) (by (with_reducible repeat (first | refine bkn ?_ _ | refine bkd ?_ | refine bka ?_ _)); exact BK217.out) hb); have n1_ := Aside0.mk (bbe (g := gb218) (o := .cells #[.int .i64 0, .int .u64 0] 88 (0, 0)) (by (with_reducible repeat (first | refine bkn ?_ _ | refine bkd ?_ | refine bka ?_ _)); exact BK218.out) hb); have n2_ := Aside0.mk (bbe (g := gb224) (o := .cells #[.int .i64 t221, .int .u64 t222] 88 (0, 0)) (by (with_reducible repeat (first | refine bkn ?_ _ | refine bkd ?_ | refine bka ?_ _)); exact BK224.out) hb); have n3_ := Aside0.mk (bsp (by repeat (first | (with_reducible first | exact HB.out | apply bal | apply pbN | apply bd1 | refine bst ?_ GE217.out | refine bst ?_ GE218.out | refine bst ?_ GE224.out) | exact HB.out)) hb); clear BK217; clear BK218; clear BK224; clear HB; have BK217 := n0_; have BK218 := n1_; have BK224 := n2_; have HB := n3_; clear n0_ n1_ n2_ n3_; (try clear hb); (try clear hb2); (try clear hk); (try clear hi); have hnb38 := NB224_217.out; have hnc38 := NB217_224.out; have hnb39 := NB224_218.out; have hnc39 := NB218_224.out; have hcz40_0 : w37.cell? ⟨gb224, 0, none⟩ = some (.int .i64 t221) := (bce BK224.out 0).trans rfl; have hcz40_1 : w37.cell? ⟨gb224, 1, none⟩ = some (.int .u64 t222) := (bce BK224.out 1).trans rfl; have hfz40_0 := bfz BK224.out 0; have hfz40_1 := bfz BK224.out 1; have hnb41 := NB218_217.out; have hnc41 := NB217_218.out; have hcz42_0 : w37.cell? ⟨gb218, 0, none⟩ = some (.int .i64 0) := (bce BK218.out 0).trans rfl; have hcz42_1 : w37.cell? ⟨gb218, 1, none⟩ = some (.int .u64 0) := (bce BK218.out 1).trans rfl; have hfz42_0 := bfz BK218.out 0; have hfz42_1 := bfz BK218.out 1))
           refine bodyPost_ret (results_ct rfl _ _ gb218 88 #[.int .i64 0, .int .u64 0] (0, 0) _ rfl (by (with_reducible repeat (first | refine bkn ?_ _ | refine bkd ?_ | refine bka ?_ _)); refine blk_put (cs := #[.int .i64 0, .int .u64 0]) ?_ 1 _ rfl; (with_reducible repeat (first | refine bkn ?_ _ | refine bkd ?_ | refine bka ?_ _)); refine blk_put (cs := #[.int .i64 0, .int .u64 0]) ?_ 0 _ rfl; (with_reducible repeat (first | refine bkn ?_ _ | refine bkd ?_ | refine bka ?_ _)); refine blk_far ?_ NB218_224.out _; (with_reducible repeat (first | refine bkn ?_ _ | refine bkd ?_ | refine bka ?_ _)); refine blk_far ?_ NB218_224.out _; (with_reducible repeat (first | refine bkn ?_ _ | refine bkd ?_ | refine bka ?_ _)); exact BK218.out) Tryz.underlying88 rfl (by kernel_rfl)) rfl ?_
           exact ⟨by first | rfl | (simp [errW_none, errW_some] <;> rfl) | (simp only [← hji15]; first | rfl | (simp [errW_none, errW_some] <;> rfl)) | (simp [*, errW_none, errW_some] <;> rfl), by repeat (first | (with_reducible first | exact HB.out | apply bal | apply pbN | apply bd1 | refine bst ?_ GE217.out | refine bst ?_ GE218.out | refine bst ?_ GE224.out) | exact HB.out)⟩
          ·rw [if_neg c36] at H
           have c36b0 : decide (9 < t225) = false := decide_eq_false c36
           clear c36
           simp only [Option.some.injEq, Prod.mk.injEq] at H
           obtain ⟨rfl, rfl, rfl⟩ := H
           go_wp2_with (first | ((with_reducible refine gate_callee (f := 70) rfl ?_); refine goesL_ (some 46) rfl rfl Tryz.func70 (by kernel_rfl) rfl #[.string ((rd_T86 l0_1 (ji15)).f4)] rfl (by (try simp only [List.map_toArray, List.map_cons, List.map_nil]); first | done | (simp only [hji15]; rfl) | rfl | (simp only [List.length_drop, List.length_take]; rfl)) ?_; (with_reducible refine (remontoirref03_Parse.calls kj18 ((rd_T86 l0_1 (ji15)).f4) t225 t226 t227 _ A34.out).mono ?_); rintro e w43 ⟨rfl, hb⟩; refine ⟨_, rfl, ?_⟩; have n0_ := Aside0.mk (bbe (g := gb217) (o := .cells #[.string a0_0, .slice (some ad220) l0_1.length c0_1, .slice A0_2 l0_2.length c0_2] 25 (0, 0)) (by (with_reducible repeat (first | refine bkn ?_ _ | refine bkd ?_ | refine bka ?_ _)); exact BK217.out) hb); have n1_ := Aside0.mk (bbe (g := gb218) (o := .cells #[.int .i64 0, .int .u64 0] 88 (0, 0)) (by (with_reducible repeat (first | refine bkn ?_ _ | refine bkd ?_ | refine bka ?_ _)); exact BK218.out) hb); have n2_ := Aside0.mk (bbe (g := gb224) (o := .cells #[.int .i64 t221, .int .u64 t222] 88 (0, 0)) (by (with_reducible repeat (first | refine bkn ?_ _ | refine bkd ?_ | refine bka ?_ _)); exact BK224.out) hb); have n3_ := Aside0.mk (bsp (by repeat (first | (with_reducible first | exact HB.out | apply bal | apply pbN | apply bd1 | refine bst ?_ GE217.out | refine bst ?_ GE218.out | refine bst ?_ GE224.out) | exact HB.out)) hb); clear BK217; clear BK218; clear BK224; clear HB; have BK217 := n0_; have BK218 := n1_; have BK224 := n2_; have HB := n3_; clear n0_ n1_ n2_ n3_; (try clear hb); (try clear hb2); (try clear hk); (try clear hi); have hnb44 := NB224_217.out; have hnc44 := NB217_224.out; have hnb45 := NB224_218.out; have hnc45 := NB218_224.out; have hcz46_0 : w43.cell? ⟨gb224, 0, none⟩ = some (.int .i64 t221) := (bce BK224.out 0).trans rfl; have hcz46_1 : w43.cell? ⟨gb224, 1, none⟩ = some (.int .u64 t222) := (bce BK224.out 1).trans rfl; have hfz46_0 := bfz BK224.out 0; have hfz46_1 := bfz BK224.out 1; have hnb47 := NB218_217.out; have hnc47 := NB217_218.out; have hcz48_0 : w43.cell? ⟨gb218, 0, none⟩ = some (.int .i64 0) := (bce BK218.out 0).trans rfl; have hcz48_1 : w43.cell? ⟨gb218, 1, none⟩ = some (.int .u64 0) := (bce BK218.out 1).trans rfl; have hfz48_0 := bfz BK218.out 0; have hfz48_1 := bfz BK218.out 1))
           refine bodyPost_ret (results_ct rfl _ _ gb218 88 #[.int .i64 t225, .int .u64 t226] (0, 0) _ rfl (by (with_reducible repeat (first | refine bkn ?_ _ | refine bkd ?_ | refine bka ?_ _)); refine blk_put (cs := #[.int .i64 t225, .int .u64 0]) ?_ 1 _ rfl; (with_reducible repeat (first | refine bkn ?_ _ | refine bkd ?_ | refine bka ?_ _)); refine blk_put (cs := #[.int .i64 0, .int .u64 0]) ?_ 0 _ rfl; (with_reducible repeat (first | refine bkn ?_ _ | refine bkd ?_ | refine bka ?_ _)); refine blk_far ?_ NB218_224.out _; (with_reducible repeat (first | refine bkn ?_ _ | refine bkd ?_ | refine bka ?_ _)); refine blk_far ?_ NB218_224.out _; (with_reducible repeat (first | refine bkn ?_ _ | refine bkd ?_ | refine bka ?_ _)); exact BK218.out) Tryz.underlying88 rfl (by kernel_rfl)) rfl ?_
           exact ⟨by first | rfl | (simp [errW_none, errW_some] <;> rfl) | (simp only [← hji15]; first | rfl | (simp [errW_none, errW_some] <;> rfl)) | (simp [*, errW_none, errW_some] <;> rfl), by repeat (first | (with_reducible first | exact HB.out | apply bal | apply pbN | apply bd1 | refine bst ?_ GE217.out | refine bst ?_ GE218.out | refine bst ?_ GE224.out) | exact HB.out)⟩
         ·rw [if_neg c35] at H
          have c35b0 : (t227 == 0) = false := beq_eq_false_iff_ne.mpr c35
          have c35b1 : (t227 != 0) = true := bne_iff_ne.mpr c35
          simp only [Option.some.injEq, Prod.mk.injEq] at H
          obtain ⟨rfl, rfl, rfl⟩ := H
          go_wp2_with (first | ((with_reducible refine gate_callee (f := 70) rfl ?_); refine goesL_ (some 46) rfl rfl Tryz.func70 (by kernel_rfl) rfl #[.string ((rd_T86 l0_1 (ji15)).f4)] rfl (by (try simp only [List.map_toArray, List.map_cons, List.map_nil]); first | done | (simp only [hji15]; rfl) | rfl | (simp only [List.length_drop, List.length_take]; rfl)) ?_; (with_reducible refine (remontoirref03_Parse.calls kj18 ((rd_T86 l0_1 (ji15)).f4) t225 t226 t227 _ A34.out).mono ?_); rintro e w49 ⟨rfl, hb⟩; refine ⟨_, rfl, ?_⟩; have n0_ := Aside0.mk (bbe (g := gb217) (o := .cells #[.string a0_0, .slice (some ad220) l0_1.length c0_1, .slice A0_2 l0_2.length c0_2] 25 (0, 0)) (by (with_reducible repeat (first | refine bkn ?_ _ | refine bkd ?_ | refine bka ?_ _)); exact BK217.out) hb); have n1_ := Aside0.mk (bbe (g := gb218) (o := .cells #[.int .i64 0, .int .u64 0] 88 (0, 0)) (by (with_reducible repeat (first | refine bkn ?_ _ | refine bkd ?_ | refine bka ?_ _)); exact BK218.out) hb); have n2_ := Aside0.mk (bbe (g := gb224) (o := .cells #[.int .i64 t221, .int .u64 t222] 88 (0, 0)) (by (with_reducible repeat (first | refine bkn ?_ _ | refine bkd ?_ | refine bka ?_ _)); exact BK224.out) hb); have n3_ := Aside0.mk (bsp (by repeat (first | (with_reducible first | exact HB.out | apply bal | apply pbN | apply bd1 | refine bst ?_ GE217.out | refine bst ?_ GE218.out | refine bst ?_ GE224.out) | exact HB.out)) hb); clear BK217; clear BK218; clear BK224; clear HB; have BK217 := n0_; have BK218 := n1_; have BK224 := n2_; have HB := n3_; clear n0_ n1_ n2_ n3_; (try clear hb); (try clear hb2); (try clear hk); (try clear hi); have hnb50 := NB224_217.out; have hnc50 := NB217_224.out; have hnb51 := NB224_218.out; have hnc51 := NB218_224.out; have hcz52_0 : w49.cell? ⟨gb224, 0, none⟩ = some (.int .i64 t221) := (bce BK224.out 0).trans rfl; have hcz52_1 : w49.cell? ⟨gb224, 1, none⟩ = some (.int .u64 t222) := (bce BK224.out 1).trans rfl; have hfz52_0 := bfz BK224.out 0; have hfz52_1 := bfz BK224.out 1; have hnb53 := NB218_217.out; have hnc53 := NB217_218.out; have hcz54_0 : w49.cell? ⟨gb218, 0, none⟩ = some (.int .i64 0) := (bce BK218.out 0).trans rfl; have hcz54_1 : w49.cell? ⟨gb218, 1, none⟩ = some (.int .u64 0) := (bce BK218.out 1).trans rfl; have hfz54_0 := bfz BK218.out 0; have hfz54_1 := bfz BK218.out 1))
          refine bodyPost_ret (results_ct rfl _ _ gb218 88 #[.int .i64 0, .int .u64 0] (0, 0) _ rfl (by (with_reducible repeat (first | refine bkn ?_ _ | refine bkd ?_ | refine bka ?_ _)); refine blk_put (cs := #[.int .i64 0, .int .u64 0]) ?_ 1 _ rfl; (with_reducible repeat (first | refine bkn ?_ _ | refine bkd ?_ | refine bka ?_ _)); refine blk_put (cs := #[.int .i64 0, .int .u64 0]) ?_ 0 _ rfl; (with_reducible repeat (first | refine bkn ?_ _ | refine bkd ?_ | refine bka ?_ _)); refine blk_far ?_ NB218_224.out _; (with_reducible repeat (first | refine bkn ?_ _ | refine bkd ?_ | refine bka ?_ _)); refine blk_far ?_ NB218_224.out _; (with_reducible repeat (first | refine bkn ?_ _ | refine bkd ?_ | refine bka ?_ _)); exact BK218.out) Tryz.underlying88 rfl (by kernel_rfl)) rfl ?_
          exact ⟨by first | rfl | (simp [errW_none, errW_some] <;> rfl) | (simp only [← hji15]; first | rfl | (simp [errW_none, errW_some] <;> rfl)) | (simp [*, errW_none, errW_some] <;> rfl), by repeat (first | (with_reducible first | exact HB.out | apply bal | apply pbN | apply bd1 | refine bst ?_ GE217.out | refine bst ?_ GE218.out | refine bst ?_ GE224.out) | exact HB.out)⟩
     ·rw [if_neg c17] at H
      exact absurd H (by simp)
    ·rw [if_neg c16] at H
     exact absurd H (by simp)

end Go.Proofs.YtdfkbiffdcfnpaaGreatDoor.H
-- Written by hp.py (a program of this session, over the kit's print.py), with hand-made contracts beside it.
namespace Go.Proofs.YtdfkbiffdcfnpaaGreatDoor.H
open Go.RowKit Go.Proofs.YtdfkbiffdcfnpaaGreatDoorW.PrintWords Go.Proofs.YtdfkbiffdcfnpaaGreatDoorW.PrintLast Go.Proofs.YtdfkbiffdcfnpaaGreatDoorW.PrintMore
attribute [local go_sem] max2_int min2_int max_two min_two max_three min_three max_four min_four   -- for this text's walks alone
set_option linter.unusedVariables false
set_option linter.unusedSimpArgs false

/-! ### remontoirref27_Of: function 14 -/
def remontoirref27_Of.l0 : Nat → List (S83) → List (S76) → Int → ByteArray → List (S86) → List (S51) → Option ((List (S76)))
  | 0, _, _, _, _, _, _ => none
  | k + 1, x1, x5, x6, x229000, x229001, x229002 => if x6 < (x1.length : Int) then (if 0 ≤ x6 then (if ((rd_T83 x1 x6).f0) = 2 then ((remontoirref18_Is.f x229000 x229001 x229002 ((rd_T83 x1 x6).f2)).bind fun t232 => (if t232 = true then (if 0 ≤ (wrap64 (((rd_T83 x1 x6).f2) - 1)) then (if (wrap64 (((rd_T83 x1 x6).f2) - 1)) < (x229001.length : Int) then (if x5.length < 3518437208883 then (remontoirref27_Of.l0 k x1 (x5 ++ [(⟨1, (rd_T83 x1 x6).f3, (rd_T83 x1 x6).f2, (rd_T86 x229001 (wrap64 (((rd_T83 x1 x6).f2) - 1))).f2, 0⟩ : S76)]) (wrap64 (x6 + 1)) x229000 x229001 x229002) else (none)) else (none)) else (none)) else (if x5.length < 3518437208883 then (remontoirref27_Of.l0 k x1 (x5 ++ [(⟨1, (rd_T83 x1 x6).f3, (rd_T83 x1 x6).f2, 0, 0⟩ : S76)]) (wrap64 (x6 + 1)) x229000 x229001 x229002) else (none)))) else (if ((rd_T83 x1 x6).f0) = 3 then ((remontoirref18_Time.f k x229000 x229001 x229002 ((rd_T83 x1 x6).f2)).bind fun bt240 => (if x5.length < 3518437208883 then (remontoirref27_Of.l0 k x1 (x5 ++ [(⟨2, (rd_T83 x1 x6).f3, (rd_T83 x1 x6).f2, 0, bt240.2.1⟩ : S76)]) (wrap64 (x6 + 1)) x229000 x229001 x229002) else (none))) else (if ((rd_T83 x1 x6).f0) = 4 then (if x5.length < 3518437208883 then (remontoirref27_Of.l0 k x1 (x5 ++ [(⟨3, (rd_T83 x1 x6).f3, 0, 0, 0⟩ : S76)]) (wrap64 (x6 + 1)) x229000 x229001 x229002) else (none)) else (remontoirref27_Of.l0 k x1 x5 (wrap64 (x6 + 1)) x229000 x229001 x229002)))) else (none)) else (some x5)
def remontoirref27_Of.f (k : Nat) (a0_0 : ByteArray) (l0_1 : List (S86)) (l0_2 : List (S51)) (l1 : List (S83)) : Option ((List (S76))) := remontoirref27_Of.l0 k l1 ([] : List (S76)) 0 a0_0 l0_1 l0_2
theorem remontoirref27_Of.mono_l : ∀ k, (∀ y0 y1 y2 y3 y4 y5, LeO (remontoirref27_Of.l0 k y0 y1 y2 y3 y4 y5) (remontoirref27_Of.l0 (k + 1) y0 y1 y2 y3 y4 y5))
  | 0 => fun _ _ _ _ _ _ r h => by simp [remontoirref27_Of.l0] at h
  | k + 1 => by
    have ih0 := remontoirref27_Of.mono_l k
    · intro y0 y1 y2 y3 y4 y5
      unfold remontoirref27_Of.l0
      repeat' first
      | (with_reducible exact ih0 _ _ _ _ _ _)
      | (with_reducible exact remontoirref18_Time.mono _ _ _ _ _)
      | (with_reducible exact LeO.refl _)
      | (with_reducible exact LeO.none _)
      | (with_reducible refine LeO.ite ?_ ?_)
      | (with_reducible refine LeO.bind ?_ (fun _ => ?_))
      | exact ih0 _ _ _ _ _ _
      | exact remontoirref18_Time.mono _ _ _ _ _
      | exact LeO.none _
      | refine LeO.ite ?_ ?_
      | refine LeO.bind ?_ (fun _ => ?_)
theorem remontoirref27_Of.mono : ∀ a0 a1 a2 a3 k, LeO (remontoirref27_Of.f k a0 a1 a2 a3) (remontoirref27_Of.f (k + 1) a0 a1 a2 a3) := by
  intro a0 a1 a2 a3 k
  have ih0 := remontoirref27_Of.mono_l k
  unfold remontoirref27_Of.f
  repeat' first
      | (with_reducible exact ih0 _ _ _ _ _ _)
      | (with_reducible exact remontoirref18_Time.mono _ _ _ _ _)
      | (with_reducible exact LeO.refl _)
      | (with_reducible exact LeO.none _)
      | (with_reducible refine LeO.ite ?_ ?_)
      | (with_reducible refine LeO.bind ?_ (fun _ => ?_))
      | exact ih0 _ _ _ _ _ _
      | exact remontoirref18_Time.mono _ _ _ _ _
      | exact LeO.none _
      | refine LeO.ite ?_ ?_
      | refine LeO.bind ?_ (fun _ => ?_)
set_option maxHeartbeats 8000000 in
set_option maxRecDepth 100000 in
theorem remontoirref27_Of.calls (k : Nat) (a0_0 : ByteArray) (A0_1 : Option Addr) (c0_1 : Nat) (l0_1 : List (S86)) (A0_2 : Option Addr) (c0_2 : Nat) (l0_2 : List (S51)) (A1 : Option Addr) (c1 : Nat) (l1 : List (S83)) (r : List (S76)) (w : World) (hr0_1 : Kd.C k86 w A0_1 l0_1.length l0_1) (hc0_1 : l0_1.length ≤ c0_1) (hr0_2 : Kd.C k51 w A0_2 l0_2.length l0_2) (hc0_2 : l0_2.length ≤ c0_2) (hr1 : Kd.C k83 w A1 l1.length l1) (hc1 : l1.length ≤ c1) (h : remontoirref27_Of.f k a0_0 l0_1 l0_2 l1 = some r) :
  Calls Tryz.prog 14 #[.agg #[.string a0_0, .slice A0_1 l0_1.length c0_1, .slice A0_2 l0_2.length c0_2], .slice A1 l1.length c1] w fun e w' => ∃ v0_ : Value, e = .returned (v0_) ∧ Kd.R k76 76 w' w.heap.size (fun _ => True) v0_ r ∧ Below w.heap.size w w' := by
 have hu25 := Tryz.underlying25
 have hu83 := Tryz.underlying83
 have hu76 := Tryz.underlying76
 have hu88 := Tryz.underlying88
 have HR0_1 := Aside0.mk hr0_1
 have HC0_1 := Aside0.mk hc0_1
 clear hr0_1 hc0_1
 have HR0_2 := Aside0.mk hr0_2
 have HC0_2 := Aside0.mk hc0_2
 clear hr0_2 hc0_2
 have HR1 := Aside0.mk hr1
 have HC1 := Aside0.mk hc1
 clear hr1 hc1
 have HB := Aside0.mk (Below.refl w.heap.size w)
 have H : (remontoirref27_Of.l0 k l1 ([] : List (S76)) 0 a0_0 l0_1 l0_2) = some r := h
 clear h
 have H' := Aside0.mk H
 clear H
 go_enter Tryz.func14, Tryz.ntmps14
 go_wp2_with (first | ((with_reducible refine gate_dst (N := 2) rfl ?_); refine box_event ?hg (N := 2) ?hd (cs := #[.string a0_0, .slice A0_1 l0_1.length c0_1, .slice A0_2 l0_2.length c0_2]) (t := 25) ?hr ?_; (case hd => rfl); (case hg => rfl); (case hr => first | (go_simp; done) | (go_simp; rfl)); intro gb228 hg w3 hbox hb; have n0_ := Aside0.mk (bsp (by repeat (first | (with_reducible first | exact HB.out | apply bal | apply pbN | apply bd1) | exact HB.out)) hb); have n1_ := Aside0.mk (hbox); have n2_ := Aside0.mk ((by rw [hg]; exact (bsz (by repeat (first | (with_reducible first | exact HB.out | apply bal | apply pbN | apply bd1) | exact HB.out))) : w.heap.size ≤ gb228)); have n3_ := Aside0.mk ((by rw [hg]; exact (bsz (by repeat (first | (with_reducible first | exact HB.out | apply bal | apply pbN | apply bd1) | exact HB.out))) : w.heap.size ≤ gb228)); clear HB; have HB := n0_; have BK228 := n1_; have GW228 := n2_; have GE228 := n3_; clear n0_ n1_ n2_ n3_; clear hb hbox hg))
 go_loopg [5, 6] k (fun kq v5 v6 w' => ∃ (x5_1 : List (S76)) (x6_1 : Int), v6 = .int .i64 x6_1 ∧ Aside0 (remontoirref27_Of.l0 kq l1 x5_1 x6_1 a0_0 l0_1 l0_2 = some r) ∧ Aside0 (kq ≤ k) ∧ Aside0 (Kd.R k76 76 w' w.heap.size (fun _ => True) v5 x5_1) ∧ Aside0 (w'.heap[gb228]? = some (.cells #[.string a0_0, (.slice A0_1 l0_1.length c0_1), (.slice A0_2 l0_2.length c0_2)] 25 (0, 0))) ∧ Aside0 (Below w.heap.size w w'))
 case atStart => exact ⟨(([] : List (S76))), (0), (by first | rfl | (simp; done) | (simp [*]; done)), H', ⟨Nat.le_refl _⟩, ⟨by first | exact Kd.R_nil _ _ _ _ _ | exact Kd.N_nil _ _ _ _ _ | exact Kd.V_nil _ _ _ _ _ | exact Kd.Q_nil _ _ _ _ _ | exact Kd.S_nil _ _ _ _ _⟩, ⟨by (with_reducible repeat (first | refine bkn ?_ _ | refine bkd ?_ | refine bka ?_ _)); exact BK228.out⟩, ⟨by repeat (first | (with_reducible first | exact HB.out | apply bal | apply pbN | apply bd1 | refine bst ?_ GE228.out) | exact HB.out)⟩⟩
 case round =>
  clear H'
  try clear c1
  try clear p2
  obtain ⟨x5_1, x6_1, rfl, HA, HK1, HO_5, BK228, HB⟩ := hrel
  cases gk with
  | zero => exact absurd HA.out (by simp [remontoirref27_Of.l0])
  | succ k1 =>
   have H := HA.out
   clear HA
   simp only [remontoirref27_Of.l0] at H
   by_cases c4 : x6_1 < (l1.length : Int)
   ·rw [if_pos c4] at H
    have c4b0 : decide (x6_1 < (l1.length : Int)) = true := decide_eq_true c4
    clear c4
    by_cases c5 : 0 ≤ x6_1
    ·rw [if_pos c5] at H
     have c5b0 : decide (0 ≤ x6_1) = true := decide_eq_true c5
     clear c5
     by_cases c6 : ((rd_T83 l1 x6_1).f0) = 2
     ·rw [if_pos c6] at H
      have c6b0 : (((rd_T83 l1 x6_1).f0) == 2) = true := beq_iff_eq.mpr c6
      have c6b1 : (((rd_T83 l1 x6_1).f0) != 2) = false := bne_eq_false_iff_eq.mpr c6
      clear c6
      replace H := Option.bind_eq_some_iff.mp H
      obtain ⟨t232, A70, H⟩ := H
      replace H : (if t232 = true then (if 0 ≤ (wrap64 (((rd_T83 l1 x6_1).f2) - 1)) then (if (wrap64 (((rd_T83 l1 x6_1).f2) - 1)) < (l0_1.length : Int) then (if x5_1.length < 3518437208883 then (remontoirref27_Of.l0 k1 l1 (x5_1 ++ [(⟨1, (rd_T83 l1 x6_1).f3, (rd_T83 l1 x6_1).f2, (rd_T86 l0_1 (wrap64 (((rd_T83 l1 x6_1).f2) - 1))).f2, 0⟩ : S76)]) (wrap64 (x6_1 + 1)) a0_0 l0_1 l0_2) else (none)) else (none)) else (none)) else (if x5_1.length < 3518437208883 then (remontoirref27_Of.l0 k1 l1 (x5_1 ++ [(⟨1, (rd_T83 l1 x6_1).f3, (rd_T83 l1 x6_1).f2, 0, 0⟩ : S76)]) (wrap64 (x6_1 + 1)) a0_0 l0_1 l0_2) else (none))) = some r := H
      have A7 := Aside0.mk A70
      clear A70
      by_cases c8 : t232 = true
      ·subst c8
       have H1 : (if 0 ≤ (wrap64 (((rd_T83 l1 x6_1).f2) - 1)) then (if (wrap64 (((rd_T83 l1 x6_1).f2) - 1)) < (l0_1.length : Int) then (if x5_1.length < 3518437208883 then (remontoirref27_Of.l0 k1 l1 (x5_1 ++ [(⟨1, (rd_T83 l1 x6_1).f3, (rd_T83 l1 x6_1).f2, (rd_T86 l0_1 (wrap64 (((rd_T83 l1 x6_1).f2) - 1))).f2, 0⟩ : S76)]) (wrap64 (x6_1 + 1)) a0_0 l0_1 l0_2) else (none)) else (none)) else (none)) = some r := by rw [if_pos rfl] at H; exact H
       clear H
       have H := H1
       clear H1
       obtain ⟨ji9, hji9⟩ : ∃ j_ : Int, (wrap64 (((rd_T83 l1 x6_1).f2) - 1)) = j_ := ⟨_, rfl⟩
       replace H : (if 0 ≤ (ji9) then (if (ji9) < (l0_1.length : Int) then (if x5_1.length < 3518437208883 then (remontoirref27_Of.l0 k1 l1 (x5_1 ++ [(⟨1, (rd_T83 l1 x6_1).f3, (rd_T83 l1 x6_1).f2, (rd_T86 l0_1 (ji9)).f2, 0⟩ : S76)]) (wrap64 (x6_1 + 1)) a0_0 l0_1 l0_2) else (none)) else (none)) else (none)) = some r := by first | (rw [hji9] at H; exact H) | (simp only [hji9] at H ⊢; exact H)
       (try rw [hji9] at A7)
       have hji9w : (IntKind.i64.wrap (((rd_T83 l1 x6_1).f2) - 1)) = ji9 := (i64_w _).trans hji9
       by_cases c10 : 0 ≤ (ji9)
       ·rw [if_pos c10] at H
        have c10b0 : decide (0 ≤ (ji9)) = true := decide_eq_true c10
        clear c10
        by_cases c11 : (ji9) < (l0_1.length : Int)
        ·rw [if_pos c11] at H
         have c11b0 : decide ((ji9) < (l0_1.length : Int)) = true := decide_eq_true c11
         clear c11
         by_cases c12 : x5_1.length < 3518437208883
         ·rw [if_pos c12] at H
          have LMc12 := Aside0.mk c12
          clear c12
          obtain ⟨y234, hy234⟩ : ∃ y_ : List (S76), y_ = (x5_1 ++ [(⟨1, (rd_T83 l1 x6_1).f3, (rd_T83 l1 x6_1).f2, (rd_T86 l0_1 (ji9)).f2, 0⟩ : S76)]) := ⟨_, rfl⟩
          replace H : (remontoirref27_Of.l0 k1 l1 y234 (wrap64 (x6_1 + 1)) a0_0 l0_1 l0_2) = some r := by first | (rw [hy234]; with_reducible exact H) | (have H2_ := (Option.bind_some _ _).symm.trans H; rw [hy234]; with_reducible exact H2_) | (have H2_ := (Option.bind_some _ _).symm.trans H; with_reducible exact H2_) | with_reducible exact H | (rw [hy234]; exact H) | exact H
          have Ny234 := Aside0.mk hy234
          clear hy234
          have H' := Aside0.mk H
          clear H
          have p229 : 0 ≤ (x6_1 : Int) := of_decide_eq_true (by first | (with_reducible assumption) | assumption)
          have q229 : x6_1 < (l1.length : Int) := of_decide_eq_true (by first | (with_reducible assumption) | assumption)
          obtain ⟨ad229, e229, hx229_0, hx229_1, hx229_2, hx229_3⟩ := at_T83 HR1.out x6_1 p229 q229
          cases e229
          replace hx229_0 := (HB.out.cell (World.block_lt_of_cell? w _ hx229_0)).trans hx229_0
          replace hx229_1 := (HB.out.cell (World.block_lt_of_cell? w _ hx229_1)).trans hx229_1
          replace hx229_2 := (HB.out.cell (World.block_lt_of_cell? w _ hx229_2)).trans hx229_2
          replace hx229_3 := (HB.out.cell (World.block_lt_of_cell? w _ hx229_3)).trans hx229_3
          replace p229 := eq_true p229
          replace q229 := eq_true q229
          go_wp2_with (first | ((with_reducible refine gate_dst (N := 7) rfl ?_); refine box_event ?hg (N := 7) ?hd (cs := #[.int .i64 0, .int .i64 0, .int .i64 0, .int .i64 0]) (t := 83) ?hr ?_; (case hd => rfl); (case hg => rfl); (case hr => first | (go_simp; done) | (go_simp; rfl)); intro gb230 hg w13 hbox hb; have n0_ := Aside0.mk (Kd.R_below (by (with_reducible repeat (first | apply Kd.R_alloc | apply Kd.R_drewN | apply Kd.R_drew)); exact HO_5.out) hb); have n1_ := Aside0.mk (bbe (g := gb228) (o := .cells #[.string a0_0, .slice A0_1 l0_1.length c0_1, .slice A0_2 l0_2.length c0_2] 25 (0, 0)) (by (with_reducible repeat (first | refine bkn ?_ _ | refine bkd ?_ | refine bka ?_ _)); exact BK228.out) hb); have n2_ := Aside0.mk (bsp (by repeat (first | (with_reducible first | exact HB.out | apply bal | apply pbN | apply bd1 | refine bst ?_ GE228.out) | exact HB.out)) hb); have n3_ := Aside0.mk (hbox); have n4_ := Aside0.mk ((by rw [hg]; exact (bsz (by repeat (first | (with_reducible first | exact HB.out | apply bal | apply pbN | apply bd1 | refine bst ?_ GE228.out) | exact HB.out))) : w.heap.size ≤ gb230)); have n5_ := Aside0.mk ((by rw [hg]; exact (bsz (by repeat (first | (with_reducible first | exact HB.out | apply bal | apply pbN | apply bd1 | refine bst ?_ GE228.out) | exact HB.out))) : w.heap.size ≤ gb230)); have n6_ := Aside0.mk ((by rw [hg]; exact Nat.ne_of_lt (blk_lt (g := gb228) (o := .cells #[.string a0_0, .slice A0_1 l0_1.length c0_1, .slice A0_2 l0_2.length c0_2] 25 (0, 0)) (by (with_reducible repeat (first | refine bkn ?_ _ | refine bkd ?_ | refine bka ?_ _)); exact BK228.out)) : gb228 ≠ gb230)); have n7_ := Aside0.mk ((by rw [hg]; exact Nat.ne_of_gt (blk_lt (g := gb228) (o := .cells #[.string a0_0, .slice A0_1 l0_1.length c0_1, .slice A0_2 l0_2.length c0_2] 25 (0, 0)) (by (with_reducible repeat (first | refine bkn ?_ _ | refine bkd ?_ | refine bka ?_ _)); exact BK228.out)) : gb230 ≠ gb228)); clear HO_5; clear BK228; clear HB; have HO_5 := n0_; have BK228 := n1_; have HB := n2_; have BK230 := n3_; have GW230 := n4_; have GE230 := n5_; have NB228_230 := n6_; have NB230_228 := n7_; clear n0_ n1_ n2_ n3_ n4_ n5_ n6_ n7_; clear hb hbox hg; have hnb14 := NB230_228.out; have hnc14 := NB228_230.out; have hcz15_0 : w13.cell? ⟨gb230, 0, none⟩ = some (.int .i64 0) := (bce BK230.out 0).trans rfl; have hcz15_1 : w13.cell? ⟨gb230, 1, none⟩ = some (.int .i64 0) := (bce BK230.out 1).trans rfl; have hcz15_2 : w13.cell? ⟨gb230, 2, none⟩ = some (.int .i64 0) := (bce BK230.out 2).trans rfl; have hcz15_3 : w13.cell? ⟨gb230, 3, none⟩ = some (.int .i64 0) := (bce BK230.out 3).trans rfl; have hfz15_0 := bfz BK230.out 0; have hfz15_1 := bfz BK230.out 1; have hfz15_2 := bfz BK230.out 2; have hfz15_3 := bfz BK230.out 3) | ((with_reducible refine gate_dst (N := 8) rfl ?_); refine box_event ?hg (N := 8) ?hd (cs := #[.int .i64 0, .int .i64 0, .int .i64 0, .int .i64 0, .int .u64 0]) (t := 76) ?hr ?_; (case hd => rfl); (case hg => rfl); (case hr => first | (go_simp; done) | (go_simp; rfl)); intro gb231 hg w16 hbox hb; have n0_ := Aside0.mk (Kd.R_below (Kd.R_elderB (by (with_reducible repeat (first | apply Kd.R_alloc | apply Kd.R_drewN | apply Kd.R_drew)); exact (Kd.R_mono (Kd.R_far (p := ⟨gb230, 3, none⟩) (Kd.R_far (p := ⟨gb230, 2, none⟩) (Kd.R_far (p := ⟨gb230, 1, none⟩) (Kd.R_far (p := ⟨gb230, 0, none⟩) (Kd.R_types HO_5.out BK230.out (by decide)) (fun _ hk => hk.2) (.int .i64 ((rd_T83 l1 x6_1).f0))) (fun _ hk => hk.2) (.int .i64 ((rd_T83 l1 x6_1).f1))) (fun _ hk => hk.2) (.int .i64 ((rd_T83 l1 x6_1).f2))) (fun _ hk => hk.2) (.int .i64 ((rd_T83 l1 x6_1).f3))) (fun _ h_ => h_.1))) gb231 (Nat.le_of_eq hg.symm)) hb); have n1_ := Aside0.mk (bbe (g := gb228) (o := .cells #[.string a0_0, .slice A0_1 l0_1.length c0_1, .slice A0_2 l0_2.length c0_2] 25 (0, 0)) (by (with_reducible repeat (first | refine bkn ?_ _ | refine bkd ?_ | refine bka ?_ _)); refine blk_far ?_ NB228_230.out _; (with_reducible repeat (first | refine bkn ?_ _ | refine bkd ?_ | refine bka ?_ _)); refine blk_far ?_ NB228_230.out _; (with_reducible repeat (first | refine bkn ?_ _ | refine bkd ?_ | refine bka ?_ _)); refine blk_far ?_ NB228_230.out _; (with_reducible repeat (first | refine bkn ?_ _ | refine bkd ?_ | refine bka ?_ _)); refine blk_far ?_ NB228_230.out _; (with_reducible repeat (first | refine bkn ?_ _ | refine bkd ?_ | refine bka ?_ _)); exact BK228.out) hb); have n2_ := Aside0.mk (bbe (g := gb230) (o := .cells #[.int .i64 ((rd_T83 l1 x6_1).f0), .int .i64 ((rd_T83 l1 x6_1).f1), .int .i64 ((rd_T83 l1 x6_1).f2), .int .i64 ((rd_T83 l1 x6_1).f3)] 83 (0, 0)) (by (with_reducible repeat (first | refine bkn ?_ _ | refine bkd ?_ | refine bka ?_ _)); refine blk_put (cs := #[.int .i64 ((rd_T83 l1 x6_1).f0), .int .i64 ((rd_T83 l1 x6_1).f1), .int .i64 ((rd_T83 l1 x6_1).f2), .int .i64 0]) ?_ 3 _ rfl; (with_reducible repeat (first | refine bkn ?_ _ | refine bkd ?_ | refine bka ?_ _)); refine blk_put (cs := #[.int .i64 ((rd_T83 l1 x6_1).f0), .int .i64 ((rd_T83 l1 x6_1).f1), .int .i64 0, .int .i64 0]) ?_ 2 _ rfl; (with_reducible repeat (first | refine bkn ?_ _ | refine bkd ?_ | refine bka ?_ _)); refine blk_put (cs := #[.int .i64 ((rd_T83 l1 x6_1).f0), .int .i64 0, .int .i64 0, .int .i64 0]) ?_ 1 _ rfl; (with_reducible repeat (first | refine bkn ?_ _ | refine bkd ?_ | refine bka ?_ _)); refine blk_put (cs := #[.int .i64 0, .int .i64 0, .int .i64 0, .int .i64 0]) ?_ 0 _ rfl; (with_reducible repeat (first | refine bkn ?_ _ | refine bkd ?_ | refine bka ?_ _)); exact BK230.out) hb); have n3_ := Aside0.mk (bsp (by repeat (first | (with_reducible first | exact HB.out | apply bal | apply pbN | apply bd1 | refine bst ?_ GE228.out | refine bst ?_ GE230.out) | exact HB.out)) hb); have n4_ := Aside0.mk (hbox); have n5_ := Aside0.mk ((by rw [hg]; exact (bsz (by repeat (first | (with_reducible first | exact HB.out | apply bal | apply pbN | apply bd1 | refine bst ?_ GE228.out | refine bst ?_ GE230.out) | exact HB.out))) : w.heap.size ≤ gb231)); have n6_ := Aside0.mk ((by rw [hg]; exact (bsz (by repeat (first | (with_reducible first | exact HB.out | apply bal | apply pbN | apply bd1 | refine bst ?_ GE228.out | refine bst ?_ GE230.out) | exact HB.out))) : w.heap.size ≤ gb231)); have n7_ := Aside0.mk ((by rw [hg]; exact Nat.ne_of_lt (blk_lt (g := gb228) (o := .cells #[.string a0_0, .slice A0_1 l0_1.length c0_1, .slice A0_2 l0_2.length c0_2] 25 (0, 0)) (by (with_reducible repeat (first | refine bkn ?_ _ | refine bkd ?_ | refine bka ?_ _)); refine blk_far ?_ NB228_230.out _; (with_reducible repeat (first | refine bkn ?_ _ | refine bkd ?_ | refine bka ?_ _)); refine blk_far ?_ NB228_230.out _; (with_reducible repeat (first | refine bkn ?_ _ | refine bkd ?_ | refine bka ?_ _)); refine blk_far ?_ NB228_230.out _; (with_reducible repeat (first | refine bkn ?_ _ | refine bkd ?_ | refine bka ?_ _)); refine blk_far ?_ NB228_230.out _; (with_reducible repeat (first | refine bkn ?_ _ | refine bkd ?_ | refine bka ?_ _)); exact BK228.out)) : gb228 ≠ gb231)); have n8_ := Aside0.mk ((by rw [hg]; exact Nat.ne_of_gt (blk_lt (g := gb228) (o := .cells #[.string a0_0, .slice A0_1 l0_1.length c0_1, .slice A0_2 l0_2.length c0_2] 25 (0, 0)) (by (with_reducible repeat (first | refine bkn ?_ _ | refine bkd ?_ | refine bka ?_ _)); refine blk_far ?_ NB228_230.out _; (with_reducible repeat (first | refine bkn ?_ _ | refine bkd ?_ | refine bka ?_ _)); refine blk_far ?_ NB228_230.out _; (with_reducible repeat (first | refine bkn ?_ _ | refine bkd ?_ | refine bka ?_ _)); refine blk_far ?_ NB228_230.out _; (with_reducible repeat (first | refine bkn ?_ _ | refine bkd ?_ | refine bka ?_ _)); refine blk_far ?_ NB228_230.out _; (with_reducible repeat (first | refine bkn ?_ _ | refine bkd ?_ | refine bka ?_ _)); exact BK228.out)) : gb231 ≠ gb228)); have n9_ := Aside0.mk ((by rw [hg]; exact Nat.ne_of_lt (blk_lt (g := gb230) (o := .cells #[.int .i64 ((rd_T83 l1 x6_1).f0), .int .i64 ((rd_T83 l1 x6_1).f1), .int .i64 ((rd_T83 l1 x6_1).f2), .int .i64 ((rd_T83 l1 x6_1).f3)] 83 (0, 0)) (by (with_reducible repeat (first | refine bkn ?_ _ | refine bkd ?_ | refine bka ?_ _)); refine blk_put (cs := #[.int .i64 ((rd_T83 l1 x6_1).f0), .int .i64 ((rd_T83 l1 x6_1).f1), .int .i64 ((rd_T83 l1 x6_1).f2), .int .i64 0]) ?_ 3 _ rfl; (with_reducible repeat (first | refine bkn ?_ _ | refine bkd ?_ | refine bka ?_ _)); refine blk_put (cs := #[.int .i64 ((rd_T83 l1 x6_1).f0), .int .i64 ((rd_T83 l1 x6_1).f1), .int .i64 0, .int .i64 0]) ?_ 2 _ rfl; (with_reducible repeat (first | refine bkn ?_ _ | refine bkd ?_ | refine bka ?_ _)); refine blk_put (cs := #[.int .i64 ((rd_T83 l1 x6_1).f0), .int .i64 0, .int .i64 0, .int .i64 0]) ?_ 1 _ rfl; (with_reducible repeat (first | refine bkn ?_ _ | refine bkd ?_ | refine bka ?_ _)); refine blk_put (cs := #[.int .i64 0, .int .i64 0, .int .i64 0, .int .i64 0]) ?_ 0 _ rfl; (with_reducible repeat (first | refine bkn ?_ _ | refine bkd ?_ | refine bka ?_ _)); exact BK230.out)) : gb230 ≠ gb231)); have n10_ := Aside0.mk ((by rw [hg]; exact Nat.ne_of_gt (blk_lt (g := gb230) (o := .cells #[.int .i64 ((rd_T83 l1 x6_1).f0), .int .i64 ((rd_T83 l1 x6_1).f1), .int .i64 ((rd_T83 l1 x6_1).f2), .int .i64 ((rd_T83 l1 x6_1).f3)] 83 (0, 0)) (by (with_reducible repeat (first | refine bkn ?_ _ | refine bkd ?_ | refine bka ?_ _)); refine blk_put (cs := #[.int .i64 ((rd_T83 l1 x6_1).f0), .int .i64 ((rd_T83 l1 x6_1).f1), .int .i64 ((rd_T83 l1 x6_1).f2), .int .i64 0]) ?_ 3 _ rfl; (with_reducible repeat (first | refine bkn ?_ _ | refine bkd ?_ | refine bka ?_ _)); refine blk_put (cs := #[.int .i64 ((rd_T83 l1 x6_1).f0), .int .i64 ((rd_T83 l1 x6_1).f1), .int .i64 0, .int .i64 0]) ?_ 2 _ rfl; (with_reducible repeat (first | refine bkn ?_ _ | refine bkd ?_ | refine bka ?_ _)); refine blk_put (cs := #[.int .i64 ((rd_T83 l1 x6_1).f0), .int .i64 0, .int .i64 0, .int .i64 0]) ?_ 1 _ rfl; (with_reducible repeat (first | refine bkn ?_ _ | refine bkd ?_ | refine bka ?_ _)); refine blk_put (cs := #[.int .i64 0, .int .i64 0, .int .i64 0, .int .i64 0]) ?_ 0 _ rfl; (with_reducible repeat (first | refine bkn ?_ _ | refine bkd ?_ | refine bka ?_ _)); exact BK230.out)) : gb231 ≠ gb230)); clear HO_5; clear BK228; clear BK230; clear HB; have HO_5 := n0_; have BK228 := n1_; have BK230 := n2_; have HB := n3_; have BK231 := n4_; have GW231 := n5_; have GE231 := n6_; have NB228_231 := n7_; have NB231_228 := n8_; have NB230_231 := n9_; have NB231_230 := n10_; clear n0_ n1_ n2_ n3_ n4_ n5_ n6_ n7_ n8_ n9_ n10_; clear hb hbox hg; have hnb17 := NB231_228.out; have hnc17 := NB228_231.out; have hnb18 := NB231_230.out; have hnc18 := NB230_231.out; have hcz19_0 : w16.cell? ⟨gb231, 0, none⟩ = some (.int .i64 0) := (bce BK231.out 0).trans rfl; have hcz19_1 : w16.cell? ⟨gb231, 1, none⟩ = some (.int .i64 0) := (bce BK231.out 1).trans rfl; have hcz19_2 : w16.cell? ⟨gb231, 2, none⟩ = some (.int .i64 0) := (bce BK231.out 2).trans rfl; have hcz19_3 : w16.cell? ⟨gb231, 3, none⟩ = some (.int .i64 0) := (bce BK231.out 3).trans rfl; have hcz19_4 : w16.cell? ⟨gb231, 4, none⟩ = some (.int .u64 0) := (bce BK231.out 4).trans rfl; have hfz19_0 := bfz BK231.out 0; have hfz19_1 := bfz BK231.out 1; have hfz19_2 := bfz BK231.out 2; have hfz19_3 := bfz BK231.out 3; have hfz19_4 := bfz BK231.out 4; have hcz20_0 : w16.cell? ⟨gb228, 0, none⟩ = some (.string a0_0) := (bce BK228.out 0).trans rfl; have hcz20_1 : w16.cell? ⟨gb228, 1, none⟩ = some (.slice A0_1 l0_1.length c0_1) := (bce BK228.out 1).trans rfl; have hcz20_2 : w16.cell? ⟨gb228, 2, none⟩ = some (.slice A0_2 l0_2.length c0_2) := (bce BK228.out 2).trans rfl; have hfz20_0 := bfz BK228.out 0; have hfz20_1 := bfz BK228.out 1; have hfz20_2 := bfz BK228.out 2; have hcz21_0 : w16.cell? ⟨gb230, 0, none⟩ = some (.int .i64 ((rd_T83 l1 x6_1).f0)) := (bce BK230.out 0).trans rfl; have hcz21_1 : w16.cell? ⟨gb230, 1, none⟩ = some (.int .i64 ((rd_T83 l1 x6_1).f1)) := (bce BK230.out 1).trans rfl; have hcz21_2 : w16.cell? ⟨gb230, 2, none⟩ = some (.int .i64 ((rd_T83 l1 x6_1).f2)) := (bce BK230.out 2).trans rfl; have hcz21_3 : w16.cell? ⟨gb230, 3, none⟩ = some (.int .i64 ((rd_T83 l1 x6_1).f3)) := (bce BK230.out 3).trans rfl; have hfz21_0 := bfz BK230.out 0; have hfz21_1 := bfz BK230.out 1; have hfz21_2 := bfz BK230.out 2; have hfz21_3 := bfz BK230.out 3) | ((with_reducible refine gate_callee (f := 40) rfl ?_); refine goesL_ (some 33) rfl rfl Tryz.func40 (by kernel_rfl) rfl #[.agg #[.string a0_0, .slice A0_1 l0_1.length c0_1, .slice A0_2 l0_2.length c0_2], .int .i64 ((rd_T83 l1 x6_1).f2)] rfl (by (try simp only [List.map_toArray, List.map_cons, List.map_nil]); first | done | rfl | (simp only [List.length_drop, List.length_take]; rfl)) ?_; (with_reducible refine (remontoirref18_Is.calls a0_0 _ _ l0_1 _ _ l0_2 ((rd_T83 l1 x6_1).f2) true _ ?side1 ?side2 ?side3 ?side4 A7.out).mono ?_); (case side1 => exact Kd.C_below HR0_1.out (by repeat (first | (with_reducible first | exact HB.out | apply bal | apply pbN | apply bd1 | refine bst ?_ GE228.out | refine bst ?_ GE230.out | refine bst ?_ GE231.out) | exact HB.out))); (case side2 => exact HC0_1.out); (case side3 => exact Kd.C_below HR0_2.out (by repeat (first | (with_reducible first | exact HB.out | apply bal | apply pbN | apply bd1 | refine bst ?_ GE228.out | refine bst ?_ GE230.out | refine bst ?_ GE231.out) | exact HB.out))); (case side4 => exact HC0_2.out); rintro e w22 ⟨rfl, hb⟩; refine ⟨_, rfl, ?_⟩; have n0_ := Aside0.mk (Kd.R_below (by (with_reducible repeat (first | apply Kd.R_alloc | apply Kd.R_drewN | apply Kd.R_drew)); exact (Kd.R_mono (Kd.R_far (p := ⟨gb231, 4, none⟩) (Kd.R_far (p := ⟨gb231, 3, none⟩) (Kd.R_far (p := ⟨gb231, 2, none⟩) (Kd.R_far (p := ⟨gb231, 1, none⟩) (Kd.R_far (p := ⟨gb231, 0, none⟩) (Kd.R_mono HO_5.out (fun k_ hk => (⟨hk, hk.2⟩ : _ ∧ k_ ≠ gb231))) (fun _ hk => hk.2) (.int .i64 1)) (fun _ hk => hk.2) (.int .i64 ((rd_T83 l1 x6_1).f3))) (fun _ hk => hk.2) (.int .i64 ((rd_T83 l1 x6_1).f2))) (fun _ hk => hk.2) (.int .i64 0)) (fun _ hk => hk.2) (.int .u64 0)) (fun _ h_ => h_.1))) hb); have n1_ := Aside0.mk (bbe (g := gb228) (o := .cells #[.string a0_0, .slice A0_1 l0_1.length c0_1, .slice A0_2 l0_2.length c0_2] 25 (0, 0)) (by (with_reducible repeat (first | refine bkn ?_ _ | refine bkd ?_ | refine bka ?_ _)); refine blk_far ?_ NB228_231.out _; (with_reducible repeat (first | refine bkn ?_ _ | refine bkd ?_ | refine bka ?_ _)); refine blk_far ?_ NB228_231.out _; (with_reducible repeat (first | refine bkn ?_ _ | refine bkd ?_ | refine bka ?_ _)); refine blk_far ?_ NB228_231.out _; (with_reducible repeat (first | refine bkn ?_ _ | refine bkd ?_ | refine bka ?_ _)); refine blk_far ?_ NB228_231.out _; (with_reducible repeat (first | refine bkn ?_ _ | refine bkd ?_ | refine bka ?_ _)); refine blk_far ?_ NB228_231.out _; (with_reducible repeat (first | refine bkn ?_ _ | refine bkd ?_ | refine bka ?_ _)); exact BK228.out) hb); have n2_ := Aside0.mk (bbe (g := gb230) (o := .cells #[.int .i64 ((rd_T83 l1 x6_1).f0), .int .i64 ((rd_T83 l1 x6_1).f1), .int .i64 ((rd_T83 l1 x6_1).f2), .int .i64 ((rd_T83 l1 x6_1).f3)] 83 (0, 0)) (by (with_reducible repeat (first | refine bkn ?_ _ | refine bkd ?_ | refine bka ?_ _)); refine blk_far ?_ NB230_231.out _; (with_reducible repeat (first | refine bkn ?_ _ | refine bkd ?_ | refine bka ?_ _)); refine blk_far ?_ NB230_231.out _; (with_reducible repeat (first | refine bkn ?_ _ | refine bkd ?_ | refine bka ?_ _)); refine blk_far ?_ NB230_231.out _; (with_reducible repeat (first | refine bkn ?_ _ | refine bkd ?_ | refine bka ?_ _)); refine blk_far ?_ NB230_231.out _; (with_reducible repeat (first | refine bkn ?_ _ | refine bkd ?_ | refine bka ?_ _)); refine blk_far ?_ NB230_231.out _; (with_reducible repeat (first | refine bkn ?_ _ | refine bkd ?_ | refine bka ?_ _)); exact BK230.out) hb); have n3_ := Aside0.mk (bbe (g := gb231) (o := .cells #[.int .i64 1, .int .i64 ((rd_T83 l1 x6_1).f3), .int .i64 ((rd_T83 l1 x6_1).f2), .int .i64 0, .int .u64 0] 76 (0, 0)) (by (with_reducible repeat (first | refine bkn ?_ _ | refine bkd ?_ | refine bka ?_ _)); refine blk_put (cs := #[.int .i64 1, .int .i64 ((rd_T83 l1 x6_1).f3), .int .i64 ((rd_T83 l1 x6_1).f2), .int .i64 0, .int .u64 0]) ?_ 4 _ rfl; (with_reducible repeat (first | refine bkn ?_ _ | refine bkd ?_ | refine bka ?_ _)); refine blk_put (cs := #[.int .i64 1, .int .i64 ((rd_T83 l1 x6_1).f3), .int .i64 ((rd_T83 l1 x6_1).f2), .int .i64 0, .int .u64 0]) ?_ 3 _ rfl; (with_reducible repeat (first | refine bkn ?_ _ | refine bkd ?_ | refine bka ?_ _)); refine blk_put (cs := #[.int .i64 1, .int .i64 ((rd_T83 l1 x6_1).f3), .int .i64 0, .int .i64 0, .int .u64 0]) ?_ 2 _ rfl; (with_reducible repeat (first | refine bkn ?_ _ | refine bkd ?_ | refine bka ?_ _)); refine blk_put (cs := #[.int .i64 1, .int .i64 0, .int .i64 0, .int .i64 0, .int .u64 0]) ?_ 1 _ rfl; (with_reducible repeat (first | refine bkn ?_ _ | refine bkd ?_ | refine bka ?_ _)); refine blk_put (cs := #[.int .i64 0, .int .i64 0, .int .i64 0, .int .i64 0, .int .u64 0]) ?_ 0 _ rfl; (with_reducible repeat (first | refine bkn ?_ _ | refine bkd ?_ | refine bka ?_ _)); exact BK231.out) hb); have n4_ := Aside0.mk (bsp (by repeat (first | (with_reducible first | exact HB.out | apply bal | apply pbN | apply bd1 | refine bst ?_ GE228.out | refine bst ?_ GE230.out | refine bst ?_ GE231.out) | exact HB.out)) hb); clear HO_5; clear BK228; clear BK230; clear BK231; clear HB; have HO_5 := n0_; have BK228 := n1_; have BK230 := n2_; have BK231 := n3_; have HB := n4_; clear n0_ n1_ n2_ n3_ n4_; (try clear hb); (try clear hb2); (try clear hk); (try clear hi); have hcz23_0 : w22.cell? ⟨gb228, 0, none⟩ = some (.string a0_0) := (bce BK228.out 0).trans rfl; have hcz23_1 : w22.cell? ⟨gb228, 1, none⟩ = some (.slice A0_1 l0_1.length c0_1) := (bce BK228.out 1).trans rfl; have hcz23_2 : w22.cell? ⟨gb228, 2, none⟩ = some (.slice A0_2 l0_2.length c0_2) := (bce BK228.out 2).trans rfl; have hfz23_0 := bfz BK228.out 0; have hfz23_1 := bfz BK228.out 1; have hfz23_2 := bfz BK228.out 2; have hcz24_0 : w22.cell? ⟨gb230, 0, none⟩ = some (.int .i64 ((rd_T83 l1 x6_1).f0)) := (bce BK230.out 0).trans rfl; have hcz24_1 : w22.cell? ⟨gb230, 1, none⟩ = some (.int .i64 ((rd_T83 l1 x6_1).f1)) := (bce BK230.out 1).trans rfl; have hcz24_2 : w22.cell? ⟨gb230, 2, none⟩ = some (.int .i64 ((rd_T83 l1 x6_1).f2)) := (bce BK230.out 2).trans rfl; have hcz24_3 : w22.cell? ⟨gb230, 3, none⟩ = some (.int .i64 ((rd_T83 l1 x6_1).f3)) := (bce BK230.out 3).trans rfl; have hfz24_0 := bfz BK230.out 0; have hfz24_1 := bfz BK230.out 1; have hfz24_2 := bfz BK230.out 2; have hfz24_3 := bfz BK230.out 3; have p233 : 0 ≤ ((ji9) : Int) := of_decide_eq_true (by first | (with_reducible assumption) | assumption); have q233 : (ji9) < (l0_1.length : Int) := of_decide_eq_true (by first | (with_reducible assumption) | assumption); obtain ⟨ad233, e233, hx233_0, hx233_1, hx233_2, hx233_3, hx233_4⟩ := at_T86 HR0_1.out (ji9) p233 q233; cases e233; replace hx233_0 := (HB.out.cell (World.block_lt_of_cell? w _ hx233_0)).trans hx233_0; replace hx233_1 := (HB.out.cell (World.block_lt_of_cell? w _ hx233_1)).trans hx233_1; replace hx233_2 := (HB.out.cell (World.block_lt_of_cell? w _ hx233_2)).trans hx233_2; replace hx233_3 := (HB.out.cell (World.block_lt_of_cell? w _ hx233_3)).trans hx233_3; replace hx233_4 := (HB.out.cell (World.block_lt_of_cell? w _ hx233_4)).trans hx233_4; replace p233 := eq_true p233; replace q233 := eq_true q233; have hcz25_0 : w22.cell? ⟨gb231, 0, none⟩ = some (.int .i64 1) := (bce BK231.out 0).trans rfl; have hcz25_1 : w22.cell? ⟨gb231, 1, none⟩ = some (.int .i64 ((rd_T83 l1 x6_1).f3)) := (bce BK231.out 1).trans rfl; have hcz25_2 : w22.cell? ⟨gb231, 2, none⟩ = some (.int .i64 ((rd_T83 l1 x6_1).f2)) := (bce BK231.out 2).trans rfl; have hcz25_3 : w22.cell? ⟨gb231, 3, none⟩ = some (.int .i64 0) := (bce BK231.out 3).trans rfl; have hcz25_4 : w22.cell? ⟨gb231, 4, none⟩ = some (.int .u64 0) := (bce BK231.out 4).trans rfl; have hfz25_0 := bfz BK231.out 0; have hfz25_1 := bfz BK231.out 1; have hfz25_2 := bfz BK231.out 2; have hfz25_3 := bfz BK231.out 3; have hfz25_4 := bfz BK231.out 4) | ((with_reducible refine gate_builtin (b := .append) (xs := #[.tmp 43, .tmp 45]) rfl ?_); at_builtin; refine Kd.R_append k76 (w0 := w) w.heap.size rfl (.tmp 43) (.tmp 45) 27 76 (.agg #[(.int .i64 0), (.int .i64 0), (.int .i64 0), (.int .i64 0), (.int .u64 0)]) 40 rfl Tryz.underlying27 info76 rfl (by decide) (by omega) u5 x5_1 (⟨1, (rd_T83 l1 x6_1).f3, (rd_T83 l1 x6_1).f2, (rd_T86 l0_1 (ji9)).f2, 0⟩ : S76) [.int .i64 1, .int .i64 ((rd_T83 l1 x6_1).f3), .int .i64 ((rd_T83 l1 x6_1).f2), .int .i64 ((rd_T86 l0_1 (ji9)).f2), .int .u64 0] (fun k_ => k_ ≠ gb231) (fun _ => False) rfl (by first | (go_simp; done) | (go_simp; rfl)) ?aP (fun _ hk => hk.elim) ?aF ?aO ?aB ?aS ?aL ?_; (case aP => exact k76_mkM _ _ _ (⟨1, (rd_T83 l1 x6_1).f3, (rd_T83 l1 x6_1).f2, (rd_T86 l0_1 (ji9)).f2, 0⟩ : S76)); (case aB => exact (by repeat (first | (with_reducible first | exact HB.out | apply bal | apply pbN | apply bd1 | refine bst ?_ GE228.out | refine bst ?_ GE230.out | refine bst ?_ GE231.out) | exact HB.out))); (case aF => exact (fun k_ hk => Kd.freshB (g := gb231) (o := .cells #[.int .i64 1, .int .i64 ((rd_T83 l1 x6_1).f3), .int .i64 ((rd_T83 l1 x6_1).f2), .int .i64 ((rd_T86 l0_1 (ji9)).f2), .int .u64 0] 76 (0, 0)) (by (with_reducible repeat (first | refine bkn ?_ _ | refine bkd ?_ | refine bka ?_ _)); refine blk_put (cs := #[.int .i64 1, .int .i64 ((rd_T83 l1 x6_1).f3), .int .i64 ((rd_T83 l1 x6_1).f2), .int .i64 0, .int .u64 0]) ?_ 3 _ rfl; (with_reducible repeat (first | refine bkn ?_ _ | refine bkd ?_ | refine bka ?_ _)); exact BK231.out) k_ hk)); (case aO => exact (by (with_reducible repeat (first | apply Kd.R_alloc | apply Kd.R_drewN | apply Kd.R_drew)); exact Kd.R_mono (Kd.R_far (p := ⟨gb231, 3, none⟩) (Kd.R_mono HO_5.out (fun k_ hk => (⟨hk, hk.2⟩ : _ ∧ k_ ≠ gb231))) (fun _ hk => hk.2) (.int .i64 ((rd_T86 l0_1 (ji9)).f2))) (fun _ hk => hk.1.2))); (case aS => exact (bsz (by repeat (first | (with_reducible first | exact HB.out | apply bal | apply pbN | apply bd1 | refine bst ?_ GE228.out | refine bst ?_ GE230.out | refine bst ?_ GE231.out) | exact HB.out)))); (case aL => have := LMc12.out; omega); intro v235 w26 ho hb hg hat; rw [← Ny234.out] at ho; have n0_ := Aside0.mk (blk_grown (g := gb228) (o := .cells #[.string a0_0, .slice (some ad233) l0_1.length c0_1, .slice A0_2 l0_2.length c0_2] 25 (0, 0)) (by (with_reducible repeat (first | refine bkn ?_ _ | refine bkd ?_ | refine bka ?_ _)); refine blk_far ?_ NB228_231.out _; (with_reducible repeat (first | refine bkn ?_ _ | refine bkd ?_ | refine bka ?_ _)); exact BK228.out) hg (Kd.R_ne HO_5.out BK228.out (by decide))); have n1_ := Aside0.mk (blk_grown (g := gb230) (o := .cells #[.int .i64 ((rd_T83 l1 x6_1).f0), .int .i64 ((rd_T83 l1 x6_1).f1), .int .i64 ((rd_T83 l1 x6_1).f2), .int .i64 ((rd_T83 l1 x6_1).f3)] 83 (0, 0)) (by (with_reducible repeat (first | refine bkn ?_ _ | refine bkd ?_ | refine bka ?_ _)); refine blk_far ?_ NB230_231.out _; (with_reducible repeat (first | refine bkn ?_ _ | refine bkd ?_ | refine bka ?_ _)); exact BK230.out) hg (Kd.R_ne HO_5.out BK230.out (by decide))); have n2_ := Aside0.mk (blk_grown (g := gb231) (o := .cells #[.int .i64 1, .int .i64 ((rd_T83 l1 x6_1).f3), .int .i64 ((rd_T83 l1 x6_1).f2), .int .i64 ((rd_T86 l0_1 (ji9)).f2), .int .u64 0] 76 (0, 0)) (by (with_reducible repeat (first | refine bkn ?_ _ | refine bkd ?_ | refine bka ?_ _)); refine blk_put (cs := #[.int .i64 1, .int .i64 ((rd_T83 l1 x6_1).f3), .int .i64 ((rd_T83 l1 x6_1).f2), .int .i64 0, .int .u64 0]) ?_ 3 _ rfl; (with_reducible repeat (first | refine bkn ?_ _ | refine bkd ?_ | refine bka ?_ _)); exact BK231.out) hg (Kd.R_away HO_5.out (fun _ hk => hk.2))); have n3_ := Aside0.mk (hb); have n4_ := Aside0.mk (ho); clear BK228; clear BK230; clear BK231; clear HB; clear HO_5; have BK228 := n0_; have BK230 := n1_; have BK231 := n2_; have HB := n3_; have HO236 := n4_; clear n0_ n1_ n2_ n3_ n4_; clear ho hb hg hat))
          go_roundg k1
          case measure => have := HK1.out; omega
          case rel => exact ⟨(y234), (wrap64 (x6_1 + 1)), (by first | rfl | (simp; done) | (simp [*]; done)), H', ⟨by have := HK1.out; omega⟩, ⟨by (with_reducible repeat (first | apply Kd.R_alloc | apply Kd.R_drewN | apply Kd.R_drew)); exact Kd.R_mono HO236.out (fun _ hk => trivial)⟩, ⟨by (with_reducible repeat (first | refine bkn ?_ _ | refine bkd ?_ | refine bka ?_ _)); exact BK228.out⟩, ⟨by repeat (first | (with_reducible first | exact HB.out | apply bal | apply pbN | apply bd1 | refine bst ?_ GE228.out | refine bst ?_ GE230.out | refine bst ?_ GE231.out) | exact HB.out)⟩⟩
         ·rw [if_neg c12] at H
          exact absurd H (by simp)
        ·rw [if_neg c11] at H
         exact absurd H (by simp)
       ·rw [if_neg c10] at H
        exact absurd H (by simp)
      ·replace c8 := Bool.eq_false_iff.mpr c8
       subst c8
       have H1 : (if x5_1.length < 3518437208883 then (remontoirref27_Of.l0 k1 l1 (x5_1 ++ [(⟨1, (rd_T83 l1 x6_1).f3, (rd_T83 l1 x6_1).f2, 0, 0⟩ : S76)]) (wrap64 (x6_1 + 1)) a0_0 l0_1 l0_2) else (none)) = some r := by rw [if_neg (show ¬ (false = true) by decide)] at H; exact H
       clear H
       have H := H1
       clear H1
       by_cases c27 : x5_1.length < 3518437208883
       ·rw [if_pos c27] at H
        have LMc27 := Aside0.mk c27
        clear c27
        obtain ⟨y237, hy237⟩ : ∃ y_ : List (S76), y_ = (x5_1 ++ [(⟨1, (rd_T83 l1 x6_1).f3, (rd_T83 l1 x6_1).f2, 0, 0⟩ : S76)]) := ⟨_, rfl⟩
        replace H : (remontoirref27_Of.l0 k1 l1 y237 (wrap64 (x6_1 + 1)) a0_0 l0_1 l0_2) = some r := by first | (rw [hy237]; with_reducible exact H) | (have H2_ := (Option.bind_some _ _).symm.trans H; rw [hy237]; with_reducible exact H2_) | (have H2_ := (Option.bind_some _ _).symm.trans H; with_reducible exact H2_) | with_reducible exact H | (rw [hy237]; exact H) | exact H
        have Ny237 := Aside0.mk hy237
        clear hy237
        have H' := Aside0.mk H
        clear H
        have p229 : 0 ≤ (x6_1 : Int) := of_decide_eq_true (by first | (with_reducible assumption) | assumption)
        have q229 : x6_1 < (l1.length : Int) := of_decide_eq_true (by first | (with_reducible assumption) | assumption)
        obtain ⟨ad229, e229, hx229_0, hx229_1, hx229_2, hx229_3⟩ := at_T83 HR1.out x6_1 p229 q229
        cases e229
        replace hx229_0 := (HB.out.cell (World.block_lt_of_cell? w _ hx229_0)).trans hx229_0
        replace hx229_1 := (HB.out.cell (World.block_lt_of_cell? w _ hx229_1)).trans hx229_1
        replace hx229_2 := (HB.out.cell (World.block_lt_of_cell? w _ hx229_2)).trans hx229_2
        replace hx229_3 := (HB.out.cell (World.block_lt_of_cell? w _ hx229_3)).trans hx229_3
        replace p229 := eq_true p229
        replace q229 := eq_true q229
        go_wp2_with (first | ((with_reducible refine gate_dst (N := 7) rfl ?_); refine box_event ?hg (N := 7) ?hd (cs := #[.int .i64 0, .int .i64 0, .int .i64 0, .int .i64 0]) (t := 83) ?hr ?_; (case hd => rfl); (case hg => rfl); (case hr => first | (go_simp; done) | (go_simp; rfl)); intro gb230 hg w28 hbox hb; have n0_ := Aside0.mk (Kd.R_below (by (with_reducible repeat (first | apply Kd.R_alloc | apply Kd.R_drewN | apply Kd.R_drew)); exact HO_5.out) hb); have n1_ := Aside0.mk (bbe (g := gb228) (o := .cells #[.string a0_0, .slice A0_1 l0_1.length c0_1, .slice A0_2 l0_2.length c0_2] 25 (0, 0)) (by (with_reducible repeat (first | refine bkn ?_ _ | refine bkd ?_ | refine bka ?_ _)); exact BK228.out) hb); have n2_ := Aside0.mk (bsp (by repeat (first | (with_reducible first | exact HB.out | apply bal | apply pbN | apply bd1 | refine bst ?_ GE228.out) | exact HB.out)) hb); have n3_ := Aside0.mk (hbox); have n4_ := Aside0.mk ((by rw [hg]; exact (bsz (by repeat (first | (with_reducible first | exact HB.out | apply bal | apply pbN | apply bd1 | refine bst ?_ GE228.out) | exact HB.out))) : w.heap.size ≤ gb230)); have n5_ := Aside0.mk ((by rw [hg]; exact (bsz (by repeat (first | (with_reducible first | exact HB.out | apply bal | apply pbN | apply bd1 | refine bst ?_ GE228.out) | exact HB.out))) : w.heap.size ≤ gb230)); have n6_ := Aside0.mk ((by rw [hg]; exact Nat.ne_of_lt (blk_lt (g := gb228) (o := .cells #[.string a0_0, .slice A0_1 l0_1.length c0_1, .slice A0_2 l0_2.length c0_2] 25 (0, 0)) (by (with_reducible repeat (first | refine bkn ?_ _ | refine bkd ?_ | refine bka ?_ _)); exact BK228.out)) : gb228 ≠ gb230)); have n7_ := Aside0.mk ((by rw [hg]; exact Nat.ne_of_gt (blk_lt (g := gb228) (o := .cells #[.string a0_0, .slice A0_1 l0_1.length c0_1, .slice A0_2 l0_2.length c0_2] 25 (0, 0)) (by (with_reducible repeat (first | refine bkn ?_ _ | refine bkd ?_ | refine bka ?_ _)); exact BK228.out)) : gb230 ≠ gb228)); clear HO_5; clear BK228; clear HB; have HO_5 := n0_; have BK228 := n1_; have HB := n2_; have BK230 := n3_; have GW230 := n4_; have GE230 := n5_; have NB228_230 := n6_; have NB230_228 := n7_; clear n0_ n1_ n2_ n3_ n4_ n5_ n6_ n7_; clear hb hbox hg; have hnb29 := NB230_228.out; have hnc29 := NB228_230.out; have hcz30_0 : w28.cell? ⟨gb230, 0, none⟩ = some (.int .i64 0) := (bce BK230.out 0).trans rfl; have hcz30_1 : w28.cell? ⟨gb230, 1, none⟩ = some (.int .i64 0) := (bce BK230.out 1).trans rfl; have hcz30_2 : w28.cell? ⟨gb230, 2, none⟩ = some (.int .i64 0) := (bce BK230.out 2).trans rfl; have hcz30_3 : w28.cell? ⟨gb230, 3, none⟩ = some (.int .i64 0) := (bce BK230.out 3).trans rfl; have hfz30_0 := bfz BK230.out 0; have hfz30_1 := bfz BK230.out 1; have hfz30_2 := bfz BK230.out 2; have hfz30_3 := bfz BK230.out 3) | ((with_reducible refine gate_dst (N := 8) rfl ?_); refine box_event ?hg (N := 8) ?hd (cs := #[.int .i64 0, .int .i64 0, .int .i64 0, .int .i64 0, .int .u64 0]) (t := 76) ?hr ?_; (case hd => rfl); (case hg => rfl); (case hr => first | (go_simp; done) | (go_simp; rfl)); intro gb231 hg w31 hbox hb; have n0_ := Aside0.mk (Kd.R_below (Kd.R_elderB (by (with_reducible repeat (first | apply Kd.R_alloc | apply Kd.R_drewN | apply Kd.R_drew)); exact (Kd.R_mono (Kd.R_far (p := ⟨gb230, 3, none⟩) (Kd.R_far (p := ⟨gb230, 2, none⟩) (Kd.R_far (p := ⟨gb230, 1, none⟩) (Kd.R_far (p := ⟨gb230, 0, none⟩) (Kd.R_types HO_5.out BK230.out (by decide)) (fun _ hk => hk.2) (.int .i64 ((rd_T83 l1 x6_1).f0))) (fun _ hk => hk.2) (.int .i64 ((rd_T83 l1 x6_1).f1))) (fun _ hk => hk.2) (.int .i64 ((rd_T83 l1 x6_1).f2))) (fun _ hk => hk.2) (.int .i64 ((rd_T83 l1 x6_1).f3))) (fun _ h_ => h_.1))) gb231 (Nat.le_of_eq hg.symm)) hb); have n1_ := Aside0.mk (bbe (g := gb228) (o := .cells #[.string a0_0, .slice A0_1 l0_1.length c0_1, .slice A0_2 l0_2.length c0_2] 25 (0, 0)) (by (with_reducible repeat (first | refine bkn ?_ _ | refine bkd ?_ | refine bka ?_ _)); refine blk_far ?_ NB228_230.out _; (with_reducible repeat (first | refine bkn ?_ _ | refine bkd ?_ | refine bka ?_ _)); refine blk_far ?_ NB228_230.out _; (with_reducible repeat (first | refine bkn ?_ _ | refine bkd ?_ | refine bka ?_ _)); refine blk_far ?_ NB228_230.out _; (with_reducible repeat (first | refine bkn ?_ _ | refine bkd ?_ | refine bka ?_ _)); refine blk_far ?_ NB228_230.out _; (with_reducible repeat (first | refine bkn ?_ _ | refine bkd ?_ | refine bka ?_ _)); exact BK228.out) hb); have n2_ := Aside0.mk (bbe (g := gb230) (o := .cells #[.int .i64 ((rd_T83 l1 x6_1).f0), .int .i64 ((rd_T83 l1 x6_1).f1), .int .i64 ((rd_T83 l1 x6_1).f2), .int .i64 ((rd_T83 l1 x6_1).f3)] 83 (0, 0)) (by (with_reducible repeat (first | refine bkn ?_ _ | refine bkd ?_ | refine bka ?_ _)); refine blk_put (cs := #[.int .i64 ((rd_T83 l1 x6_1).f0), .int .i64 ((rd_T83 l1 x6_1).f1), .int .i64 ((rd_T83 l1 x6_1).f2), .int .i64 0]) ?_ 3 _ rfl; (with_reducible repeat (first | refine bkn ?_ _ | refine bkd ?_ | refine bka ?_ _)); refine blk_put (cs := #[.int .i64 ((rd_T83 l1 x6_1).f0), .int .i64 ((rd_T83 l1 x6_1).f1), .int .i64 0, .int .i64 0]) ?_ 2 _ rfl; (with_reducible repeat (first | refine bkn ?_ _ | refine bkd ?_ | refine bka ?_ _)); refine blk_put (cs := #[.int .i64 ((rd_T83 l1 x6_1).f0), .int .i64 0, .int .i64 0, .int .i64 0]) ?_ 1 _ rfl; (with_reducible repeat (first | refine bkn ?_ _ | refine bkd ?_ | refine bka ?_ _)); refine blk_put (cs := #[.int .i64 0, .int .i64 0, .int .i64 0, .int .i64 0]) ?_ 0 _ rfl; (with_reducible repeat (first | refine bkn ?_ _ | refine bkd ?_ | refine bka ?_ _)); exact BK230.out) hb); have n3_ := Aside0.mk (bsp (by repeat (first | (with_reducible first | exact HB.out | apply bal | apply pbN | apply bd1 | refine bst ?_ GE228.out | refine bst ?_ GE230.out) | exact HB.out)) hb); have n4_ := Aside0.mk (hbox); have n5_ := Aside0.mk ((by rw [hg]; exact (bsz (by repeat (first | (with_reducible first | exact HB.out | apply bal | apply pbN | apply bd1 | refine bst ?_ GE228.out | refine bst ?_ GE230.out) | exact HB.out))) : w.heap.size ≤ gb231)); have n6_ := Aside0.mk ((by rw [hg]; exact (bsz (by repeat (first | (with_reducible first | exact HB.out | apply bal | apply pbN | apply bd1 | refine bst ?_ GE228.out | refine bst ?_ GE230.out) | exact HB.out))) : w.heap.size ≤ gb231)); have n7_ := Aside0.mk ((by rw [hg]; exact Nat.ne_of_lt (blk_lt (g := gb228) (o := .cells #[.string a0_0, .slice A0_1 l0_1.length c0_1, .slice A0_2 l0_2.length c0_2] 25 (0, 0)) (by (with_reducible repeat (first | refine bkn ?_ _ | refine bkd ?_ | refine bka ?_ _)); refine blk_far ?_ NB228_230.out _; (with_reducible repeat (first | refine bkn ?_ _ | refine bkd ?_ | refine bka ?_ _)); refine blk_far ?_ NB228_230.out _; (with_reducible repeat (first | refine bkn ?_ _ | refine bkd ?_ | refine bka ?_ _)); refine blk_far ?_ NB228_230.out _; (with_reducible repeat (first | refine bkn ?_ _ | refine bkd ?_ | refine bka ?_ _)); refine blk_far ?_ NB228_230.out _; (with_reducible repeat (first | refine bkn ?_ _ | refine bkd ?_ | refine bka ?_ _)); exact BK228.out)) : gb228 ≠ gb231)); have n8_ := Aside0.mk ((by rw [hg]; exact Nat.ne_of_gt (blk_lt (g := gb228) (o := .cells #[.string a0_0, .slice A0_1 l0_1.length c0_1, .slice A0_2 l0_2.length c0_2] 25 (0, 0)) (by (with_reducible repeat (first | refine bkn ?_ _ | refine bkd ?_ | refine bka ?_ _)); refine blk_far ?_ NB228_230.out _; (with_reducible repeat (first | refine bkn ?_ _ | refine bkd ?_ | refine bka ?_ _)); refine blk_far ?_ NB228_230.out _; (with_reducible repeat (first | refine bkn ?_ _ | refine bkd ?_ | refine bka ?_ _)); refine blk_far ?_ NB228_230.out _; (with_reducible repeat (first | refine bkn ?_ _ | refine bkd ?_ | refine bka ?_ _)); refine blk_far ?_ NB228_230.out _; (with_reducible repeat (first | refine bkn ?_ _ | refine bkd ?_ | refine bka ?_ _)); exact BK228.out)) : gb231 ≠ gb228)); have n9_ := Aside0.mk ((by rw [hg]; exact Nat.ne_of_lt (blk_lt (g := gb230) (o := .cells #[.int .i64 ((rd_T83 l1 x6_1).f0), .int .i64 ((rd_T83 l1 x6_1).f1), .int .i64 ((rd_T83 l1 x6_1).f2), .int .i64 ((rd_T83 l1 x6_1).f3)] 83 (0, 0)) (by (with_reducible repeat (first | refine bkn ?_ _ | refine bkd ?_ | refine bka ?_ _)); refine blk_put (cs := #[.int .i64 ((rd_T83 l1 x6_1).f0), .int .i64 ((rd_T83 l1 x6_1).f1), .int .i64 ((rd_T83 l1 x6_1).f2), .int .i64 0]) ?_ 3 _ rfl; (with_reducible repeat (first | refine bkn ?_ _ | refine bkd ?_ | refine bka ?_ _)); refine blk_put (cs := #[.int .i64 ((rd_T83 l1 x6_1).f0), .int .i64 ((rd_T83 l1 x6_1).f1), .int .i64 0, .int .i64 0]) ?_ 2 _ rfl; (with_reducible repeat (first | refine bkn ?_ _ | refine bkd ?_ | refine bka ?_ _)); refine blk_put (cs := #[.int .i64 ((rd_T83 l1 x6_1).f0), .int .i64 0, .int .i64 0, .int .i64 0]) ?_ 1 _ rfl; (with_reducible repeat (first | refine bkn ?_ _ | refine bkd ?_ | refine bka ?_ _)); refine blk_put (cs := #[.int .i64 0, .int .i64 0, .int .i64 0, .int .i64 0]) ?_ 0 _ rfl; (with_reducible repeat (first | refine bkn ?_ _ | refine bkd ?_ | refine bka ?_ _)); exact BK230.out)) : gb230 ≠ gb231)); have n10_ := Aside0.mk ((by rw [hg]; exact Nat.ne_of_gt (blk_lt (g := gb230) (o := .cells #[.int .i64 ((rd_T83 l1 x6_1).f0), .int .i64 ((rd_T83 l1 x6_1).f1), .int .i64 ((rd_T83 l1 x6_1).f2), .int .i64 ((rd_T83 l1 x6_1).f3)] 83 (0, 0)) (by (with_reducible repeat (first | refine bkn ?_ _ | refine bkd ?_ | refine bka ?_ _)); refine blk_put (cs := #[.int .i64 ((rd_T83 l1 x6_1).f0), .int .i64 ((rd_T83 l1 x6_1).f1), .int .i64 ((rd_T83 l1 x6_1).f2), .int .i64 0]) ?_ 3 _ rfl; (with_reducible repeat (first | refine bkn ?_ _ | refine bkd ?_ | refine bka ?_ _)); refine blk_put (cs := #[.int .i64 ((rd_T83 l1 x6_1).f0), .int .i64 ((rd_T83 l1 x6_1).f1), .int .i64 0, .int .i64 0]) ?_ 2 _ rfl; (with_reducible repeat (first | refine bkn ?_ _ | refine bkd ?_ | refine bka ?_ _)); refine blk_put (cs := #[.int .i64 ((rd_T83 l1 x6_1).f0), .int .i64 0, .int .i64 0, .int .i64 0]) ?_ 1 _ rfl; (with_reducible repeat (first | refine bkn ?_ _ | refine bkd ?_ | refine bka ?_ _)); refine blk_put (cs := #[.int .i64 0, .int .i64 0, .int .i64 0, .int .i64 0]) ?_ 0 _ rfl; (with_reducible repeat (first | refine bkn ?_ _ | refine bkd ?_ | refine bka ?_ _)); exact BK230.out)) : gb231 ≠ gb230)); clear HO_5; clear BK228; clear BK230; clear HB; have HO_5 := n0_; have BK228 := n1_; have BK230 := n2_; have HB := n3_; have BK231 := n4_; have GW231 := n5_; have GE231 := n6_; have NB228_231 := n7_; have NB231_228 := n8_; have NB230_231 := n9_; have NB231_230 := n10_; clear n0_ n1_ n2_ n3_ n4_ n5_ n6_ n7_ n8_ n9_ n10_; clear hb hbox hg; have hnb32 := NB231_228.out; have hnc32 := NB228_231.out; have hnb33 := NB231_230.out; have hnc33 := NB230_231.out; have hcz34_0 : w31.cell? ⟨gb231, 0, none⟩ = some (.int .i64 0) := (bce BK231.out 0).trans rfl; have hcz34_1 : w31.cell? ⟨gb231, 1, none⟩ = some (.int .i64 0) := (bce BK231.out 1).trans rfl; have hcz34_2 : w31.cell? ⟨gb231, 2, none⟩ = some (.int .i64 0) := (bce BK231.out 2).trans rfl; have hcz34_3 : w31.cell? ⟨gb231, 3, none⟩ = some (.int .i64 0) := (bce BK231.out 3).trans rfl; have hcz34_4 : w31.cell? ⟨gb231, 4, none⟩ = some (.int .u64 0) := (bce BK231.out 4).trans rfl; have hfz34_0 := bfz BK231.out 0; have hfz34_1 := bfz BK231.out 1; have hfz34_2 := bfz BK231.out 2; have hfz34_3 := bfz BK231.out 3; have hfz34_4 := bfz BK231.out 4; have hcz35_0 : w31.cell? ⟨gb228, 0, none⟩ = some (.string a0_0) := (bce BK228.out 0).trans rfl; have hcz35_1 : w31.cell? ⟨gb228, 1, none⟩ = some (.slice A0_1 l0_1.length c0_1) := (bce BK228.out 1).trans rfl; have hcz35_2 : w31.cell? ⟨gb228, 2, none⟩ = some (.slice A0_2 l0_2.length c0_2) := (bce BK228.out 2).trans rfl; have hfz35_0 := bfz BK228.out 0; have hfz35_1 := bfz BK228.out 1; have hfz35_2 := bfz BK228.out 2; have hcz36_0 : w31.cell? ⟨gb230, 0, none⟩ = some (.int .i64 ((rd_T83 l1 x6_1).f0)) := (bce BK230.out 0).trans rfl; have hcz36_1 : w31.cell? ⟨gb230, 1, none⟩ = some (.int .i64 ((rd_T83 l1 x6_1).f1)) := (bce BK230.out 1).trans rfl; have hcz36_2 : w31.cell? ⟨gb230, 2, none⟩ = some (.int .i64 ((rd_T83 l1 x6_1).f2)) := (bce BK230.out 2).trans rfl; have hcz36_3 : w31.cell? ⟨gb230, 3, none⟩ = some (.int .i64 ((rd_T83 l1 x6_1).f3)) := (bce BK230.out 3).trans rfl; have hfz36_0 := bfz BK230.out 0; have hfz36_1 := bfz BK230.out 1; have hfz36_2 := bfz BK230.out 2; have hfz36_3 := bfz BK230.out 3) | ((with_reducible refine gate_callee (f := 40) rfl ?_); refine goesL_ (some 33) rfl rfl Tryz.func40 (by kernel_rfl) rfl #[.agg #[.string a0_0, .slice A0_1 l0_1.length c0_1, .slice A0_2 l0_2.length c0_2], .int .i64 ((rd_T83 l1 x6_1).f2)] rfl (by (try simp only [List.map_toArray, List.map_cons, List.map_nil]); first | done | rfl | (simp only [List.length_drop, List.length_take]; rfl)) ?_; (with_reducible refine (remontoirref18_Is.calls a0_0 _ _ l0_1 _ _ l0_2 ((rd_T83 l1 x6_1).f2) false _ ?side1 ?side2 ?side3 ?side4 A7.out).mono ?_); (case side1 => exact Kd.C_below HR0_1.out (by repeat (first | (with_reducible first | exact HB.out | apply bal | apply pbN | apply bd1 | refine bst ?_ GE228.out | refine bst ?_ GE230.out | refine bst ?_ GE231.out) | exact HB.out))); (case side2 => exact HC0_1.out); (case side3 => exact Kd.C_below HR0_2.out (by repeat (first | (with_reducible first | exact HB.out | apply bal | apply pbN | apply bd1 | refine bst ?_ GE228.out | refine bst ?_ GE230.out | refine bst ?_ GE231.out) | exact HB.out))); (case side4 => exact HC0_2.out); rintro e w37 ⟨rfl, hb⟩; refine ⟨_, rfl, ?_⟩; have n0_ := Aside0.mk (Kd.R_below (by (with_reducible repeat (first | apply Kd.R_alloc | apply Kd.R_drewN | apply Kd.R_drew)); exact (Kd.R_mono (Kd.R_far (p := ⟨gb231, 4, none⟩) (Kd.R_far (p := ⟨gb231, 3, none⟩) (Kd.R_far (p := ⟨gb231, 2, none⟩) (Kd.R_far (p := ⟨gb231, 1, none⟩) (Kd.R_far (p := ⟨gb231, 0, none⟩) (Kd.R_mono HO_5.out (fun k_ hk => (⟨hk, hk.2⟩ : _ ∧ k_ ≠ gb231))) (fun _ hk => hk.2) (.int .i64 1)) (fun _ hk => hk.2) (.int .i64 ((rd_T83 l1 x6_1).f3))) (fun _ hk => hk.2) (.int .i64 ((rd_T83 l1 x6_1).f2))) (fun _ hk => hk.2) (.int .i64 0)) (fun _ hk => hk.2) (.int .u64 0)) (fun _ h_ => h_.1))) hb); have n1_ := Aside0.mk (bbe (g := gb228) (o := .cells #[.string a0_0, .slice A0_1 l0_1.length c0_1, .slice A0_2 l0_2.length c0_2] 25 (0, 0)) (by (with_reducible repeat (first | refine bkn ?_ _ | refine bkd ?_ | refine bka ?_ _)); refine blk_far ?_ NB228_231.out _; (with_reducible repeat (first | refine bkn ?_ _ | refine bkd ?_ | refine bka ?_ _)); refine blk_far ?_ NB228_231.out _; (with_reducible repeat (first | refine bkn ?_ _ | refine bkd ?_ | refine bka ?_ _)); refine blk_far ?_ NB228_231.out _; (with_reducible repeat (first | refine bkn ?_ _ | refine bkd ?_ | refine bka ?_ _)); refine blk_far ?_ NB228_231.out _; (with_reducible repeat (first | refine bkn ?_ _ | refine bkd ?_ | refine bka ?_ _)); refine blk_far ?_ NB228_231.out _; (with_reducible repeat (first | refine bkn ?_ _ | refine bkd ?_ | refine bka ?_ _)); exact BK228.out) hb); have n2_ := Aside0.mk (bbe (g := gb230) (o := .cells #[.int .i64 ((rd_T83 l1 x6_1).f0), .int .i64 ((rd_T83 l1 x6_1).f1), .int .i64 ((rd_T83 l1 x6_1).f2), .int .i64 ((rd_T83 l1 x6_1).f3)] 83 (0, 0)) (by (with_reducible repeat (first | refine bkn ?_ _ | refine bkd ?_ | refine bka ?_ _)); refine blk_far ?_ NB230_231.out _; (with_reducible repeat (first | refine bkn ?_ _ | refine bkd ?_ | refine bka ?_ _)); refine blk_far ?_ NB230_231.out _; (with_reducible repeat (first | refine bkn ?_ _ | refine bkd ?_ | refine bka ?_ _)); refine blk_far ?_ NB230_231.out _; (with_reducible repeat (first | refine bkn ?_ _ | refine bkd ?_ | refine bka ?_ _)); refine blk_far ?_ NB230_231.out _; (with_reducible repeat (first | refine bkn ?_ _ | refine bkd ?_ | refine bka ?_ _)); refine blk_far ?_ NB230_231.out _; (with_reducible repeat (first | refine bkn ?_ _ | refine bkd ?_ | refine bka ?_ _)); exact BK230.out) hb); have n3_ := Aside0.mk (bbe (g := gb231) (o := .cells #[.int .i64 1, .int .i64 ((rd_T83 l1 x6_1).f3), .int .i64 ((rd_T83 l1 x6_1).f2), .int .i64 0, .int .u64 0] 76 (0, 0)) (by (with_reducible repeat (first | refine bkn ?_ _ | refine bkd ?_ | refine bka ?_ _)); refine blk_put (cs := #[.int .i64 1, .int .i64 ((rd_T83 l1 x6_1).f3), .int .i64 ((rd_T83 l1 x6_1).f2), .int .i64 0, .int .u64 0]) ?_ 4 _ rfl; (with_reducible repeat (first | refine bkn ?_ _ | refine bkd ?_ | refine bka ?_ _)); refine blk_put (cs := #[.int .i64 1, .int .i64 ((rd_T83 l1 x6_1).f3), .int .i64 ((rd_T83 l1 x6_1).f2), .int .i64 0, .int .u64 0]) ?_ 3 _ rfl; (with_reducible repeat (first | refine bkn ?_ _ | refine bkd ?_ | refine bka ?_ _)); refine blk_put (cs := #[.int .i64 1, .int .i64 ((rd_T83 l1 x6_1).f3), .int .i64 0, .int .i64 0, .int .u64 0]) ?_ 2 _ rfl; (with_reducible repeat (first | refine bkn ?_ _ | refine bkd ?_ | refine bka ?_ _)); refine blk_put (cs := #[.int .i64 1, .int .i64 0, .int .i64 0, .int .i64 0, .int .u64 0]) ?_ 1 _ rfl; (with_reducible repeat (first | refine bkn ?_ _ | refine bkd ?_ | refine bka ?_ _)); refine blk_put (cs := #[.int .i64 0, .int .i64 0, .int .i64 0, .int .i64 0, .int .u64 0]) ?_ 0 _ rfl; (with_reducible repeat (first | refine bkn ?_ _ | refine bkd ?_ | refine bka ?_ _)); exact BK231.out) hb); have n4_ := Aside0.mk (bsp (by repeat (first | (with_reducible first | exact HB.out | apply bal | apply pbN | apply bd1 | refine bst ?_ GE228.out | refine bst ?_ GE230.out | refine bst ?_ GE231.out) | exact HB.out)) hb); clear HO_5; clear BK228; clear BK230; clear BK231; clear HB; have HO_5 := n0_; have BK228 := n1_; have BK230 := n2_; have BK231 := n3_; have HB := n4_; clear n0_ n1_ n2_ n3_ n4_; (try clear hb); (try clear hb2); (try clear hk); (try clear hi); have hcz38_0 : w37.cell? ⟨gb231, 0, none⟩ = some (.int .i64 1) := (bce BK231.out 0).trans rfl; have hcz38_1 : w37.cell? ⟨gb231, 1, none⟩ = some (.int .i64 ((rd_T83 l1 x6_1).f3)) := (bce BK231.out 1).trans rfl; have hcz38_2 : w37.cell? ⟨gb231, 2, none⟩ = some (.int .i64 ((rd_T83 l1 x6_1).f2)) := (bce BK231.out 2).trans rfl; have hcz38_3 : w37.cell? ⟨gb231, 3, none⟩ = some (.int .i64 0) := (bce BK231.out 3).trans rfl; have hcz38_4 : w37.cell? ⟨gb231, 4, none⟩ = some (.int .u64 0) := (bce BK231.out 4).trans rfl; have hfz38_0 := bfz BK231.out 0; have hfz38_1 := bfz BK231.out 1; have hfz38_2 := bfz BK231.out 2; have hfz38_3 := bfz BK231.out 3; have hfz38_4 := bfz BK231.out 4) | ((with_reducible refine gate_builtin (b := .append) (xs := #[.tmp 43, .tmp 45]) rfl ?_); at_builtin; refine Kd.R_append k76 (w0 := w) w.heap.size rfl (.tmp 43) (.tmp 45) 27 76 (.agg #[(.int .i64 0), (.int .i64 0), (.int .i64 0), (.int .i64 0), (.int .u64 0)]) 40 rfl Tryz.underlying27 info76 rfl (by decide) (by omega) u5 x5_1 (⟨1, (rd_T83 l1 x6_1).f3, (rd_T83 l1 x6_1).f2, 0, 0⟩ : S76) [.int .i64 1, .int .i64 ((rd_T83 l1 x6_1).f3), .int .i64 ((rd_T83 l1 x6_1).f2), .int .i64 0, .int .u64 0] (fun k_ => k_ ≠ gb231) (fun _ => False) rfl rfl ?aP (fun _ hk => hk.elim) ?aF ?aO ?aB ?aS ?aL ?_; (case aP => exact k76_mkM _ _ _ (⟨1, (rd_T83 l1 x6_1).f3, (rd_T83 l1 x6_1).f2, 0, 0⟩ : S76)); (case aB => exact (by repeat (first | (with_reducible first | exact HB.out | apply bal | apply pbN | apply bd1 | refine bst ?_ GE228.out | refine bst ?_ GE230.out | refine bst ?_ GE231.out) | exact HB.out))); (case aF => exact (fun k_ hk => Kd.freshB (g := gb231) (o := .cells #[.int .i64 1, .int .i64 ((rd_T83 l1 x6_1).f3), .int .i64 ((rd_T83 l1 x6_1).f2), .int .i64 0, .int .u64 0] 76 (0, 0)) (by (with_reducible repeat (first | refine bkn ?_ _ | refine bkd ?_ | refine bka ?_ _)); exact BK231.out) k_ hk)); (case aO => exact (by (with_reducible repeat (first | apply Kd.R_alloc | apply Kd.R_drewN | apply Kd.R_drew)); exact Kd.R_mono HO_5.out (fun _ hk => hk.2))); (case aS => exact (bsz (by repeat (first | (with_reducible first | exact HB.out | apply bal | apply pbN | apply bd1 | refine bst ?_ GE228.out | refine bst ?_ GE230.out | refine bst ?_ GE231.out) | exact HB.out)))); (case aL => have := LMc27.out; omega); intro v238 w39 ho hb hg hat; rw [← Ny237.out] at ho; have n0_ := Aside0.mk (blk_grown (g := gb228) (o := .cells #[.string a0_0, .slice A0_1 l0_1.length c0_1, .slice A0_2 l0_2.length c0_2] 25 (0, 0)) (by (with_reducible repeat (first | refine bkn ?_ _ | refine bkd ?_ | refine bka ?_ _)); exact BK228.out) hg (Kd.R_ne HO_5.out BK228.out (by decide))); have n1_ := Aside0.mk (blk_grown (g := gb230) (o := .cells #[.int .i64 ((rd_T83 l1 x6_1).f0), .int .i64 ((rd_T83 l1 x6_1).f1), .int .i64 ((rd_T83 l1 x6_1).f2), .int .i64 ((rd_T83 l1 x6_1).f3)] 83 (0, 0)) (by (with_reducible repeat (first | refine bkn ?_ _ | refine bkd ?_ | refine bka ?_ _)); exact BK230.out) hg (Kd.R_ne HO_5.out BK230.out (by decide))); have n2_ := Aside0.mk (blk_grown (g := gb231) (o := .cells #[.int .i64 1, .int .i64 ((rd_T83 l1 x6_1).f3), .int .i64 ((rd_T83 l1 x6_1).f2), .int .i64 0, .int .u64 0] 76 (0, 0)) (by (with_reducible repeat (first | refine bkn ?_ _ | refine bkd ?_ | refine bka ?_ _)); exact BK231.out) hg (Kd.R_away HO_5.out (fun _ hk => hk.2))); have n3_ := Aside0.mk (hb); have n4_ := Aside0.mk (ho); clear BK228; clear BK230; clear BK231; clear HB; clear HO_5; have BK228 := n0_; have BK230 := n1_; have BK231 := n2_; have HB := n3_; have HO239 := n4_; clear n0_ n1_ n2_ n3_ n4_; clear ho hb hg hat))
        go_roundg k1
        case measure => have := HK1.out; omega
        case rel => exact ⟨(y237), (wrap64 (x6_1 + 1)), (by first | rfl | (simp; done) | (simp [*]; done)), H', ⟨by have := HK1.out; omega⟩, ⟨by (with_reducible repeat (first | apply Kd.R_alloc | apply Kd.R_drewN | apply Kd.R_drew)); exact Kd.R_mono HO239.out (fun _ hk => trivial)⟩, ⟨by (with_reducible repeat (first | refine bkn ?_ _ | refine bkd ?_ | refine bka ?_ _)); exact BK228.out⟩, ⟨by repeat (first | (with_reducible first | exact HB.out | apply bal | apply pbN | apply bd1 | refine bst ?_ GE228.out | refine bst ?_ GE230.out | refine bst ?_ GE231.out) | exact HB.out)⟩⟩
       ·rw [if_neg c27] at H
        exact absurd H (by simp)
     ·rw [if_neg c6] at H
      have c6b0 : (((rd_T83 l1 x6_1).f0) == 2) = false := beq_eq_false_iff_ne.mpr c6
      have c6b1 : (((rd_T83 l1 x6_1).f0) != 2) = true := bne_iff_ne.mpr c6
      by_cases c40 : ((rd_T83 l1 x6_1).f0) = 3
      ·rw [if_pos c40] at H
       have c40b0 : (((rd_T83 l1 x6_1).f0) == 3) = true := beq_iff_eq.mpr c40
       have c40b1 : (((rd_T83 l1 x6_1).f0) != 3) = false := bne_eq_false_iff_eq.mpr c40
       clear c40
       replace H := Option.bind_eq_some_iff.mp H
       obtain ⟨⟨t240, t241, t242⟩, A410, H⟩ := H
       replace H : (if x5_1.length < 3518437208883 then (remontoirref27_Of.l0 k1 l1 (x5_1 ++ [(⟨2, (rd_T83 l1 x6_1).f3, (rd_T83 l1 x6_1).f2, 0, t241⟩ : S76)]) (wrap64 (x6_1 + 1)) a0_0 l0_1 l0_2) else (none)) = some r := H
       have A41 := Aside0.mk A410
       clear A410
       by_cases c42 : x5_1.length < 3518437208883
       ·rw [if_pos c42] at H
        have LMc42 := Aside0.mk c42
        clear c42
        obtain ⟨y244, hy244⟩ : ∃ y_ : List (S76), y_ = (x5_1 ++ [(⟨2, (rd_T83 l1 x6_1).f3, (rd_T83 l1 x6_1).f2, 0, t241⟩ : S76)]) := ⟨_, rfl⟩
        replace H : (remontoirref27_Of.l0 k1 l1 y244 (wrap64 (x6_1 + 1)) a0_0 l0_1 l0_2) = some r := by first | (rw [hy244]; with_reducible exact H) | (have H2_ := (Option.bind_some _ _).symm.trans H; rw [hy244]; with_reducible exact H2_) | (have H2_ := (Option.bind_some _ _).symm.trans H; with_reducible exact H2_) | with_reducible exact H | (rw [hy244]; exact H) | exact H
        have Ny244 := Aside0.mk hy244
        clear hy244
        have H' := Aside0.mk H
        clear H
        have p229 : 0 ≤ (x6_1 : Int) := of_decide_eq_true (by first | (with_reducible assumption) | assumption)
        have q229 : x6_1 < (l1.length : Int) := of_decide_eq_true (by first | (with_reducible assumption) | assumption)
        obtain ⟨ad229, e229, hx229_0, hx229_1, hx229_2, hx229_3⟩ := at_T83 HR1.out x6_1 p229 q229
        cases e229
        replace hx229_0 := (HB.out.cell (World.block_lt_of_cell? w _ hx229_0)).trans hx229_0
        replace hx229_1 := (HB.out.cell (World.block_lt_of_cell? w _ hx229_1)).trans hx229_1
        replace hx229_2 := (HB.out.cell (World.block_lt_of_cell? w _ hx229_2)).trans hx229_2
        replace hx229_3 := (HB.out.cell (World.block_lt_of_cell? w _ hx229_3)).trans hx229_3
        replace p229 := eq_true p229
        replace q229 := eq_true q229
        go_wp2_with (first | ((with_reducible refine gate_dst (N := 7) rfl ?_); refine box_event ?hg (N := 7) ?hd (cs := #[.int .i64 0, .int .i64 0, .int .i64 0, .int .i64 0]) (t := 83) ?hr ?_; (case hd => rfl); (case hg => rfl); (case hr => first | (go_simp; done) | (go_simp; rfl)); intro gb230 hg w43 hbox hb; have n0_ := Aside0.mk (Kd.R_below (by (with_reducible repeat (first | apply Kd.R_alloc | apply Kd.R_drewN | apply Kd.R_drew)); exact HO_5.out) hb); have n1_ := Aside0.mk (bbe (g := gb228) (o := .cells #[.string a0_0, .slice A0_1 l0_1.length c0_1, .slice A0_2 l0_2.length c0_2] 25 (0, 0)) (by (with_reducible repeat (first | refine bkn ?_ _ | refine bkd ?_ | refine bka ?_ _)); exact BK228.out) hb); have n2_ := Aside0.mk (bsp (by repeat (first | (with_reducible first | exact HB.out | apply bal | apply pbN | apply bd1 | refine bst ?_ GE228.out) | exact HB.out)) hb); have n3_ := Aside0.mk (hbox); have n4_ := Aside0.mk ((by rw [hg]; exact (bsz (by repeat (first | (with_reducible first | exact HB.out | apply bal | apply pbN | apply bd1 | refine bst ?_ GE228.out) | exact HB.out))) : w.heap.size ≤ gb230)); have n5_ := Aside0.mk ((by rw [hg]; exact (bsz (by repeat (first | (with_reducible first | exact HB.out | apply bal | apply pbN | apply bd1 | refine bst ?_ GE228.out) | exact HB.out))) : w.heap.size ≤ gb230)); have n6_ := Aside0.mk ((by rw [hg]; exact Nat.ne_of_lt (blk_lt (g := gb228) (o := .cells #[.string a0_0, .slice A0_1 l0_1.length c0_1, .slice A0_2 l0_2.length c0_2] 25 (0, 0)) (by (with_reducible repeat (first | refine bkn ?_ _ | refine bkd ?_ | refine bka ?_ _)); exact BK228.out)) : gb228 ≠ gb230)); have n7_ := Aside0.mk ((by rw [hg]; exact Nat.ne_of_gt (blk_lt (g := gb228) (o := .cells #[.string a0_0, .slice A0_1 l0_1.length c0_1, .slice A0_2 l0_2.length c0_2] 25 (0, 0)) (by (with_reducible repeat (first | refine bkn ?_ _ | refine bkd ?_ | refine bka ?_ _)); exact BK228.out)) : gb230 ≠ gb228)); clear HO_5; clear BK228; clear HB; have HO_5 := n0_; have BK228 := n1_; have HB := n2_; have BK230 := n3_; have GW230 := n4_; have GE230 := n5_; have NB228_230 := n6_; have NB230_228 := n7_; clear n0_ n1_ n2_ n3_ n4_ n5_ n6_ n7_; clear hb hbox hg; have hnb44 := NB230_228.out; have hnc44 := NB228_230.out; have hcz45_0 : w43.cell? ⟨gb230, 0, none⟩ = some (.int .i64 0) := (bce BK230.out 0).trans rfl; have hcz45_1 : w43.cell? ⟨gb230, 1, none⟩ = some (.int .i64 0) := (bce BK230.out 1).trans rfl; have hcz45_2 : w43.cell? ⟨gb230, 2, none⟩ = some (.int .i64 0) := (bce BK230.out 2).trans rfl; have hcz45_3 : w43.cell? ⟨gb230, 3, none⟩ = some (.int .i64 0) := (bce BK230.out 3).trans rfl; have hfz45_0 := bfz BK230.out 0; have hfz45_1 := bfz BK230.out 1; have hfz45_2 := bfz BK230.out 2; have hfz45_3 := bfz BK230.out 3; have hcz46_0 : w43.cell? ⟨gb228, 0, none⟩ = some (.string a0_0) := (bce BK228.out 0).trans rfl; have hcz46_1 : w43.cell? ⟨gb228, 1, none⟩ = some (.slice A0_1 l0_1.length c0_1) := (bce BK228.out 1).trans rfl; have hcz46_2 : w43.cell? ⟨gb228, 2, none⟩ = some (.slice A0_2 l0_2.length c0_2) := (bce BK228.out 2).trans rfl; have hfz46_0 := bfz BK228.out 0; have hfz46_1 := bfz BK228.out 1; have hfz46_2 := bfz BK228.out 2) | ((with_reducible refine gate_callee (f := 41) rfl ?_); refine goesL_ (some 53) rfl rfl Tryz.func41 (by kernel_rfl) rfl #[.agg #[.string a0_0, .slice A0_1 l0_1.length c0_1, .slice A0_2 l0_2.length c0_2], .int .i64 ((rd_T83 l1 x6_1).f2)] rfl (by (try simp only [List.map_toArray, List.map_cons, List.map_nil]); first | done | rfl | (simp only [List.length_drop, List.length_take]; rfl)) ?_; (with_reducible refine (remontoirref18_Time.calls k1 a0_0 _ _ l0_1 _ _ l0_2 ((rd_T83 l1 x6_1).f2) t240 t241 t242 _ ?side1 ?side2 ?side3 ?side4 A41.out).mono ?_); (case side1 => exact Kd.C_below HR0_1.out (by repeat (first | (with_reducible first | exact HB.out | apply bal | apply pbN | apply bd1 | refine bst ?_ GE228.out | refine bst ?_ GE230.out) | exact HB.out))); (case side2 => exact HC0_1.out); (case side3 => exact Kd.C_below HR0_2.out (by repeat (first | (with_reducible first | exact HB.out | apply bal | apply pbN | apply bd1 | refine bst ?_ GE228.out | refine bst ?_ GE230.out) | exact HB.out))); (case side4 => exact HC0_2.out); rintro e w47 ⟨rfl, hb⟩; refine ⟨_, rfl, ?_⟩; have n0_ := Aside0.mk (Kd.R_below (by (with_reducible repeat (first | apply Kd.R_alloc | apply Kd.R_drewN | apply Kd.R_drew)); exact (Kd.R_mono (Kd.R_far (p := ⟨gb230, 3, none⟩) (Kd.R_far (p := ⟨gb230, 2, none⟩) (Kd.R_far (p := ⟨gb230, 1, none⟩) (Kd.R_far (p := ⟨gb230, 0, none⟩) (Kd.R_types HO_5.out BK230.out (by decide)) (fun _ hk => hk.2) (.int .i64 ((rd_T83 l1 x6_1).f0))) (fun _ hk => hk.2) (.int .i64 ((rd_T83 l1 x6_1).f1))) (fun _ hk => hk.2) (.int .i64 ((rd_T83 l1 x6_1).f2))) (fun _ hk => hk.2) (.int .i64 ((rd_T83 l1 x6_1).f3))) (fun _ h_ => h_.1))) hb); have n1_ := Aside0.mk (bbe (g := gb228) (o := .cells #[.string a0_0, .slice A0_1 l0_1.length c0_1, .slice A0_2 l0_2.length c0_2] 25 (0, 0)) (by (with_reducible repeat (first | refine bkn ?_ _ | refine bkd ?_ | refine bka ?_ _)); refine blk_far ?_ NB228_230.out _; (with_reducible repeat (first | refine bkn ?_ _ | refine bkd ?_ | refine bka ?_ _)); refine blk_far ?_ NB228_230.out _; (with_reducible repeat (first | refine bkn ?_ _ | refine bkd ?_ | refine bka ?_ _)); refine blk_far ?_ NB228_230.out _; (with_reducible repeat (first | refine bkn ?_ _ | refine bkd ?_ | refine bka ?_ _)); refine blk_far ?_ NB228_230.out _; (with_reducible repeat (first | refine bkn ?_ _ | refine bkd ?_ | refine bka ?_ _)); exact BK228.out) hb); have n2_ := Aside0.mk (bbe (g := gb230) (o := .cells #[.int .i64 ((rd_T83 l1 x6_1).f0), .int .i64 ((rd_T83 l1 x6_1).f1), .int .i64 ((rd_T83 l1 x6_1).f2), .int .i64 ((rd_T83 l1 x6_1).f3)] 83 (0, 0)) (by (with_reducible repeat (first | refine bkn ?_ _ | refine bkd ?_ | refine bka ?_ _)); refine blk_put (cs := #[.int .i64 ((rd_T83 l1 x6_1).f0), .int .i64 ((rd_T83 l1 x6_1).f1), .int .i64 ((rd_T83 l1 x6_1).f2), .int .i64 0]) ?_ 3 _ rfl; (with_reducible repeat (first | refine bkn ?_ _ | refine bkd ?_ | refine bka ?_ _)); refine blk_put (cs := #[.int .i64 ((rd_T83 l1 x6_1).f0), .int .i64 ((rd_T83 l1 x6_1).f1), .int .i64 0, .int .i64 0]) ?_ 2 _ rfl; (with_reducible repeat (first | refine bkn ?_ _ | refine bkd ?_ | refine bka ?_ _)); refine blk_put (cs := #[.int .i64 ((rd_T83 l1 x6_1).f0), .int .i64 0, .int .i64 0, .int .i64 0]) ?_ 1 _ rfl; (with_reducible repeat (first | refine bkn ?_ _ | refine bkd ?_ | refine bka ?_ _)); refine blk_put (cs := #[.int .i64 0, .int .i64 0, .int .i64 0, .int .i64 0]) ?_ 0 _ rfl; (with_reducible repeat (first | refine bkn ?_ _ | refine bkd ?_ | refine bka ?_ _)); exact BK230.out) hb); have n3_ := Aside0.mk (bsp (by repeat (first | (with_reducible first | exact HB.out | apply bal | apply pbN | apply bd1 | refine bst ?_ GE228.out | refine bst ?_ GE230.out) | exact HB.out)) hb); clear HO_5; clear BK228; clear BK230; clear HB; have HO_5 := n0_; have BK228 := n1_; have BK230 := n2_; have HB := n3_; clear n0_ n1_ n2_ n3_; (try clear hb); (try clear hb2); (try clear hk); (try clear hi)) | ((with_reducible refine gate_dst (N := 9) rfl ?_); refine box_event ?hg (N := 9) ?hd (cs := #[.int .i64 0, .int .u64 0]) (t := 88) ?hr ?_; (case hd => rfl); (case hg => rfl); (case hr => first | (go_simp; done) | (go_simp; rfl)); intro gb243 hg w48 hbox hb; have n0_ := Aside0.mk (Kd.R_below (by (with_reducible repeat (first | apply Kd.R_alloc | apply Kd.R_drewN | apply Kd.R_drew)); exact HO_5.out) hb); have n1_ := Aside0.mk (bbe (g := gb228) (o := .cells #[.string a0_0, .slice A0_1 l0_1.length c0_1, .slice A0_2 l0_2.length c0_2] 25 (0, 0)) (by (with_reducible repeat (first | refine bkn ?_ _ | refine bkd ?_ | refine bka ?_ _)); exact BK228.out) hb); have n2_ := Aside0.mk (bbe (g := gb230) (o := .cells #[.int .i64 ((rd_T83 l1 x6_1).f0), .int .i64 ((rd_T83 l1 x6_1).f1), .int .i64 ((rd_T83 l1 x6_1).f2), .int .i64 ((rd_T83 l1 x6_1).f3)] 83 (0, 0)) (by (with_reducible repeat (first | refine bkn ?_ _ | refine bkd ?_ | refine bka ?_ _)); exact BK230.out) hb); have n3_ := Aside0.mk (bsp (by repeat (first | (with_reducible first | exact HB.out | apply bal | apply pbN | apply bd1 | refine bst ?_ GE228.out | refine bst ?_ GE230.out) | exact HB.out)) hb); have n4_ := Aside0.mk (hbox); have n5_ := Aside0.mk ((by rw [hg]; exact (bsz (by repeat (first | (with_reducible first | exact HB.out | apply bal | apply pbN | apply bd1 | refine bst ?_ GE228.out | refine bst ?_ GE230.out) | exact HB.out))) : w.heap.size ≤ gb243)); have n6_ := Aside0.mk ((by rw [hg]; exact (bsz (by repeat (first | (with_reducible first | exact HB.out | apply bal | apply pbN | apply bd1 | refine bst ?_ GE228.out | refine bst ?_ GE230.out) | exact HB.out))) : w.heap.size ≤ gb243)); have n7_ := Aside0.mk ((by rw [hg]; exact Nat.ne_of_lt (blk_lt (g := gb228) (o := .cells #[.string a0_0, .slice A0_1 l0_1.length c0_1, .slice A0_2 l0_2.length c0_2] 25 (0, 0)) (by (with_reducible repeat (first | refine bkn ?_ _ | refine bkd ?_ | refine bka ?_ _)); exact BK228.out)) : gb228 ≠ gb243)); have n8_ := Aside0.mk ((by rw [hg]; exact Nat.ne_of_gt (blk_lt (g := gb228) (o := .cells #[.string a0_0, .slice A0_1 l0_1.length c0_1, .slice A0_2 l0_2.length c0_2] 25 (0, 0)) (by (with_reducible repeat (first | refine bkn ?_ _ | refine bkd ?_ | refine bka ?_ _)); exact BK228.out)) : gb243 ≠ gb228)); have n9_ := Aside0.mk ((by rw [hg]; exact Nat.ne_of_lt (blk_lt (g := gb230) (o := .cells #[.int .i64 ((rd_T83 l1 x6_1).f0), .int .i64 ((rd_T83 l1 x6_1).f1), .int .i64 ((rd_T83 l1 x6_1).f2), .int .i64 ((rd_T83 l1 x6_1).f3)] 83 (0, 0)) (by (with_reducible repeat (first | refine bkn ?_ _ | refine bkd ?_ | refine bka ?_ _)); exact BK230.out)) : gb230 ≠ gb243)); have n10_ := Aside0.mk ((by rw [hg]; exact Nat.ne_of_gt (blk_lt (g := gb230) (o := .cells #[.int .i64 ((rd_T83 l1 x6_1).f0), .int .i64 ((rd_T83 l1 x6_1).f1), .int .i64 ((rd_T83 l1 x6_1).f2), .int .i64 ((rd_T83 l1 x6_1).f3)] 83 (0, 0)) (by (with_reducible repeat (first | refine bkn ?_ _ | refine bkd ?_ | refine bka ?_ _)); exact BK230.out)) : gb243 ≠ gb230)); clear HO_5; clear BK228; clear BK230; clear HB; have HO_5 := n0_; have BK228 := n1_; have BK230 := n2_; have HB := n3_; have BK243 := n4_; have GW243 := n5_; have GE243 := n6_; have NB228_243 := n7_; have NB243_228 := n8_; have NB230_243 := n9_; have NB243_230 := n10_; clear n0_ n1_ n2_ n3_ n4_ n5_ n6_ n7_ n8_ n9_ n10_; clear hb hbox hg; have hnb49 := NB243_228.out; have hnc49 := NB228_243.out; have hnb50 := NB243_230.out; have hnc50 := NB230_243.out; have hcz51_0 : w48.cell? ⟨gb243, 0, none⟩ = some (.int .i64 0) := (bce BK243.out 0).trans rfl; have hcz51_1 : w48.cell? ⟨gb243, 1, none⟩ = some (.int .u64 0) := (bce BK243.out 1).trans rfl; have hfz51_0 := bfz BK243.out 0; have hfz51_1 := bfz BK243.out 1; have hcz52_0 : w48.cell? ⟨gb230, 0, none⟩ = some (.int .i64 ((rd_T83 l1 x6_1).f0)) := (bce BK230.out 0).trans rfl; have hcz52_1 : w48.cell? ⟨gb230, 1, none⟩ = some (.int .i64 ((rd_T83 l1 x6_1).f1)) := (bce BK230.out 1).trans rfl; have hcz52_2 : w48.cell? ⟨gb230, 2, none⟩ = some (.int .i64 ((rd_T83 l1 x6_1).f2)) := (bce BK230.out 2).trans rfl; have hcz52_3 : w48.cell? ⟨gb230, 3, none⟩ = some (.int .i64 ((rd_T83 l1 x6_1).f3)) := (bce BK230.out 3).trans rfl; have hfz52_0 := bfz BK230.out 0; have hfz52_1 := bfz BK230.out 1; have hfz52_2 := bfz BK230.out 2; have hfz52_3 := bfz BK230.out 3) | ((with_reducible refine gate_builtin (b := .append) (xs := #[.tmp 56, .tmp 64]) rfl ?_); at_builtin; refine Kd.R_append k76 (w0 := w) w.heap.size rfl (.tmp 56) (.tmp 64) 27 76 (.agg #[(.int .i64 0), (.int .i64 0), (.int .i64 0), (.int .i64 0), (.int .u64 0)]) 40 rfl Tryz.underlying27 info76 rfl (by decide) (by omega) u5 x5_1 (⟨2, (rd_T83 l1 x6_1).f3, (rd_T83 l1 x6_1).f2, 0, t241⟩ : S76) [.int .i64 2, .int .i64 ((rd_T83 l1 x6_1).f3), .int .i64 ((rd_T83 l1 x6_1).f2), .int .i64 0, .int .u64 t241] (fun _ => True) (fun _ => False) rfl (by first | (go_simp; done) | (go_simp; rfl)) ?aP (fun _ hk => hk.elim) ?aF ?aO ?aB ?aS ?aL ?_; (case aP => exact k76_mkM _ _ _ (⟨2, (rd_T83 l1 x6_1).f3, (rd_T83 l1 x6_1).f2, 0, t241⟩ : S76)); (case aB => exact (by repeat (first | (with_reducible first | exact HB.out | apply bal | apply pbN | apply bd1 | refine bst ?_ GE228.out | refine bst ?_ GE230.out | refine bst ?_ GE243.out) | exact HB.out))); (case aF => exact (fun _ _ => trivial)); (case aO => exact (by (with_reducible repeat (first | apply Kd.R_alloc | apply Kd.R_drewN | apply Kd.R_drew)); exact Kd.R_mono (Kd.R_far (p := ⟨gb243, 1, none⟩) (Kd.R_far (p := ⟨gb243, 0, none⟩) (Kd.R_types HO_5.out BK243.out (by decide)) (fun _ hk => hk.2) (.int .i64 t240)) (fun _ hk => hk.2) (.int .u64 t241)) (fun _ hk => trivial))); (case aS => exact (bsz (by repeat (first | (with_reducible first | exact HB.out | apply bal | apply pbN | apply bd1 | refine bst ?_ GE228.out | refine bst ?_ GE230.out | refine bst ?_ GE243.out) | exact HB.out)))); (case aL => have := LMc42.out; omega); intro v245 w53 ho hb hg hat; rw [← Ny244.out] at ho; have n0_ := Aside0.mk (blk_grown (g := gb228) (o := .cells #[.string a0_0, .slice A0_1 l0_1.length c0_1, .slice A0_2 l0_2.length c0_2] 25 (0, 0)) (by (with_reducible repeat (first | refine bkn ?_ _ | refine bkd ?_ | refine bka ?_ _)); refine blk_far ?_ NB228_243.out _; (with_reducible repeat (first | refine bkn ?_ _ | refine bkd ?_ | refine bka ?_ _)); refine blk_far ?_ NB228_243.out _; (with_reducible repeat (first | refine bkn ?_ _ | refine bkd ?_ | refine bka ?_ _)); exact BK228.out) hg (Kd.R_ne HO_5.out BK228.out (by decide))); have n1_ := Aside0.mk (blk_grown (g := gb230) (o := .cells #[.int .i64 ((rd_T83 l1 x6_1).f0), .int .i64 ((rd_T83 l1 x6_1).f1), .int .i64 ((rd_T83 l1 x6_1).f2), .int .i64 ((rd_T83 l1 x6_1).f3)] 83 (0, 0)) (by (with_reducible repeat (first | refine bkn ?_ _ | refine bkd ?_ | refine bka ?_ _)); refine blk_far ?_ NB230_243.out _; (with_reducible repeat (first | refine bkn ?_ _ | refine bkd ?_ | refine bka ?_ _)); refine blk_far ?_ NB230_243.out _; (with_reducible repeat (first | refine bkn ?_ _ | refine bkd ?_ | refine bka ?_ _)); exact BK230.out) hg (Kd.R_ne HO_5.out BK230.out (by decide))); have n2_ := Aside0.mk (blk_grown (g := gb243) (o := .cells #[.int .i64 t240, .int .u64 t241] 88 (0, 0)) (by (with_reducible repeat (first | refine bkn ?_ _ | refine bkd ?_ | refine bka ?_ _)); refine blk_put (cs := #[.int .i64 t240, .int .u64 0]) ?_ 1 _ rfl; (with_reducible repeat (first | refine bkn ?_ _ | refine bkd ?_ | refine bka ?_ _)); refine blk_put (cs := #[.int .i64 0, .int .u64 0]) ?_ 0 _ rfl; (with_reducible repeat (first | refine bkn ?_ _ | refine bkd ?_ | refine bka ?_ _)); exact BK243.out) hg (Kd.R_ne HO_5.out BK243.out (by decide))); have n3_ := Aside0.mk (hb); have n4_ := Aside0.mk (ho); clear BK228; clear BK230; clear BK243; clear HB; clear HO_5; have BK228 := n0_; have BK230 := n1_; have BK243 := n2_; have HB := n3_; have HO246 := n4_; clear n0_ n1_ n2_ n3_ n4_; clear ho hb hg hat))
        go_roundg k1
        case measure => have := HK1.out; omega
        case rel => exact ⟨(y244), (wrap64 (x6_1 + 1)), (by first | rfl | (simp; done) | (simp [*]; done)), H', ⟨by have := HK1.out; omega⟩, ⟨by (with_reducible repeat (first | apply Kd.R_alloc | apply Kd.R_drewN | apply Kd.R_drew)); exact HO246.out⟩, ⟨by (with_reducible repeat (first | refine bkn ?_ _ | refine bkd ?_ | refine bka ?_ _)); exact BK228.out⟩, ⟨by repeat (first | (with_reducible first | exact HB.out | apply bal | apply pbN | apply bd1 | refine bst ?_ GE228.out | refine bst ?_ GE230.out | refine bst ?_ GE243.out) | exact HB.out)⟩⟩
       ·rw [if_neg c42] at H
        exact absurd H (by simp)
      ·rw [if_neg c40] at H
       have c40b0 : (((rd_T83 l1 x6_1).f0) == 3) = false := beq_eq_false_iff_ne.mpr c40
       have c40b1 : (((rd_T83 l1 x6_1).f0) != 3) = true := bne_iff_ne.mpr c40
       by_cases c54 : ((rd_T83 l1 x6_1).f0) = 4
       ·rw [if_pos c54] at H
        have c54b0 : (((rd_T83 l1 x6_1).f0) == 4) = true := beq_iff_eq.mpr c54
        have c54b1 : (((rd_T83 l1 x6_1).f0) != 4) = false := bne_eq_false_iff_eq.mpr c54
        clear c54
        by_cases c55 : x5_1.length < 3518437208883
        ·rw [if_pos c55] at H
         have LMc55 := Aside0.mk c55
         clear c55
         obtain ⟨y247, hy247⟩ : ∃ y_ : List (S76), y_ = (x5_1 ++ [(⟨3, (rd_T83 l1 x6_1).f3, 0, 0, 0⟩ : S76)]) := ⟨_, rfl⟩
         replace H : (remontoirref27_Of.l0 k1 l1 y247 (wrap64 (x6_1 + 1)) a0_0 l0_1 l0_2) = some r := by first | (rw [hy247]; with_reducible exact H) | (have H2_ := (Option.bind_some _ _).symm.trans H; rw [hy247]; with_reducible exact H2_) | (have H2_ := (Option.bind_some _ _).symm.trans H; with_reducible exact H2_) | with_reducible exact H | (rw [hy247]; exact H) | exact H
         have Ny247 := Aside0.mk hy247
         clear hy247
         have H' := Aside0.mk H
         clear H
         have p229 : 0 ≤ (x6_1 : Int) := of_decide_eq_true (by first | (with_reducible assumption) | assumption)
         have q229 : x6_1 < (l1.length : Int) := of_decide_eq_true (by first | (with_reducible assumption) | assumption)
         obtain ⟨ad229, e229, hx229_0, hx229_1, hx229_2, hx229_3⟩ := at_T83 HR1.out x6_1 p229 q229
         cases e229
         replace hx229_0 := (HB.out.cell (World.block_lt_of_cell? w _ hx229_0)).trans hx229_0
         replace hx229_1 := (HB.out.cell (World.block_lt_of_cell? w _ hx229_1)).trans hx229_1
         replace hx229_2 := (HB.out.cell (World.block_lt_of_cell? w _ hx229_2)).trans hx229_2
         replace hx229_3 := (HB.out.cell (World.block_lt_of_cell? w _ hx229_3)).trans hx229_3
         replace p229 := eq_true p229
         replace q229 := eq_true q229
         go_wp2_with (first | ((with_reducible refine gate_dst (N := 7) rfl ?_); refine box_event ?hg (N := 7) ?hd (cs := #[.int .i64 0, .int .i64 0, .int .i64 0, .int .i64 0]) (t := 83) ?hr ?_; (case hd => rfl); (case hg => rfl); (case hr => first | (go_simp; done) | (go_simp; rfl)); intro gb230 hg w56 hbox hb; have n0_ := Aside0.mk (Kd.R_below (by (with_reducible repeat (first | apply Kd.R_alloc | apply Kd.R_drewN | apply Kd.R_drew)); exact HO_5.out) hb); have n1_ := Aside0.mk (bbe (g := gb228) (o := .cells #[.string a0_0, .slice A0_1 l0_1.length c0_1, .slice A0_2 l0_2.length c0_2] 25 (0, 0)) (by (with_reducible repeat (first | refine bkn ?_ _ | refine bkd ?_ | refine bka ?_ _)); exact BK228.out) hb); have n2_ := Aside0.mk (bsp (by repeat (first | (with_reducible first | exact HB.out | apply bal | apply pbN | apply bd1 | refine bst ?_ GE228.out) | exact HB.out)) hb); have n3_ := Aside0.mk (hbox); have n4_ := Aside0.mk ((by rw [hg]; exact (bsz (by repeat (first | (with_reducible first | exact HB.out | apply bal | apply pbN | apply bd1 | refine bst ?_ GE228.out) | exact HB.out))) : w.heap.size ≤ gb230)); have n5_ := Aside0.mk ((by rw [hg]; exact (bsz (by repeat (first | (with_reducible first | exact HB.out | apply bal | apply pbN | apply bd1 | refine bst ?_ GE228.out) | exact HB.out))) : w.heap.size ≤ gb230)); have n6_ := Aside0.mk ((by rw [hg]; exact Nat.ne_of_lt (blk_lt (g := gb228) (o := .cells #[.string a0_0, .slice A0_1 l0_1.length c0_1, .slice A0_2 l0_2.length c0_2] 25 (0, 0)) (by (with_reducible repeat (first | refine bkn ?_ _ | refine bkd ?_ | refine bka ?_ _)); exact BK228.out)) : gb228 ≠ gb230)); have n7_ := Aside0.mk ((by rw [hg]; exact Nat.ne_of_gt (blk_lt (g := gb228) (o := .cells #[.string a0_0, .slice A0_1 l0_1.length c0_1, .slice A0_2 l0_2.length c0_2] 25 (0, 0)) (by (with_reducible repeat (first | refine bkn ?_ _ | refine bkd ?_ | refine bka ?_ _)); exact BK228.out)) : gb230 ≠ gb228)); clear HO_5; clear BK228; clear HB; have HO_5 := n0_; have BK228 := n1_; have HB := n2_; have BK230 := n3_; have GW230 := n4_; have GE230 := n5_; have NB228_230 := n6_; have NB230_228 := n7_; clear n0_ n1_ n2_ n3_ n4_ n5_ n6_ n7_; clear hb hbox hg; have hnb57 := NB230_228.out; have hnc57 := NB228_230.out; have hcz58_0 : w56.cell? ⟨gb230, 0, none⟩ = some (.int .i64 0) := (bce BK230.out 0).trans rfl; have hcz58_1 : w56.cell? ⟨gb230, 1, none⟩ = some (.int .i64 0) := (bce BK230.out 1).trans rfl; have hcz58_2 : w56.cell? ⟨gb230, 2, none⟩ = some (.int .i64 0) := (bce BK230.out 2).trans rfl; have hcz58_3 : w56.cell? ⟨gb230, 3, none⟩ = some (.int .i64 0) := (bce BK230.out 3).trans rfl; have hfz58_0 := bfz BK230.out 0; have hfz58_1 := bfz BK230.out 1; have hfz58_2 := bfz BK230.out 2; have hfz58_3 := bfz BK230.out 3) | ((with_reducible refine gate_builtin (b := .append) (xs := #[.tmp 68, .tmp 72]) rfl ?_); at_builtin; refine Kd.R_append k76 (w0 := w) w.heap.size rfl (.tmp 68) (.tmp 72) 27 76 (.agg #[(.int .i64 0), (.int .i64 0), (.int .i64 0), (.int .i64 0), (.int .u64 0)]) 40 rfl Tryz.underlying27 info76 rfl (by decide) (by omega) u5 x5_1 (⟨3, (rd_T83 l1 x6_1).f3, 0, 0, 0⟩ : S76) [.int .i64 3, .int .i64 ((rd_T83 l1 x6_1).f3), .int .i64 0, .int .i64 0, .int .u64 0] (fun _ => True) (fun _ => False) rfl (by first | (go_simp; done) | (go_simp; rfl)) ?aP (fun _ hk => hk.elim) ?aF ?aO ?aB ?aS ?aL ?_; (case aP => exact k76_mkM _ _ _ (⟨3, (rd_T83 l1 x6_1).f3, 0, 0, 0⟩ : S76)); (case aB => exact (by repeat (first | (with_reducible first | exact HB.out | apply bal | apply pbN | apply bd1 | refine bst ?_ GE228.out | refine bst ?_ GE230.out) | exact HB.out))); (case aF => exact (fun _ _ => trivial)); (case aO => exact (by (with_reducible repeat (first | apply Kd.R_alloc | apply Kd.R_drewN | apply Kd.R_drew)); exact Kd.R_mono (Kd.R_far (p := ⟨gb230, 3, none⟩) (Kd.R_far (p := ⟨gb230, 2, none⟩) (Kd.R_far (p := ⟨gb230, 1, none⟩) (Kd.R_far (p := ⟨gb230, 0, none⟩) (Kd.R_types HO_5.out BK230.out (by decide)) (fun _ hk => hk.2) (.int .i64 ((rd_T83 l1 x6_1).f0))) (fun _ hk => hk.2) (.int .i64 ((rd_T83 l1 x6_1).f1))) (fun _ hk => hk.2) (.int .i64 ((rd_T83 l1 x6_1).f2))) (fun _ hk => hk.2) (.int .i64 ((rd_T83 l1 x6_1).f3))) (fun _ hk => trivial))); (case aS => exact (bsz (by repeat (first | (with_reducible first | exact HB.out | apply bal | apply pbN | apply bd1 | refine bst ?_ GE228.out | refine bst ?_ GE230.out) | exact HB.out)))); (case aL => have := LMc55.out; omega); intro v248 w59 ho hb hg hat; rw [← Ny247.out] at ho; have n0_ := Aside0.mk (blk_grown (g := gb228) (o := .cells #[.string a0_0, .slice A0_1 l0_1.length c0_1, .slice A0_2 l0_2.length c0_2] 25 (0, 0)) (by (with_reducible repeat (first | refine bkn ?_ _ | refine bkd ?_ | refine bka ?_ _)); refine blk_far ?_ NB228_230.out _; (with_reducible repeat (first | refine bkn ?_ _ | refine bkd ?_ | refine bka ?_ _)); refine blk_far ?_ NB228_230.out _; (with_reducible repeat (first | refine bkn ?_ _ | refine bkd ?_ | refine bka ?_ _)); refine blk_far ?_ NB228_230.out _; (with_reducible repeat (first | refine bkn ?_ _ | refine bkd ?_ | refine bka ?_ _)); refine blk_far ?_ NB228_230.out _; (with_reducible repeat (first | refine bkn ?_ _ | refine bkd ?_ | refine bka ?_ _)); exact BK228.out) hg (Kd.R_ne HO_5.out BK228.out (by decide))); have n1_ := Aside0.mk (blk_grown (g := gb230) (o := .cells #[.int .i64 ((rd_T83 l1 x6_1).f0), .int .i64 ((rd_T83 l1 x6_1).f1), .int .i64 ((rd_T83 l1 x6_1).f2), .int .i64 ((rd_T83 l1 x6_1).f3)] 83 (0, 0)) (by (with_reducible repeat (first | refine bkn ?_ _ | refine bkd ?_ | refine bka ?_ _)); refine blk_put (cs := #[.int .i64 ((rd_T83 l1 x6_1).f0), .int .i64 ((rd_T83 l1 x6_1).f1), .int .i64 ((rd_T83 l1 x6_1).f2), .int .i64 0]) ?_ 3 _ rfl; (with_reducible repeat (first | refine bkn ?_ _ | refine bkd ?_ | refine bka ?_ _)); refine blk_put (cs := #[.int .i64 ((rd_T83 l1 x6_1).f0), .int .i64 ((rd_T83 l1 x6_1).f1), .int .i64 0, .int .i64 0]) ?_ 2 _ rfl; (with_reducible repeat (first | refine bkn ?_ _ | refine bkd ?_ | refine bka ?_ _)); refine blk_put (cs := #[.int .i64 ((rd_T83 l1 x6_1).f0), .int .i64 0, .int .i64 0, .int .i64 0]) ?_ 1 _ rfl; (with_reducible repeat (first | refine bkn ?_ _ | refine bkd ?_ | refine bka ?_ _)); refine blk_put (cs := #[.int .i64 0, .int .i64 0, .int .i64 0, .int .i64 0]) ?_ 0 _ rfl; (with_reducible repeat (first | refine bkn ?_ _ | refine bkd ?_ | refine bka ?_ _)); exact BK230.out) hg (Kd.R_ne HO_5.out BK230.out (by decide))); have n2_ := Aside0.mk (hb); have n3_ := Aside0.mk (ho); clear BK228; clear BK230; clear HB; clear HO_5; have BK228 := n0_; have BK230 := n1_; have HB := n2_; have HO249 := n3_; clear n0_ n1_ n2_ n3_; clear ho hb hg hat))
         go_roundg k1
         case measure => have := HK1.out; omega
         case rel => exact ⟨(y247), (wrap64 (x6_1 + 1)), (by first | rfl | (simp; done) | (simp [*]; done)), H', ⟨by have := HK1.out; omega⟩, ⟨by (with_reducible repeat (first | apply Kd.R_alloc | apply Kd.R_drewN | apply Kd.R_drew)); exact HO249.out⟩, ⟨by (with_reducible repeat (first | refine bkn ?_ _ | refine bkd ?_ | refine bka ?_ _)); exact BK228.out⟩, ⟨by repeat (first | (with_reducible first | exact HB.out | apply bal | apply pbN | apply bd1 | refine bst ?_ GE228.out | refine bst ?_ GE230.out) | exact HB.out)⟩⟩
        ·rw [if_neg c55] at H
         exact absurd H (by simp)
       ·rw [if_neg c54] at H
        have c54b0 : (((rd_T83 l1 x6_1).f0) == 4) = false := beq_eq_false_iff_ne.mpr c54
        have c54b1 : (((rd_T83 l1 x6_1).f0) != 4) = true := bne_iff_ne.mpr c54
        have H' := Aside0.mk H
        clear H
        have p229 : 0 ≤ (x6_1 : Int) := of_decide_eq_true (by first | (with_reducible assumption) | assumption)
        have q229 : x6_1 < (l1.length : Int) := of_decide_eq_true (by first | (with_reducible assumption) | assumption)
        obtain ⟨ad229, e229, hx229_0, hx229_1, hx229_2, hx229_3⟩ := at_T83 HR1.out x6_1 p229 q229
        cases e229
        replace hx229_0 := (HB.out.cell (World.block_lt_of_cell? w _ hx229_0)).trans hx229_0
        replace hx229_1 := (HB.out.cell (World.block_lt_of_cell? w _ hx229_1)).trans hx229_1
        replace hx229_2 := (HB.out.cell (World.block_lt_of_cell? w _ hx229_2)).trans hx229_2
        replace hx229_3 := (HB.out.cell (World.block_lt_of_cell? w _ hx229_3)).trans hx229_3
        replace p229 := eq_true p229
        replace q229 := eq_true q229
        go_wp2_with (first | ((with_reducible refine gate_dst (N := 7) rfl ?_); refine box_event ?hg (N := 7) ?hd (cs := #[.int .i64 0, .int .i64 0, .int .i64 0, .int .i64 0]) (t := 83) ?hr ?_; (case hd => rfl); (case hg => rfl); (case hr => first | (go_simp; done) | (go_simp; rfl)); intro gb230 hg w60 hbox hb; have n0_ := Aside0.mk (Kd.R_below (by (with_reducible repeat (first | apply Kd.R_alloc | apply Kd.R_drewN | apply Kd.R_drew)); exact HO_5.out) hb); have n1_ := Aside0.mk (bbe (g := gb228) (o := .cells #[.string a0_0, .slice A0_1 l0_1.length c0_1, .slice A0_2 l0_2.length c0_2] 25 (0, 0)) (by (with_reducible repeat (first | refine bkn ?_ _ | refine bkd ?_ | refine bka ?_ _)); exact BK228.out) hb); have n2_ := Aside0.mk (bsp (by repeat (first | (with_reducible first | exact HB.out | apply bal | apply pbN | apply bd1 | refine bst ?_ GE228.out) | exact HB.out)) hb); have n3_ := Aside0.mk (hbox); have n4_ := Aside0.mk ((by rw [hg]; exact (bsz (by repeat (first | (with_reducible first | exact HB.out | apply bal | apply pbN | apply bd1 | refine bst ?_ GE228.out) | exact HB.out))) : w.heap.size ≤ gb230)); have n5_ := Aside0.mk ((by rw [hg]; exact (bsz (by repeat (first | (with_reducible first | exact HB.out | apply bal | apply pbN | apply bd1 | refine bst ?_ GE228.out) | exact HB.out))) : w.heap.size ≤ gb230)); have n6_ := Aside0.mk ((by rw [hg]; exact Nat.ne_of_lt (blk_lt (g := gb228) (o := .cells #[.string a0_0, .slice A0_1 l0_1.length c0_1, .slice A0_2 l0_2.length c0_2] 25 (0, 0)) (by (with_reducible repeat (first | refine bkn ?_ _ | refine bkd ?_ | refine bka ?_ _)); exact BK228.out)) : gb228 ≠ gb230)); have n7_ := Aside0.mk ((by rw [hg]; exact Nat.ne_of_gt (blk_lt (g := gb228) (o := .cells #[.string a0_0, .slice A0_1 l0_1.length c0_1, .slice A0_2 l0_2.length c0_2] 25 (0, 0)) (by (with_reducible repeat (first | refine bkn ?_ _ | refine bkd ?_ | refine bka ?_ _)); exact BK228.out)) : gb230 ≠ gb228)); clear HO_5; clear BK228; clear HB; have HO_5 := n0_; have BK228 := n1_; have HB := n2_; have BK230 := n3_; have GW230 := n4_; have GE230 := n5_; have NB228_230 := n6_; have NB230_228 := n7_; clear n0_ n1_ n2_ n3_ n4_ n5_ n6_ n7_; clear hb hbox hg; have hnb61 := NB230_228.out; have hnc61 := NB228_230.out; have hcz62_0 : w60.cell? ⟨gb230, 0, none⟩ = some (.int .i64 0) := (bce BK230.out 0).trans rfl; have hcz62_1 : w60.cell? ⟨gb230, 1, none⟩ = some (.int .i64 0) := (bce BK230.out 1).trans rfl; have hcz62_2 : w60.cell? ⟨gb230, 2, none⟩ = some (.int .i64 0) := (bce BK230.out 2).trans rfl; have hcz62_3 : w60.cell? ⟨gb230, 3, none⟩ = some (.int .i64 0) := (bce BK230.out 3).trans rfl; have hfz62_0 := bfz BK230.out 0; have hfz62_1 := bfz BK230.out 1; have hfz62_2 := bfz BK230.out 2; have hfz62_3 := bfz BK230.out 3))
        go_roundg k1
        case measure => have := HK1.out; omega
        case rel => exact ⟨(x5_1), (wrap64 (x6_1 + 1)), (by first | rfl | (simp; done) | (simp [*]; done)), H', ⟨by have := HK1.out; omega⟩, ⟨by (with_reducible repeat (first | apply Kd.R_alloc | apply Kd.R_drewN | apply Kd.R_drew)); exact Kd.R_mono (Kd.R_far (p := ⟨gb230, 3, none⟩) (Kd.R_far (p := ⟨gb230, 2, none⟩) (Kd.R_far (p := ⟨gb230, 1, none⟩) (Kd.R_far (p := ⟨gb230, 0, none⟩) (Kd.R_types HO_5.out BK230.out (by decide)) (fun _ hk => hk.2) (.int .i64 ((rd_T83 l1 x6_1).f0))) (fun _ hk => hk.2) (.int .i64 ((rd_T83 l1 x6_1).f1))) (fun _ hk => hk.2) (.int .i64 ((rd_T83 l1 x6_1).f2))) (fun _ hk => hk.2) (.int .i64 ((rd_T83 l1 x6_1).f3))) (fun _ hk => trivial)⟩, ⟨by (with_reducible repeat (first | refine bkn ?_ _ | refine bkd ?_ | refine bka ?_ _)); refine blk_far ?_ NB228_230.out _; (with_reducible repeat (first | refine bkn ?_ _ | refine bkd ?_ | refine bka ?_ _)); refine blk_far ?_ NB228_230.out _; (with_reducible repeat (first | refine bkn ?_ _ | refine bkd ?_ | refine bka ?_ _)); refine blk_far ?_ NB228_230.out _; (with_reducible repeat (first | refine bkn ?_ _ | refine bkd ?_ | refine bka ?_ _)); refine blk_far ?_ NB228_230.out _; (with_reducible repeat (first | refine bkn ?_ _ | refine bkd ?_ | refine bka ?_ _)); exact BK228.out⟩, ⟨by repeat (first | (with_reducible first | exact HB.out | apply bal | apply pbN | apply bd1 | refine bst ?_ GE228.out | refine bst ?_ GE230.out) | exact HB.out)⟩⟩
    ·rw [if_neg c5] at H
     exact absurd H (by simp)
   ·rw [if_neg c4] at H
    have c4b0 : decide (x6_1 < (l1.length : Int)) = false := decide_eq_false c4
    clear c4
    obtain rfl := Option.some.inj H
    go_wp2
    go_ret
    exact ⟨_, by first | rfl | (simp [errW_none, errW_some] <;> rfl) | (simp [*, errW_none, errW_some] <;> rfl), by (with_reducible repeat (first | apply Kd.R_alloc | apply Kd.R_drewN | apply Kd.R_drew)); exact HO_5.out, by repeat (first | (with_reducible first | exact HB.out | apply bal | apply pbN | apply bd1 | refine bst ?_ GE228.out) | exact HB.out)⟩

end Go.Proofs.YtdfkbiffdcfnpaaGreatDoor.H
-- Written by hp.py (a program of this session, over the kit's print.py), with hand-made contracts beside it.
namespace Go.Proofs.YtdfkbiffdcfnpaaGreatDoor.H
open Go.RowKit Go.Proofs.YtdfkbiffdcfnpaaGreatDoorW.PrintWords Go.Proofs.YtdfkbiffdcfnpaaGreatDoorW.PrintLast Go.Proofs.YtdfkbiffdcfnpaaGreatDoorW.PrintMore
attribute [local go_sem] max2_int min2_int max_two min_two max_three min_three max_four min_four   -- for this text's walks alone
set_option linter.unusedVariables false
set_option linter.unusedSimpArgs false

/-! ### remontoirkeep_Ints: function 15 -/
def remontoirkeep_Ints.l0 : Nat → List Int → List Int → Int → Option (Bool)
  | 0, _, _, _ => none
  | k + 1, x0, x1, x5 => if x5 < (x0.length : Int) then (if 0 ≤ x5 then (if x5 < (x1.length : Int) then (if (rd x0 x5) = (rd x1 x5) then (remontoirkeep_Ints.l0 k x0 x1 (wrap64 (x5 + 1))) else (some false)) else (none)) else (none)) else (some true)
def remontoirkeep_Ints.f (k : Nat) (l0 : List Int) (l1 : List Int) : Option (Bool) := if (l0.length : Int) = (l1.length : Int) then (remontoirkeep_Ints.l0 k l0 l1 0) else (some false)
theorem remontoirkeep_Ints.mono_l : ∀ k, (∀ y0 y1 y2, LeO (remontoirkeep_Ints.l0 k y0 y1 y2) (remontoirkeep_Ints.l0 (k + 1) y0 y1 y2))
  | 0 => fun _ _ _ r h => by simp [remontoirkeep_Ints.l0] at h
  | k + 1 => by
    have ih0 := remontoirkeep_Ints.mono_l k
    · intro y0 y1 y2
      unfold remontoirkeep_Ints.l0
      repeat' first
      | (with_reducible exact ih0 _ _ _)
      | (with_reducible exact LeO.refl _)
      | (with_reducible exact LeO.none _)
      | (with_reducible refine LeO.ite ?_ ?_)
      | (with_reducible refine LeO.bind ?_ (fun _ => ?_))
      | exact ih0 _ _ _
      | exact LeO.none _
      | refine LeO.ite ?_ ?_
      | refine LeO.bind ?_ (fun _ => ?_)
theorem remontoirkeep_Ints.mono : ∀ a0 a1 k, LeO (remontoirkeep_Ints.f k a0 a1) (remontoirkeep_Ints.f (k + 1) a0 a1) := by
  intro a0 a1 k
  have ih0 := remontoirkeep_Ints.mono_l k
  unfold remontoirkeep_Ints.f
  repeat' first
      | (with_reducible exact ih0 _ _ _)
      | (with_reducible exact LeO.refl _)
      | (with_reducible exact LeO.none _)
      | (with_reducible refine LeO.ite ?_ ?_)
      | (with_reducible refine LeO.bind ?_ (fun _ => ?_))
      | exact ih0 _ _ _
      | exact LeO.none _
      | refine LeO.ite ?_ ?_
      | refine LeO.bind ?_ (fun _ => ?_)
set_option maxHeartbeats 8000000 in
set_option maxRecDepth 100000 in
theorem remontoirkeep_Ints.calls (k : Nat) (A0 : Option Addr) (c0 : Nat) (l0 : List Int) (A1 : Option Addr) (c1 : Nat) (l1 : List Int) (r : Bool) (w : World) (hr0 : Kd.C (Kd.int .i64) w A0 l0.length l0) (hc0 : l0.length ≤ c0) (hr1 : Kd.C (Kd.int .i64) w A1 l1.length l1) (hc1 : l1.length ≤ c1) (h : remontoirkeep_Ints.f k l0 l1 = some r) :
  Calls Tryz.prog 15 #[.slice A0 l0.length c0, .slice A1 l1.length c1] w fun e w' => e = .returned (.bool r) ∧ Drawn0 w w' := by
 have HR0 := Aside0.mk hr0
 have HC0 := Aside0.mk hc0
 clear hr0 hc0
 have HR1 := Aside0.mk hr1
 have HC1 := Aside0.mk hc1
 clear hr1 hc1
 have H : (if (l0.length : Int) = (l1.length : Int) then (remontoirkeep_Ints.l0 k l0 l1 0) else (some false)) = some r := h
 clear h
 by_cases c3 : (l0.length : Int) = (l1.length : Int)
 ·rw [if_pos c3] at H
  have c3b0 : ((l0.length : Int) == (l1.length : Int)) = true := beq_iff_eq.mpr c3
  have c3b1 : ((l0.length : Int) != (l1.length : Int)) = false := bne_eq_false_iff_eq.mpr c3
  have c3b2 : (l0.length == l1.length) = true := by first | simpa using c3 | (simp at c3 ⊢; omega)
  clear c3
  have H' := Aside0.mk H
  clear H
  go_enter Tryz.func15, Tryz.ntmps15
  go_wp2
  repeat (go_quiet (fail); try go_wp2)
  go_loopg [5] k (fun kq v5 w' => ∃ (x5_1 : Int), v5 = .int .i64 x5_1 ∧ Aside0 (remontoirkeep_Ints.l0 kq l0 l1 x5_1 = some r) ∧ Aside0 (kq ≤ k) ∧ Drawn0 w w')
  case atStart => exact ⟨(0), (by first | rfl | (simp; done) | (simp [*]; done)), H', ⟨Nat.le_refl _⟩, by repeat (first | exact Drawn0.refl _ | apply Drawn0.step)⟩
  case round =>
   clear H'
   try clear c1
   try clear p2
   try clear c3
   try clear c3b0
   try clear c3b1
   try clear c3b2
   obtain ⟨x5_1, rfl, HA, HK1, ⟨m1, rfl⟩⟩ := hrel
   cases gk with
   | zero => exact absurd HA.out (by simp [remontoirkeep_Ints.l0])
   | succ k1 =>
    have H := HA.out
    clear HA
    simp only [remontoirkeep_Ints.l0] at H
    by_cases c4 : x5_1 < (l0.length : Int)
    ·rw [if_pos c4] at H
     have c4b0 : decide (x5_1 < (l0.length : Int)) = true := decide_eq_true c4
     clear c4
     by_cases c5 : 0 ≤ x5_1
     ·rw [if_pos c5] at H
      have c5b0 : decide (0 ≤ x5_1) = true := decide_eq_true c5
      clear c5
      by_cases c6 : x5_1 < (l1.length : Int)
      ·rw [if_pos c6] at H
       have c6b0 : decide (x5_1 < (l1.length : Int)) = true := decide_eq_true c6
       clear c6
       by_cases c7 : (rd l0 x5_1) = (rd l1 x5_1)
       ·rw [if_pos c7] at H
        have c7b0 : ((rd l0 x5_1) == (rd l1 x5_1)) = true := beq_iff_eq.mpr c7
        have c7b1 : ((rd l0 x5_1) != (rd l1 x5_1)) = false := bne_eq_false_iff_eq.mpr c7
        clear c7
        have H' := Aside0.mk H
        clear H
        have p250 : 0 ≤ (x5_1 : Int) := of_decide_eq_true (by first | (with_reducible assumption) | assumption)
        have q250 : x5_1 < (l0.length : Int) := of_decide_eq_true (by first | (with_reducible assumption) | assumption)
        obtain ⟨ad250, e250, hx250_0⟩ := Kd.at_int HR0.out x5_1 p250 q250
        cases e250
        replace p250 := eq_true p250
        replace q250 := eq_true q250
        have p251 : 0 ≤ (x5_1 : Int) := of_decide_eq_true (by first | (with_reducible assumption) | assumption)
        have q251 : x5_1 < (l1.length : Int) := of_decide_eq_true (by first | (with_reducible assumption) | assumption)
        obtain ⟨ad251, e251, hx251_0⟩ := Kd.at_int HR1.out x5_1 p251 q251
        cases e251
        replace p251 := eq_true p251
        replace q251 := eq_true q251
        go_wp2
        repeat (go_quiet (fail); try go_wp2)
        go_roundg k1
        case measure => have := HK1.out; omega
        case rel => exact ⟨(wrap64 (x5_1 + 1)), (by first | rfl | (simp; done) | (simp [*]; done)), H', ⟨by have := HK1.out; omega⟩, by repeat (first | exact Drawn0.refl _ | apply Drawn0.step)⟩
       ·rw [if_neg c7] at H
        have c7b0 : ((rd l0 x5_1) == (rd l1 x5_1)) = false := beq_eq_false_iff_ne.mpr c7
        have c7b1 : ((rd l0 x5_1) != (rd l1 x5_1)) = true := bne_iff_ne.mpr c7
        obtain rfl := Option.some.inj H
        have p250 : 0 ≤ (x5_1 : Int) := of_decide_eq_true (by first | (with_reducible assumption) | assumption)
        have q250 : x5_1 < (l0.length : Int) := of_decide_eq_true (by first | (with_reducible assumption) | assumption)
        obtain ⟨ad250, e250, hx250_0⟩ := Kd.at_int HR0.out x5_1 p250 q250
        cases e250
        replace p250 := eq_true p250
        replace q250 := eq_true q250
        have p251 : 0 ≤ (x5_1 : Int) := of_decide_eq_true (by first | (with_reducible assumption) | assumption)
        have q251 : x5_1 < (l1.length : Int) := of_decide_eq_true (by first | (with_reducible assumption) | assumption)
        obtain ⟨ad251, e251, hx251_0⟩ := Kd.at_int HR1.out x5_1 p251 q251
        cases e251
        replace p251 := eq_true p251
        replace q251 := eq_true q251
        go_wp2
        repeat (go_quiet (fail); try go_wp2)
        go_ret
        exact ⟨by first | rfl | (simp; done) | (simp [*]; done), by repeat (first | exact Drawn0.refl _ | apply Drawn0.step)⟩
      ·rw [if_neg c6] at H
       exact absurd H (by simp)
     ·rw [if_neg c5] at H
      exact absurd H (by simp)
    ·rw [if_neg c4] at H
     have c4b0 : decide (x5_1 < (l0.length : Int)) = false := decide_eq_false c4
     clear c4
     obtain rfl := Option.some.inj H
     go_wp2
     repeat (go_quiet (fail); try go_wp2)
     go_ret
     exact ⟨by first | rfl | (simp; done) | (simp [*]; done), by repeat (first | exact Drawn0.refl _ | apply Drawn0.step)⟩
 ·rw [if_neg c3] at H
  have c3b0 : ((l0.length : Int) == (l1.length : Int)) = false := beq_eq_false_iff_ne.mpr c3
  have c3b1 : ((l0.length : Int) != (l1.length : Int)) = true := bne_iff_ne.mpr c3
  have c3b2 : (l0.length == l1.length) = false := by first | simpa using c3 | (simp at c3 ⊢; omega)
  obtain rfl := Option.some.inj H
  go_enter Tryz.func15, Tryz.ntmps15
  go_wp2
  repeat (go_quiet (fail); try go_wp2)
  go_ret
  exact ⟨by first | rfl | (simp; done) | (simp [*]; done), by repeat (first | exact Drawn0.refl _ | apply Drawn0.step)⟩

/-! ### remontoirref27_taken: function 45 -/
def remontoirref27_taken.l0 : Nat → List (S76) → Int → Int → Option (Bool)
  | 0, _, _, _ => none
  | k + 1, x0, x1, x5 => if x5 < (x0.length : Int) then (if 0 ≤ x5 then (if ((rd_T76 x0 x5).f0) = 3 then (if 0 ≤ x1 then (if x1 < (x0.length : Int) then (if ((rd_T76 x0 x5).f1) = ((rd_T76 x0 x1).f1) then (some true) else (remontoirref27_taken.l0 k x0 x1 (wrap64 (x5 + 1)))) else (none)) else (none)) else (remontoirref27_taken.l0 k x0 x1 (wrap64 (x5 + 1)))) else (none)) else (some false)
def remontoirref27_taken.f (k : Nat) (l0 : List (S76)) (a1 : Int) : Option (Bool) := remontoirref27_taken.l0 k l0 a1 (wrap64 (a1 + 1))
theorem remontoirref27_taken.mono_l : ∀ k, (∀ y0 y1 y2, LeO (remontoirref27_taken.l0 k y0 y1 y2) (remontoirref27_taken.l0 (k + 1) y0 y1 y2))
  | 0 => fun _ _ _ r h => by simp [remontoirref27_taken.l0] at h
  | k + 1 => by
    have ih0 := remontoirref27_taken.mono_l k
    · intro y0 y1 y2
      unfold remontoirref27_taken.l0
      repeat' first
      | (with_reducible exact ih0 _ _ _)
      | (with_reducible exact LeO.refl _)
      | (with_reducible exact LeO.none _)
      | (with_reducible refine LeO.ite ?_ ?_)
      | (with_reducible refine LeO.bind ?_ (fun _ => ?_))
      | exact ih0 _ _ _
      | exact LeO.none _
      | refine LeO.ite ?_ ?_
      | refine LeO.bind ?_ (fun _ => ?_)
theorem remontoirref27_taken.mono : ∀ a0 a1 k, LeO (remontoirref27_taken.f k a0 a1) (remontoirref27_taken.f (k + 1) a0 a1) := by
  intro a0 a1 k
  have ih0 := remontoirref27_taken.mono_l k
  unfold remontoirref27_taken.f
  repeat' first
      | (with_reducible exact ih0 _ _ _)
      | (with_reducible exact LeO.refl _)
      | (with_reducible exact LeO.none _)
      | (with_reducible refine LeO.ite ?_ ?_)
      | (with_reducible refine LeO.bind ?_ (fun _ => ?_))
      | exact ih0 _ _ _
      | exact LeO.none _
      | refine LeO.ite ?_ ?_
      | refine LeO.bind ?_ (fun _ => ?_)
set_option maxHeartbeats 8000000 in
set_option maxRecDepth 100000 in
theorem remontoirref27_taken.calls (k : Nat) (A0 : Option Addr) (c0 : Nat) (l0 : List (S76)) (a1 : Int) (r : Bool) (w : World) (hr0 : Kd.C k76 w A0 l0.length l0) (hc0 : l0.length ≤ c0) (h : remontoirref27_taken.f k l0 a1 = some r) :
  Calls Tryz.prog 45 #[.slice A0 l0.length c0, .int .i64 a1] w fun e w' => e = .returned (.bool r) ∧ Drawn0 w w' := by
 have HR0 := Aside0.mk hr0
 have HC0 := Aside0.mk hc0
 clear hr0 hc0
 have H : (remontoirref27_taken.l0 k l0 a1 (wrap64 (a1 + 1))) = some r := h
 clear h
 have H' := Aside0.mk H
 clear H
 go_enter Tryz.func45, Tryz.ntmps45
 go_wp2
 repeat (go_quiet (fail); try go_wp2)
 go_loopg [5] k (fun kq v5 w' => ∃ (x5_1 : Int), v5 = .int .i64 x5_1 ∧ Aside0 (remontoirref27_taken.l0 kq l0 a1 x5_1 = some r) ∧ Aside0 (kq ≤ k) ∧ Drawn0 w w')
 case atStart => exact ⟨(wrap64 (a1 + 1)), (by first | rfl | (simp; done) | (simp [*]; done)), H', ⟨Nat.le_refl _⟩, by repeat (first | exact Drawn0.refl _ | apply Drawn0.step)⟩
 case round =>
  clear H'
  try clear p2
  obtain ⟨x5_1, rfl, HA, HK1, ⟨m1, rfl⟩⟩ := hrel
  cases gk with
  | zero => exact absurd HA.out (by simp [remontoirref27_taken.l0])
  | succ k1 =>
   have H := HA.out
   clear HA
   simp only [remontoirref27_taken.l0] at H
   by_cases c3 : x5_1 < (l0.length : Int)
   ·rw [if_pos c3] at H
    have c3b0 : decide (x5_1 < (l0.length : Int)) = true := decide_eq_true c3
    clear c3
    by_cases c4 : 0 ≤ x5_1
    ·rw [if_pos c4] at H
     have c4b0 : decide (0 ≤ x5_1) = true := decide_eq_true c4
     clear c4
     by_cases c5 : ((rd_T76 l0 x5_1).f0) = 3
     ·rw [if_pos c5] at H
      have c5b0 : (((rd_T76 l0 x5_1).f0) == 3) = true := beq_iff_eq.mpr c5
      have c5b1 : (((rd_T76 l0 x5_1).f0) != 3) = false := bne_eq_false_iff_eq.mpr c5
      clear c5
      by_cases c6 : 0 ≤ a1
      ·rw [if_pos c6] at H
       have c6b0 : decide (0 ≤ a1) = true := decide_eq_true c6
       clear c6
       by_cases c7 : a1 < (l0.length : Int)
       ·rw [if_pos c7] at H
        have c7b0 : decide (a1 < (l0.length : Int)) = true := decide_eq_true c7
        clear c7
        by_cases c8 : ((rd_T76 l0 x5_1).f1) = ((rd_T76 l0 a1).f1)
        ·rw [if_pos c8] at H
         have c8b0 : (((rd_T76 l0 x5_1).f1) == ((rd_T76 l0 a1).f1)) = true := beq_iff_eq.mpr c8
         have c8b1 : (((rd_T76 l0 x5_1).f1) != ((rd_T76 l0 a1).f1)) = false := bne_eq_false_iff_eq.mpr c8
         clear c8
         obtain rfl := Option.some.inj H
         have p252 : 0 ≤ (x5_1 : Int) := of_decide_eq_true (by first | (with_reducible assumption) | assumption)
         have q252 : x5_1 < (l0.length : Int) := of_decide_eq_true (by first | (with_reducible assumption) | assumption)
         obtain ⟨ad252, e252, hx252_0, hx252_1, hx252_2, hx252_3, hx252_4⟩ := at_T76 HR0.out x5_1 p252 q252
         cases e252
         replace p252 := eq_true p252
         replace q252 := eq_true q252
         have p253 : 0 ≤ (x5_1 : Int) := of_decide_eq_true (by first | (with_reducible assumption) | assumption)
         have q253 : x5_1 < (l0.length : Int) := of_decide_eq_true (by first | (with_reducible assumption) | assumption)
         obtain ⟨ad253, e253, hx253_0, hx253_1, hx253_2, hx253_3, hx253_4⟩ := at_T76 HR0.out x5_1 p253 q253
         obtain rfl : ad252 = ad253 := (by injection e253)
         replace p253 := eq_true p253
         replace q253 := eq_true q253
         have p254 : 0 ≤ (a1 : Int) := of_decide_eq_true (by first | (with_reducible assumption) | assumption)
         have q254 : a1 < (l0.length : Int) := of_decide_eq_true (by first | (with_reducible assumption) | assumption)
         obtain ⟨ad254, e254, hx254_0, hx254_1, hx254_2, hx254_3, hx254_4⟩ := at_T76 HR0.out a1 p254 q254
         obtain rfl : ad252 = ad254 := (by injection e254)
         replace p254 := eq_true p254
         replace q254 := eq_true q254
         go_wp2
         repeat (go_quiet (fail); try go_wp2)
         go_ret
         exact ⟨by first | rfl | (simp; done) | (simp [*]; done), by repeat (first | exact Drawn0.refl _ | apply Drawn0.step)⟩
        ·rw [if_neg c8] at H
         have c8b0 : (((rd_T76 l0 x5_1).f1) == ((rd_T76 l0 a1).f1)) = false := beq_eq_false_iff_ne.mpr c8
         have c8b1 : (((rd_T76 l0 x5_1).f1) != ((rd_T76 l0 a1).f1)) = true := bne_iff_ne.mpr c8
         have H' := Aside0.mk H
         clear H
         have p252 : 0 ≤ (x5_1 : Int) := of_decide_eq_true (by first | (with_reducible assumption) | assumption)
         have q252 : x5_1 < (l0.length : Int) := of_decide_eq_true (by first | (with_reducible assumption) | assumption)
         obtain ⟨ad252, e252, hx252_0, hx252_1, hx252_2, hx252_3, hx252_4⟩ := at_T76 HR0.out x5_1 p252 q252
         cases e252
         replace p252 := eq_true p252
         replace q252 := eq_true q252
         have p253 : 0 ≤ (x5_1 : Int) := of_decide_eq_true (by first | (with_reducible assumption) | assumption)
         have q253 : x5_1 < (l0.length : Int) := of_decide_eq_true (by first | (with_reducible assumption) | assumption)
         obtain ⟨ad253, e253, hx253_0, hx253_1, hx253_2, hx253_3, hx253_4⟩ := at_T76 HR0.out x5_1 p253 q253
         obtain rfl : ad252 = ad253 := (by injection e253)
         replace p253 := eq_true p253
         replace q253 := eq_true q253
         have p254 : 0 ≤ (a1 : Int) := of_decide_eq_true (by first | (with_reducible assumption) | assumption)
         have q254 : a1 < (l0.length : Int) := of_decide_eq_true (by first | (with_reducible assumption) | assumption)
         obtain ⟨ad254, e254, hx254_0, hx254_1, hx254_2, hx254_3, hx254_4⟩ := at_T76 HR0.out a1 p254 q254
         obtain rfl : ad252 = ad254 := (by injection e254)
         replace p254 := eq_true p254
         replace q254 := eq_true q254
         go_wp2
         repeat (go_quiet (fail); try go_wp2)
         go_roundg k1
         case measure => have := HK1.out; omega
         case rel => exact ⟨(wrap64 (x5_1 + 1)), (by first | rfl | (simp; done) | (simp [*]; done)), H', ⟨by have := HK1.out; omega⟩, by repeat (first | exact Drawn0.refl _ | apply Drawn0.step)⟩
       ·rw [if_neg c7] at H
        exact absurd H (by simp)
      ·rw [if_neg c6] at H
       exact absurd H (by simp)
     ·rw [if_neg c5] at H
      have c5b0 : (((rd_T76 l0 x5_1).f0) == 3) = false := beq_eq_false_iff_ne.mpr c5
      have c5b1 : (((rd_T76 l0 x5_1).f0) != 3) = true := bne_iff_ne.mpr c5
      have H' := Aside0.mk H
      clear H
      have p252 : 0 ≤ (x5_1 : Int) := of_decide_eq_true (by first | (with_reducible assumption) | assumption)
      have q252 : x5_1 < (l0.length : Int) := of_decide_eq_true (by first | (with_reducible assumption) | assumption)
      obtain ⟨ad252, e252, hx252_0, hx252_1, hx252_2, hx252_3, hx252_4⟩ := at_T76 HR0.out x5_1 p252 q252
      cases e252
      replace p252 := eq_true p252
      replace q252 := eq_true q252
      go_wp2
      repeat (go_quiet (fail); try go_wp2)
      go_roundg k1
      case measure => have := HK1.out; omega
      case rel => exact ⟨(wrap64 (x5_1 + 1)), (by first | rfl | (simp; done) | (simp [*]; done)), H', ⟨by have := HK1.out; omega⟩, by repeat (first | exact Drawn0.refl _ | apply Drawn0.step)⟩
    ·rw [if_neg c4] at H
     exact absurd H (by simp)
   ·rw [if_neg c3] at H
    have c3b0 : decide (x5_1 < (l0.length : Int)) = false := decide_eq_false c3
    clear c3
    obtain rfl := Option.some.inj H
    go_wp2
    repeat (go_quiet (fail); try go_wp2)
    go_ret
    exact ⟨by first | rfl | (simp; done) | (simp [*]; done), by repeat (first | exact Drawn0.refl _ | apply Drawn0.step)⟩

end Go.Proofs.YtdfkbiffdcfnpaaGreatDoor.H
/- Insertion into a row of numbers: append(v[:k:k], append([]int{x}, v[k:]...)...). -/
namespace Go.Proofs.YtdfkbiffdcfnpaaGreatDoor.H
open Go.RowKit Go.HK Go.Lib Go.WideShapes Go.ChangeShapes Go.Proofs.YtdfkbiffdcfnpaaGreatDoorW.PrintWords Go.Proofs.YtdfkbiffdcfnpaaGreatDoorW.PrintLast Go.Proofs.YtdfkbiffdcfnpaaGreatDoorW.PrintMore
set_option linter.unusedVariables false
set_option linter.unusedSimpArgs false
abbrev iv (zs : List Int) : List Value := zs.map (Value.int .i64)
theorem iv_each (zs : List Int) : ∀ u ∈ iv zs, u.oneCell' = true := by
  intro u hu
  obtain ⟨x, _, rfl⟩ := List.mem_map.1 hu
  rfl
theorem RowI.fn {w : World} {B : Nat} {v : Value} {zs : List Int} (h : RowI w B v zs) : (v = .slice none 0 0 ∧ zs = []) ∨ ∃ (g cap : Nat), v = .slice (some ⟨g, 0, none⟩) zs.length cap ∧ B ≤ g ∧ zs.length ≤ cap ∧ g < w.heap.size ∧ ∀ j u, (iv zs)[j]? = some u → w.cell? ((⟨g, 0, none⟩ : Addr).add j) = some u := by
  rcases h.2 with ⟨rfl, hz⟩ | ⟨g, cap, cur, rfl, hB, hg, r1, r2, r3, r4⟩
  · exact .inl ⟨rfl, List.eq_nil_of_length_eq_zero hz⟩
  · refine .inr ⟨g, cap, rfl, hB, r1, blk_lt hg, fun j u hj => ?_⟩
    have hl : j < (iv zs).length := (List.getElem?_eq_some_iff.1 hj).1
    rw [List.length_map] at hl
    rw [Addr.add_mid, cell_of_row w g (0 + j) _ _ (0, 0) hg, Nat.zero_add]
    have r4' : List.take (zs.length * 1) cur.toList = iv zs := r4
    rw [← r4', List.getElem?_take_of_lt (by omega), Array.getElem?_toList] at hj
    exact hj
theorem RowI.cell {w : World} {B g cap : Nat} {zs : List Int} (h : RowI w B (.slice (some ⟨g, 0, none⟩) zs.length cap) zs) {k : Nat} (hk : k < zs.length) : w.cell? ⟨g, k, none⟩ = some (.int .i64 (zs.getD k 0)) := by
  rcases h.fn with ⟨h1, h2⟩ | ⟨g', cap', h1, _, _, _, h2⟩
  · subst h2; simp at hk
  · injection h1 with e1 _ _
    injection e1 with e1
    injection e1 with e1
    subst e1
    have := h2 k (.int .i64 (zs.getD k 0)) (by rw [List.getElem?_map, List.getElem?_eq_getElem hk, List.getD_eq_getElem?_getD, List.getElem?_eq_getElem hk]; rfl)
    rw [Addr.add_mid, Nat.zero_add] at this
    exact this
set_option maxRecDepth 100000 in
theorem islice_head {w : World} {A : Option Addr} {len cap k : Nat} (hk : k ≤ cap) : (Instr.sliceAt 34 (.slice A len cap) none (some (.int .i64 k)) (some (.int .i64 k))).run Tryz.prog w = .ok (.slice A k k) w := by
  rw [run_sliceAt_slice (h := Tryz.underlying34), run_slice_hm (ht := Tryz.underlying34) (h0 := by omega) (h2 := by omega) (h3 := by omega)]
  have hs : (sizeOf 3).run Tryz.prog w = .ok 1 w := by kernel_rfl
  show ((sizeOf 3).run Tryz.prog w).andThen _ = _
  rw [hs]
  simp only [Result.andThen, sliced, Int.toNat_natCast, Nat.sub_zero]
  congr 2
  split
  · rfl
  · cases A <;> simp [Addr.add]
set_option maxRecDepth 100000 in
theorem islice_tail {w : World} {A : Option Addr} {len cap k : Nat} (hk : k ≤ len) : (Instr.sliceAt 34 (.slice A len cap) (some (.int .i64 k)) none none).run Tryz.prog w = .ok (.slice (if cap = k then A else A.map (·.add (k * 1))) (len - k) (cap - k)) w := by
  rw [run_sliceAt_slice (h := Tryz.underlying34), run_slice_l (ht := Tryz.underlying34) (h0 := by omega) (h1 := by omega)]
  have hs : (sizeOf 3).run Tryz.prog w = .ok 1 w := by kernel_rfl
  show ((sizeOf 3).run Tryz.prog w).andThen _ = _
  rw [hs]
  simp only [Result.andThen, sliced, Int.toNat_natCast]
theorem iindex {w : World} {g N cap k : Nat} (hk : k < N) : (Instr.indexAt 34 (.slice (some ⟨g, 0, none⟩) N cap) (.int .i64 k)).run Tryz.prog w = .ok (.pointer (some ⟨g, k, none⟩)) w := by
  have hs : (sizeOf 3).run Tryz.prog w = .ok 1 w := by kernel_rfl
  have hu := run_underlying Tryz.underlying34 w
  have hb : (0 : Int) ≤ (k : Int) ∧ (k : Int) < (N : Int) := by omega
  have ha : (⟨g, 0, none⟩ : Addr).add k = ⟨g, k, none⟩ := by rw [Addr.add_mid]; simp
  simp [Instr.indexAt, asIntOf, Sem.run_bind, hu, hs, Result.andThen, hb, hk, ha]
theorem exec_sliceHM {P : Program} {ρ : Operand → Value} {o : Oper} {t : TypeId} {x h m : Operand} (ho : o.op = .slice t x none (some h) (some m)) {w : World} {v : Value} (hr : (Instr.sliceAt t (ρ x) none (some (ρ h)) (some (ρ m))).run P w = .ok v w) : (execOp ρ o).run P w = .ok (.value v) w := by
  unfold execOp
  rw [ho]
  simp only [Option.map_some, Option.map_none, Sem.run_bind, hr, Result.andThen]
  rfl
theorem exec_sliceL {P : Program} {ρ : Operand → Value} {o : Oper} {t : TypeId} {x l : Operand} (ho : o.op = .slice t x (some l) none none) {w : World} {v : Value} (hr : (Instr.sliceAt t (ρ x) (some (ρ l)) none none).run P w = .ok v w) : (execOp ρ o).run P w = .ok (.value v) w := by
  unfold execOp
  rw [ho]
  simp only [Option.map_some, Option.map_none, Sem.run_bind, hr, Result.andThen]
  rfl
theorem ilit1 (w : World) (x : Int) : ∃ w1 gx, (Instr.buildSlice 34 1 #[(0, .int .i64 x)]).run Tryz.prog w = .ok (.slice (some ⟨gx, 0, none⟩) 1 1) w1 ∧ w1.heap[gx]? = some (.cells #[.int .i64 x] 3 (0, 0)) ∧ w.heap.size ≤ gx ∧ w.grownBy w1 none :=
  ⟨w.alloc (.cells #[.int .i64 x] 3), w.heap.size, by kernel_rfl, heap_alloc_last w _, Nat.le_refl _, World.grownBy_alloc w _ none⟩
/-- append([]int{x}, v[k:]...). -/
theorem ins_tailI {w : World} {gx B base k : Nat} {v : Value} {l : List Int} {A : Option Addr} {cap : Nat} {x : Int} (hx : w.heap[gx]? = some (.cells #[.int .i64 x] 3 (0, 0))) (hb : base ≤ gx) (hR : RowI w B v l) (hv : v = .slice A l.length cap) (hk : k ≤ l.length) (hl : l.length ≤ 1000) :
    ∃ y w3, (Builtin.append_ #[34, 34] 34 #[.slice (some ⟨gx, 0, none⟩) 1 1, .slice (if cap = k then A else A.map (·.add (k * 1))) (l.length - k) (cap - k)]).run Tryz.prog w = .ok y w3 ∧ RowI w3 base y (x :: l.drop k) ∧ w.grownBy w3 (some gx) ∧ (y.ownBlock = some gx ∨ y.ownBlock = some w.heap.size) := by
  have own : w.ownsRow base 3 1 (.slice (some ⟨gx, 0, none⟩) 1 1) 1 [.int .i64 x] := ⟨rfl, .inr ⟨gx, 1, _, rfl, hb, hx, Nat.le_refl _, by decide, rfl, rfl⟩⟩
  have out : ∀ {y : Value} {w3 : World}, w3.ownsRow base 3 1 y (1 + (l.drop k).length) ([.int .i64 x] ++ iv (l.drop k)) → RowI w3 base y (x :: l.drop k) := by
    intro y w3 h
    unfold RowI
    rw [List.length_cons, Nat.add_comm]
    exact h
  rcases hR.fn with ⟨h1, h2⟩ | ⟨g, cap', h1, _, hcap, _, hc⟩
  · subst h2
    rw [hv] at h1
    injection h1 with e1 e2 e3
    subst e1; subst e3
    obtain rfl : k = 0 := by simpa using hk
    exact ⟨_, w, by kernel_rfl, out own, ⟨rfl, rfl, rfl, Nat.le_refl _, fun _ _ _ => rfl⟩, Or.inl rfl⟩
  · rw [hv] at h1
    injection h1 with e1 e2 e3
    subst e1; subst e3
    obtain ⟨i0, hi0, hz0, hz1, hz2⟩ := infoInt
    have hbs : base ≤ w.heap.size := Nat.le_trans hb (Nat.le_of_lt (blk_lt hx))
    have hd : (l.drop k).length = l.length - k := by simp
    obtain ⟨y, w3, q1, q2, q3, _, q5⟩ := run_append_own_at (P := Tryz.prog) w base 34 34 3 i0 (.int .i64 0) 1 8 Tryz.underlying34 hi0 hz0 hz1 hz2 rfl (by decide) (.slice (some ⟨gx, 0, none⟩) 1 1) 1 [.int .i64 x] own (if cap = k then ⟨g, 0, none⟩ else (⟨g, 0, none⟩ : Addr).add (k * 1)) (l.length - k) (cap - k) (iv (l.drop k)) (by rw [List.length_map, hd, Nat.mul_one]) (fun j u hj => by
      have hj' : j < (iv (l.drop k)).length := (List.getElem?_eq_some_iff.1 hj).1
      rw [List.length_map, hd] at hj'
      rw [if_neg (by omega), Go.Deep.add_add]
      refine hc _ _ ?_
      rw [List.getElem?_map, List.getElem?_drop] at hj
      rw [List.getElem?_map, Nat.mul_one]
      exact hj) (iv_each _) (by unfold maxLen; omega) (by omega) hbs
    refine ⟨y, w3, ?_, out (by rw [hd]; exact q2), q3, q5⟩
    have e : (if cap = k then some (⟨g, 0, none⟩ : Addr) else (some (⟨g, 0, none⟩ : Addr)).map (·.add (k * 1))) = some (if cap = k then ⟨g, 0, none⟩ else (⟨g, 0, none⟩ : Addr).add (k * 1)) := by split <;> rfl
    rw [e]
    exact q1
/-- append(v[:k:k], y...): it grows. -/
theorem ins_headI {w : World} {B B2 base k : Nat} {v y : Value} {l m : List Int} {A : Option Addr} {cap : Nat} (hR : RowI w B v l) (hv : v = .slice A l.length cap) (hk : k ≤ l.length) (hY : RowI w B2 y m) (hm : 0 < m.length) (hl : l.length ≤ 1000) (hl2 : m.length ≤ 1001) (hb : base ≤ w.heap.size) :
    ∃ r w3, (Builtin.append_ #[34, 34] 34 #[.slice A k k, y]).run Tryz.prog w = .ok r w3 ∧ RowI w3 base r (l.take k ++ m) ∧ w.grownBy w3 none ∧ r.ownBlock = some w.heap.size := by
  obtain ⟨i0, hi0, hz0, hz1, hz2⟩ := infoInt
  rcases hY.fn with ⟨_, e⟩ | ⟨gy, cy, rfl, _, hcy, _, hcm⟩
  · subst e; simp at hm
  have grown : ∀ (old : Nat), old < k + m.length → (w.drew.alloc (.cells ((iv (l.take k)).toArray ++ (iv m).toArray ++ Builtin.zeroCells (Value.int .i64 0).cells (grownCap w (k + m.length) old 3 - (k + m.length))) 3)).ownsRow base 3 1 (.slice (some ⟨w.heap.size, 0, none⟩) (k + m.length) (grownCap w (k + m.length) old 3)) (k + m.length) (iv (l.take k) ++ iv m) := by
    intro old ho
    have hge := grownCap_ge w (k + m.length) old 3
    have hcm : grownCap w (k + m.length) old 3 ≤ maxLen := grownCap_le_maxLen w (k + m.length) old 3 (by unfold maxLen; omega)
    have el : (iv (l.take k) ++ iv m).length = (k + m.length) * 1 := by rw [List.length_append, List.length_map, List.length_map, List.length_take, Nat.min_eq_left hk]; omega
    refine ⟨el, .inr ⟨w.heap.size, _, _, rfl, hb, heap_alloc_new w.drew _, hge, hcm, ?_, ?_⟩⟩
    · have e3 : (Value.int .i64 0).cells.size = 1 := rfl
      rw [List.length_append] at el
      simp only [Array.size_append, List.size_toArray, size_zeroCells, e3]
      omega
    · simp only [Array.toList_append, List.append_assoc]
      rw [← List.append_assoc, ← el]
      exact List.take_left
  have fin : ∀ {r : Value} {w3 : World}, w3.ownsRow base 3 1 r (k + m.length) (iv (l.take k) ++ iv m) → RowI w3 base r (l.take k ++ m) := by
    intro r w3 h
    unfold RowI
    rw [List.length_append, List.length_take, Nat.min_eq_left hk, List.map_append]
    exact h
  rcases hR.fn with ⟨h1, h2⟩ | ⟨g, cap', h1, _, hcap, _, hc⟩
  · subst h2
    rw [hv] at h1
    injection h1 with e1 e2 e3
    subst e1
    obtain rfl : k = 0 := by simpa using hk
    have hr := run_append_nil (P := Tryz.prog) w 34 34 3 i0 (.int .i64 0) Tryz.underlying34 hi0 hz0 ⟨gy, 0, none⟩ m.length cy (iv m) (by rw [List.length_map, hz1, Nat.mul_one]) hcm hm (by omega) (by rw [hz2]; omega)
    have hg := grown 0 (by omega)
    simp only [List.take_nil, Nat.zero_add] at hg
    exact ⟨_, _, hr, fin (by simpa using hg), ⟨rfl, rfl, rfl, by simp, fun k hk _ => heap_alloc_old w.drew _ hk⟩, rfl⟩
  · rw [hv] at h1
    injection h1 with e1 e2 e3
    subst e1; subst e3
    have hr := run_append_grow (P := Tryz.prog) w 34 34 3 i0 (.int .i64 0) Tryz.underlying34 hi0 hz0 ⟨g, 0, none⟩ k k (iv (l.take k)) (by rw [List.length_map, hz1, List.length_take, Nat.min_eq_left hk, Nat.mul_one]) (fun j u hj => hc j u (by
      rw [List.getElem?_map] at hj ⊢
      have hjl : j < (l.take k).length := by
        rcases Nat.lt_or_ge j (l.take k).length with q | q
        · exact q
        · rw [List.getElem?_eq_none q] at hj; cases hj
      rw [List.length_take] at hjl
      rw [List.getElem?_take_of_lt (by omega)] at hj
      exact hj)) ⟨gy, 0, none⟩ m.length cy (iv m) (by rw [List.length_map, hz1, Nat.mul_one]) hcm (by omega) (by omega) (growslice_fits (by omega) (by rw [hz2]; omega))
    exact ⟨_, _, hr, fin (grown k (by omega)), ⟨rfl, rfl, rfl, by simp, fun k hk _ => heap_alloc_old w.drew _ hk⟩, rfl⟩
/-- The place of x. -/
def insK (x : Int) (zs : List Int) : Nat := (zs.takeWhile fun z => decide (z < x)).length
theorem insK_le (x : Int) (zs : List Int) : insK x zs ≤ zs.length := (List.takeWhile_prefix _).length_le
theorem insK_go (x : Int) : ∀ (zs : List Int) (k : Nat), k < insK x zs → k < zs.length ∧ zs.getD k 0 < x
  | [], k, h => by simp [insK] at h
  | z :: zs, k, h => by
    unfold insK at h
    rw [List.takeWhile_cons] at h
    by_cases c : decide (z < x) = true
    · rw [if_pos c] at h
      cases k with
      | zero => exact ⟨by simp, by simpa using c⟩
      | succ k =>
        simp only [List.length_cons] at h
        have := insK_go x zs k (by unfold insK; omega)
        exact ⟨by simp; omega, by simpa using this.2⟩
    · rw [if_neg c] at h; simp at h
theorem insK_end (x : Int) : ∀ (zs : List Int), (insK x zs = zs.length ∧ insJ x zs = zs ++ [x]) ∨ (insK x zs < zs.length ∧ ¬ zs.getD (insK x zs) 0 < x ∧ (zs.getD (insK x zs) 0 = x → insJ x zs = zs) ∧ (zs.getD (insK x zs) 0 ≠ x → insJ x zs = zs.take (insK x zs) ++ x :: zs.drop (insK x zs)))
  | [] => .inl ⟨rfl, rfl⟩
  | z :: zs => by
    unfold insK insJ
    rw [List.takeWhile_cons]
    by_cases c : z < x
    · rw [if_pos (decide_eq_true c), if_pos c]
      rcases insK_end x zs with ⟨h1, h2⟩ | ⟨h1, h2, h3, h4⟩
      · left
        unfold insK at h1
        exact ⟨by simp [h1], by rw [h2]; rfl⟩
      · right
        unfold insK at h1 h2 h3 h4
        refine ⟨by simp; omega, by simpa using h2, fun e => ?_, fun e => ?_⟩
        · rw [h3 (by simpa using e)]
        · rw [h4 (by simpa using e)]; rfl
    · have hf : decide (z < x) = false := decide_eq_false c
      rw [hf, if_neg (by decide), if_neg c]
      right
      refine ⟨by simp, by simpa using c, fun e => ?_, fun e => ?_⟩
      · have e : z = x := by simpa using e
        rw [if_pos e]
      · have e : ¬ z = x := by simpa using e
        rw [if_neg e]; rfl
end Go.Proofs.YtdfkbiffdcfnpaaGreatDoor.H
/- What is taken away; the orders that are left. -/
namespace Go.Proofs.YtdfkbiffdcfnpaaGreatDoor.H
open Go.RowKit Go.HK Go.Lib Go.Proofs.YtdfkbiffdcfnpaaGreatDoorW.PrintWords Go.Proofs.YtdfkbiffdcfnpaaGreatDoorW.PrintLast Go.Proofs.YtdfkbiffdcfnpaaGreatDoorW.PrintMore
set_option linter.unusedVariables false
set_option linter.unusedSimpArgs false
/-- Does a TakeAway of token t stand in l? -/
def tkn (l : List SO) (t : Int) : Bool := l.any fun y => y.f0 == 3 && y.f1 == t
def refK (kd : Int) : List SO → List SO
  | [] => []
  | x :: l => if x.f0 = kd ∧ tkn l x.f1 = false then x :: refK kd l else refK kd l
theorem tkn_cons (x : SO) (l : List SO) (t : Int) : tkn (x :: l) t = ((x.f0 == 3 && x.f1 == t) || tkn l t) := rfl
theorem kept_ref {kd : Int} (h3 : kd ≠ 3) : ∀ (l : List SO) (acc : List O5), (l.map o5).foldl (keptStep kd) acc = acc.filter (fun x => !tkn l x.2.1) ++ (refK kd l).map o5
  | [], acc => by
    have : acc.filter (fun x => !tkn [] x.2.1) = acc := List.filter_eq_self.2 (fun x _ => rfl)
    rw [this]
    show acc = acc ++ []
    rw [List.append_nil]
  | x :: l, acc => by
    rw [List.map_cons, List.foldl_cons, kept_ref h3 l, show refK kd (x :: l) = if x.f0 = kd ∧ tkn l x.f1 = false then x :: refK kd l else refK kd l from rfl]
    unfold keptStep
    by_cases c1 : x.f0 = kd
    · have e3 : (x.f0 == 3) = false := beq_eq_false_iff_ne.2 (fun q => h3 (c1.symm.trans q))
      rw [if_pos (show (o5 x).1 = kd from c1), List.filter_append, List.append_assoc]
      have ef : (fun y : O5 => !tkn (x :: l) y.2.1) = fun y : O5 => !tkn l y.2.1 := by
        funext y
        rw [tkn_cons, e3]
        rfl
      rw [ef]
      congr 1
      by_cases c2 : tkn l x.f1 = false
      · rw [if_pos ⟨c1, c2⟩]
        have : (!tkn l (o5 x).2.1) = true := by show (!tkn l x.f1) = true; rw [c2]; rfl
        simp [this]
      · rw [if_neg (fun q => c2 q.2)]
        have : (!tkn l (o5 x).2.1) = false := by
          show (!tkn l x.f1) = false
          cases h : tkn l x.f1
          · exact absurd h c2
          · rfl
        simp [this]
    · rw [if_neg (show ¬ (o5 x).1 = kd from c1), if_neg (show ¬ (x.f0 = kd ∧ tkn l x.f1 = false) from fun q => c1 q.1)]
      by_cases c2 : x.f0 = 3
      · rw [if_pos (show (o5 x).1 = 3 from c2), List.filter_filter]
        congr 1
        congr 1
        funext y
        rw [tkn_cons, c2]
        show (!tkn l y.2.1 && stays x.f1 y) = !((true && x.f1 == y.2.1) || tkn l y.2.1)
        unfold stays
        by_cases c : y.2.1 = x.f1
        · rw [c]; simp
        · have c' : ¬ x.f1 = y.2.1 := fun q => c q.symm
          have h1 : (y.2.1 != x.f1) = true := by simp [c]
          have h2 : (x.f1 == y.2.1) = false := by simp [c']
          rw [h1, h2]
          simp
      · rw [if_neg (show ¬ (o5 x).1 = 3 from c2)]
        have e3 : (x.f0 == 3) = false := beq_eq_false_iff_ne.2 c2
        congr 1
        congr 1
        funext y
        rw [tkn_cons, e3]
        rfl
theorem keptL_ref {kd : Int} (h3 : kd ≠ 3) (l : List SO) : keptL kd (l.map o5) = (refK kd l).map o5 := by
  unfold keptL
  rw [kept_ref h3]
  rfl
theorem jobsL_ref (l : List SO) : jobsL (l.map o5) = ((refK 1 l).map (·.f1)).foldl (fun a x => insJ x a) [] := by
  rw [insJ_fold]
  show jset ((keptL 1 (l.map o5)).map (·.2.1)) = _
  rw [keptL_ref (by decide), List.map_map]
  rfl
theorem w64t {i : Nat} (h : i < 4611686018427387904) : wrap64 ((i : Int) + 1) = ((i + 1 : Nat) : Int) := by unfold wrap64; omega
theorem taken_l0 {l : List SO} (hl : l.length ≤ 1000) {i : Nat} (hi : i < l.length) : ∀ (d j k : Nat), j + d = l.length → d < k → remontoirref27_taken.l0 k l (i : Int) (j : Int) = some (tkn (l.drop j) l[i].f1) := by
  have hri : rd_T76 l (i : Int) = l[i] := by
    unfold rd_T76
    rw [Int.toNat_natCast, List.getD_eq_getElem?_getD, List.getElem?_eq_getElem hi]
    rfl
  intro d
  induction d with
  | zero =>
    intro j k hj hk
    obtain ⟨k, rfl⟩ : ∃ q, k = q + 1 := ⟨k - 1, by omega⟩
    rw [remontoirref27_taken.l0, if_neg (by omega), List.drop_of_length_le (by omega)]
    rfl
  | succ d ih =>
    intro j k hj hk
    obtain ⟨k, rfl⟩ : ∃ q, k = q + 1 := ⟨k - 1, by omega⟩
    have hr : rd_T76 l (j : Int) = l[j] := by
      unfold rd_T76
      rw [Int.toNat_natCast, List.getD_eq_getElem?_getD, List.getElem?_eq_getElem (by omega)]
      rfl
    have g := ih (j + 1) k (by omega) (by omega)
    rw [remontoirref27_taken.l0, if_pos (by omega), if_pos (by omega), hr, hri, w64t (by omega), g, List.drop_eq_getElem_cons (by omega : j < l.length), tkn_cons]
    by_cases c : l[j].f0 = 3
    · rw [if_pos c, if_pos (by omega), if_pos (by omega), c]
      by_cases c2 : l[j].f1 = l[i].f1
      · rw [if_pos c2, c2]; simp
      · rw [if_neg c2]
        have : (l[j].f1 == l[i].f1) = false := beq_eq_false_iff_ne.2 c2
        rw [this]
        simp
    · rw [if_neg c]
      have : (l[j].f0 == 3) = false := beq_eq_false_iff_ne.2 c
      rw [this]
      simp
theorem taken_f {l : List SO} (hl : l.length ≤ 1000) {i : Nat} (hi : i < l.length) (k : Nat) (hk : l.length < k) : remontoirref27_taken.f k l (i : Int) = some (tkn (l.drop (i + 1)) l[i].f1) := by
  unfold remontoirref27_taken.f
  rw [w64t (by omega)]
  exact taken_l0 hl hi (l.length - (i + 1)) (i + 1) k (by omega) (by omega)
end Go.Proofs.YtdfkbiffdcfnpaaGreatDoor.H
