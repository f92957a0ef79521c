/- Parts of the proof of LawOrdersTell: words, contracts of the functions, plain laws. -/
import Derived.Test.YtdfkbiffdcfnpaaGreatDoorDA02
import Derived.Test.YtdfkbiffdcfnpaaGreatDoorDA03
import Derived.LoopN
-- Written by hp.py (a program of this session, over the kit's print.py), with hand-made contracts beside it.
namespace Go.Proofs.YtdfkbiffdcfnpaaGreatDoor.H
open Go.RowKit Go.Proofs.YtdfkbiffdcfnpaaGreatDoorW.PrintWords Go.Proofs.YtdfkbiffdcfnpaaGreatDoorW.PrintLast Go.Proofs.YtdfkbiffdcfnpaaGreatDoorW.PrintMore
attribute [local go_sem] max2_int min2_int max_two min_two max_three min_three max_four min_four   -- for this text's walks alone
set_option linter.unusedVariables false
set_option linter.unusedSimpArgs false

/-! ### graph_waits: function 68 -/
def graph_waits.j0 : Nat → Int → Int → Int → Int → ByteArray → Option (Int × Int × Bool)
  | 0, _, _, _, _, _ => none
  | k + 1, x124000, x124001, x124002, x124003, x124004 => (span_Parse.f x124004).bind fun bt125 => (if bt125.2 = 0 then (some (1, bt125.1, decide (bt125.1 > 0))) else ((cycle_Parse.f k x124004).bind fun bt127 => (if x124000 = 9 then (if bt127.2.2 = 0 then (if bt127.1 > 9 then (some (0, 0, false)) else (some (bt127.1, bt127.2.1, true))) else (some (0, 0, false))) else (some (0, 0, false)))))
def graph_waits.f (k : Nat) (a0_0 : Int) (a0_1 : Int) (a0_2 : Int) (a0_3 : Int) (a0_4 : ByteArray) : Option (Int × Int × Bool) := if a0_0 = 4 then (graph_waits.j0 k a0_0 a0_1 a0_2 a0_3 a0_4) else (if a0_0 = 8 then (graph_waits.j0 k a0_0 a0_1 a0_2 a0_3 a0_4) else (if a0_0 = 9 then (graph_waits.j0 k a0_0 a0_1 a0_2 a0_3 a0_4) else (some (0, 0, false))))
theorem graph_waits.mono_l : ∀ k, (∀ y0 y1 y2 y3 y4, LeO (graph_waits.j0 k y0 y1 y2 y3 y4) (graph_waits.j0 (k + 1) y0 y1 y2 y3 y4))
  | 0 => fun _ _ _ _ _ r h => by simp [graph_waits.j0] at h
  | k + 1 => by
    have ih0 := graph_waits.mono_l k
    · intro y0 y1 y2 y3 y4
      unfold graph_waits.j0
      repeat' first
      | (with_reducible exact ih0 _ _ _ _ _)
      | (with_reducible exact cycle_Parse.mono _ _)
      | (with_reducible exact LeO.refl _)
      | (with_reducible exact LeO.none _)
      | (with_reducible refine LeO.ite ?_ ?_)
      | (with_reducible refine LeO.bind ?_ (fun _ => ?_))
      | exact ih0 _ _ _ _ _
      | exact cycle_Parse.mono _ _
      | exact LeO.none _
      | refine LeO.ite ?_ ?_
      | refine LeO.bind ?_ (fun _ => ?_)
theorem graph_waits.mono : ∀ a0 a1 a2 a3 a4 k, LeO (graph_waits.f k a0 a1 a2 a3 a4) (graph_waits.f (k + 1) a0 a1 a2 a3 a4) := by
  intro a0 a1 a2 a3 a4 k
  have ih0 := graph_waits.mono_l k
  unfold graph_waits.f
  repeat' first
      | (with_reducible exact ih0 _ _ _ _ _)
      | (with_reducible exact cycle_Parse.mono _ _)
      | (with_reducible exact LeO.refl _)
      | (with_reducible exact LeO.none _)
      | (with_reducible refine LeO.ite ?_ ?_)
      | (with_reducible refine LeO.bind ?_ (fun _ => ?_))
      | exact ih0 _ _ _ _ _
      | exact cycle_Parse.mono _ _
      | exact LeO.none _
      | refine LeO.ite ?_ ?_
      | refine LeO.bind ?_ (fun _ => ?_)
set_option maxHeartbeats 8000000 in
set_option maxRecDepth 100000 in
theorem graph_waits.calls (k : Nat) (a0_0 : Int) (a0_1 : Int) (a0_2 : Int) (a0_3 : Int) (a0_4 : ByteArray) (r1 : Int) (r2 : Int) (r3 : Bool) (w : World) (h : graph_waits.f k a0_0 a0_1 a0_2 a0_3 a0_4 = some (r1, r2, r3)) :
  Calls Tryz.prog 68 #[.agg #[.int .i64 a0_0, .int .i64 a0_1, .int .i64 a0_2, .int .i64 a0_3, .string a0_4]] w fun e w' => e = .returned (.tuple #[.agg #[.int .i64 r1, .int .u64 r2], .bool r3]) ∧ Below w.heap.size w w' := by
 have hu86 := Tryz.underlying86
 have hu88 := Tryz.underlying88
 have HB := Aside0.mk (Below.refl w.heap.size w)
 have H : (if a0_0 = 4 then (graph_waits.j0 k a0_0 a0_1 a0_2 a0_3 a0_4) else (if a0_0 = 8 then (graph_waits.j0 k a0_0 a0_1 a0_2 a0_3 a0_4) else (if a0_0 = 9 then (graph_waits.j0 k a0_0 a0_1 a0_2 a0_3 a0_4) else (some (0, 0, false))))) = some (r1, r2, r3) := h
 clear h
 have HC2 := Aside0.mk H
 clear H
 go_enter Tryz.func68, Tryz.ntmps68
 go_upto_block 0 with (first | ((with_reducible refine gate_dst (N := 1) rfl ?_); refine box_event ?hg (N := 1) ?hd (cs := #[.int .i64 a0_0, .int .i64 a0_1, .int .i64 a0_2, .int .i64 a0_3, .string a0_4]) (t := 86) ?hr ?_; (case hd => rfl); (case hg => rfl); (case hr => first | (go_simp; done) | (go_simp; rfl)); intro gb123 hg w3 hbox hb; have n0_ := Aside0.mk (bsp (by repeat (first | (with_reducible first | exact HB.out | apply bal | apply pbN | apply bd1) | exact HB.out)) hb); have n1_ := Aside0.mk (hbox); have n2_ := Aside0.mk ((by rw [hg]; exact (bsz (by repeat (first | (with_reducible first | exact HB.out | apply bal | apply pbN | apply bd1) | exact HB.out))) : w.heap.size ≤ gb123)); have n3_ := Aside0.mk ((by rw [hg]; exact (bsz (by repeat (first | (with_reducible first | exact HB.out | apply bal | apply pbN | apply bd1) | exact HB.out))) : w.heap.size ≤ gb123)); clear HB; have HB := n0_; have BK123 := n1_; have GW123 := n2_; have GE123 := n3_; clear n0_ n1_ n2_ n3_; clear hb hbox hg) | ((with_reducible refine gate_dst (N := 2) rfl ?_); refine box_event ?hg (N := 2) ?hd (cs := #[.int .i64 0, .int .u64 0]) (t := 88) ?hr ?_; (case hd => rfl); (case hg => rfl); (case hr => first | (go_simp; done) | (go_simp; rfl)); intro gb124 hg w4 hbox hb; have n0_ := Aside0.mk (bbe (g := gb123) (o := .cells #[.int .i64 a0_0, .int .i64 a0_1, .int .i64 a0_2, .int .i64 a0_3, .string a0_4] 86 (0, 0)) (by (with_reducible repeat (first | refine bkn ?_ _ | refine bkd ?_ | refine bka ?_ _)); exact BK123.out) hb); have n1_ := Aside0.mk (bsp (by repeat (first | (with_reducible first | exact HB.out | apply bal | apply pbN | apply bd1 | refine bst ?_ GE123.out) | exact HB.out)) hb); have n2_ := Aside0.mk (hbox); have n3_ := Aside0.mk ((by rw [hg]; exact (bsz (by repeat (first | (with_reducible first | exact HB.out | apply bal | apply pbN | apply bd1 | refine bst ?_ GE123.out) | exact HB.out))) : w.heap.size ≤ gb124)); have n4_ := Aside0.mk ((by rw [hg]; exact (bsz (by repeat (first | (with_reducible first | exact HB.out | apply bal | apply pbN | apply bd1 | refine bst ?_ GE123.out) | exact HB.out))) : w.heap.size ≤ gb124)); have n5_ := Aside0.mk ((by rw [hg]; exact Nat.ne_of_lt (blk_lt (g := gb123) (o := .cells #[.int .i64 a0_0, .int .i64 a0_1, .int .i64 a0_2, .int .i64 a0_3, .string a0_4] 86 (0, 0)) (by (with_reducible repeat (first | refine bkn ?_ _ | refine bkd ?_ | refine bka ?_ _)); exact BK123.out)) : gb123 ≠ gb124)); have n6_ := Aside0.mk ((by rw [hg]; exact Nat.ne_of_gt (blk_lt (g := gb123) (o := .cells #[.int .i64 a0_0, .int .i64 a0_1, .int .i64 a0_2, .int .i64 a0_3, .string a0_4] 86 (0, 0)) (by (with_reducible repeat (first | refine bkn ?_ _ | refine bkd ?_ | refine bka ?_ _)); exact BK123.out)) : gb124 ≠ gb123)); clear BK123; clear HB; have BK123 := n0_; have HB := n1_; have BK124 := n2_; have GW124 := n3_; have GE124 := n4_; have NB123_124 := n5_; have NB124_123 := n6_; clear n0_ n1_ n2_ n3_ n4_ n5_ n6_; clear hb hbox hg; have hnb5 := NB123_124.out; have hnc5 := NB124_123.out; have hcz6_0 : w4.cell? ⟨gb123, 0, none⟩ = some (.int .i64 a0_0) := (bce BK123.out 0).trans rfl; have hcz6_1 : w4.cell? ⟨gb123, 1, none⟩ = some (.int .i64 a0_1) := (bce BK123.out 1).trans rfl; have hcz6_2 : w4.cell? ⟨gb123, 2, none⟩ = some (.int .i64 a0_2) := (bce BK123.out 2).trans rfl; have hcz6_3 : w4.cell? ⟨gb123, 3, none⟩ = some (.int .i64 a0_3) := (bce BK123.out 3).trans rfl; have hcz6_4 : w4.cell? ⟨gb123, 4, none⟩ = some (.string a0_4) := (bce BK123.out 4).trans rfl; have hfz6_0 := bfz BK123.out 0; have hfz6_1 := bfz BK123.out 1; have hfz6_2 := bfz BK123.out 2; have hfz6_3 := bfz BK123.out 3; have hfz6_4 := bfz BK123.out 4))
 (try simp only [Act.put, List.setIfInBounds_toArray, List.set_cons_zero, List.set_cons_succ])
 go_cut [] (fun wc => ∃ (kq : Nat) (x125000_1 : Int) (x125001_1 : Int), Aside0 (graph_waits.j0 kq a0_0 a0_1 a0_2 a0_3 a0_4 = some (r1, r2, r3)) ∧ Aside0 (kq ≤ k) ∧ Aside0 (wc.heap[gb123]? = some (.cells #[.int .i64 a0_0, .int .i64 a0_1, .int .i64 a0_2, .int .i64 a0_3, .string a0_4] 86 (0, 0))) ∧ Aside0 (wc.heap[gb124]? = some (.cells #[.int .i64 x125000_1, .int .u64 x125001_1] 88 (0, 0))) ∧ Aside0 (Below w.heap.size w wc))
 case first =>
  have H := HC2.out
  clear HC2
  by_cases c7 : a0_0 = 4
  ·rw [if_pos c7] at H
   have c7b0 : (a0_0 == 4) = true := beq_iff_eq.mpr c7
   have c7b1 : (a0_0 != 4) = false := bne_eq_false_iff_eq.mpr c7
   clear c7
   (first | rw [c7b0] | (simp only [i64_w, i32_w]; rw [c7b0]) | skip)
   have H' := Aside0.mk H
   clear H
   go_wp2
   go_meet
   case rel => exact ⟨_, (0), (0), H', ⟨by first | omega | exact Nat.le_refl _⟩, ⟨by (with_reducible repeat (first | refine bkn ?_ _ | refine bkd ?_ | refine bka ?_ _)); exact BK123.out⟩, ⟨by (with_reducible repeat (first | refine bkn ?_ _ | refine bkd ?_ | refine bka ?_ _)); exact BK124.out⟩, ⟨by repeat (first | (with_reducible first | exact HB.out | apply bal | apply pbN | apply bd1 | refine bst ?_ GE123.out | refine bst ?_ GE124.out) | exact HB.out)⟩⟩
  ·rw [if_neg c7] at H
   have c7b0 : (a0_0 == 4) = false := beq_eq_false_iff_ne.mpr c7
   have c7b1 : (a0_0 != 4) = true := bne_iff_ne.mpr c7
   (first | rw [c7b0] | (simp only [i64_w, i32_w]; rw [c7b0]) | skip)
   by_cases c8 : a0_0 = 8
   ·rw [if_pos c8] at H
    have c8b0 : (a0_0 == 8) = true := beq_iff_eq.mpr c8
    have c8b1 : (a0_0 != 8) = false := bne_eq_false_iff_eq.mpr c8
    clear c8
    have H' := Aside0.mk H
    clear H
    go_wp2
    go_meet
    case rel => exact ⟨_, (0), (0), H', ⟨by first | omega | exact Nat.le_refl _⟩, ⟨by (with_reducible repeat (first | refine bkn ?_ _ | refine bkd ?_ | refine bka ?_ _)); exact BK123.out⟩, ⟨by (with_reducible repeat (first | refine bkn ?_ _ | refine bkd ?_ | refine bka ?_ _)); exact BK124.out⟩, ⟨by repeat (first | (with_reducible first | exact HB.out | apply bal | apply pbN | apply bd1 | refine bst ?_ GE123.out | refine bst ?_ GE124.out) | exact HB.out)⟩⟩
   ·rw [if_neg c8] at H
    have c8b0 : (a0_0 == 8) = false := beq_eq_false_iff_ne.mpr c8
    have c8b1 : (a0_0 != 8) = true := bne_iff_ne.mpr c8
    by_cases c9 : a0_0 = 9
    ·rw [if_pos c9] at H
     have c9b0 : (a0_0 == 9) = true := beq_iff_eq.mpr c9
     have c9b1 : (a0_0 != 9) = false := bne_eq_false_iff_eq.mpr c9
     clear c9
     have H' := Aside0.mk H
     clear H
     go_wp2
     go_meet
     case rel => exact ⟨_, (0), (0), H', ⟨by first | omega | exact Nat.le_refl _⟩, ⟨by (with_reducible repeat (first | refine bkn ?_ _ | refine bkd ?_ | refine bka ?_ _)); exact BK123.out⟩, ⟨by (with_reducible repeat (first | refine bkn ?_ _ | refine bkd ?_ | refine bka ?_ _)); exact BK124.out⟩, ⟨by repeat (first | (with_reducible first | exact HB.out | apply bal | apply pbN | apply bd1 | refine bst ?_ GE123.out | refine bst ?_ GE124.out) | exact HB.out)⟩⟩
    ·rw [if_neg c9] at H
     have c9b0 : (a0_0 == 9) = false := beq_eq_false_iff_ne.mpr c9
     have c9b1 : (a0_0 != 9) = true := bne_iff_ne.mpr c9
     simp only [Option.some.injEq, Prod.mk.injEq] at H
     obtain ⟨rfl, rfl, rfl⟩ := H
     have hnb10 := NB124_123.out
     have hnc10 := NB123_124.out
     have hcz11_0 : w4.cell? ⟨gb124, 0, none⟩ = some (.int .i64 0) := (bce BK124.out 0).trans rfl
     have hcz11_1 : w4.cell? ⟨gb124, 1, none⟩ = some (.int .u64 0) := (bce BK124.out 1).trans rfl
     have hfz11_0 := bfz BK124.out 0
     have hfz11_1 := bfz BK124.out 1
     go_wp2
     refine bodyPost_ret (results_ct rfl _ _ gb124 88 #[.int .i64 0, .int .u64 0] (0, 0) _ rfl (by (with_reducible repeat (first | refine bkn ?_ _ | refine bkd ?_ | refine bka ?_ _)); refine blk_put (cs := #[.int .i64 0, .int .u64 0]) ?_ 1 _ rfl; (with_reducible repeat (first | refine bkn ?_ _ | refine bkd ?_ | refine bka ?_ _)); refine blk_put (cs := #[.int .i64 0, .int .u64 0]) ?_ 0 _ rfl; (with_reducible repeat (first | refine bkn ?_ _ | refine bkd ?_ | refine bka ?_ _)); exact BK124.out) Tryz.underlying88 rfl (by kernel_rfl)) rfl ?_
     exact ⟨by first | rfl | (simp [errW_none, errW_some] <;> rfl) | (simp [*, errW_none, errW_some] <;> rfl), by repeat (first | (with_reducible first | exact HB.out | apply bal | apply pbN | apply bd1 | refine bst ?_ GE123.out | refine bst ?_ GE124.out) | exact HB.out)⟩
 case rest =>
  clear HC2
  try clear c1
  try clear p2
  try clear c5
  try clear c6
  try clear c7
  try clear c7b0
  try clear c7b1
  try clear c8
  try clear c8b0
  try clear c8b1
  try clear c9
  try clear c9b0
  try clear c9b1
  try clear c10
  try clear hcz11_0
  try clear hcz11_1
  try clear hcz6_0
  try clear hcz6_1
  try clear hcz6_2
  try clear hcz6_3
  try clear hcz6_4
  try clear hfz11_0
  try clear hfz11_1
  try clear hfz6_0
  try clear hfz6_1
  try clear hfz6_2
  try clear hfz6_3
  try clear hfz6_4
  obtain ⟨kq, x125000_1, x125001_1, HA, HJ1, BK123, BK124, HB⟩ := hcut
  cases kq with
  | zero => exact absurd HA.out (by simp [graph_waits.j0])
  | succ kj1 =>
   have H := HA.out
   clear HA
   simp only [graph_waits.j0] at H
   replace H := Option.bind_eq_some_iff.mp H
   obtain ⟨⟨t125, t126⟩, A120, H⟩ := H
   replace H : (if t126 = 0 then (some (1, t125, decide (t125 > 0))) else ((cycle_Parse.f kj1 a0_4).bind fun bt127 => (if a0_0 = 9 then (if bt127.2.2 = 0 then (if bt127.1 > 9 then (some (0, 0, false)) else (some (bt127.1, bt127.2.1, true))) else (some (0, 0, false))) else (some (0, 0, false))))) = some (r1, r2, r3) := H
   have A12 := Aside0.mk A120
   clear A120
   by_cases c13 : t126 = 0
   ·rw [if_pos c13] at H
    have c13b0 : (t126 == 0) = true := beq_iff_eq.mpr c13
    have c13b1 : (t126 != 0) = false := bne_eq_false_iff_eq.mpr c13
    clear c13
    simp only [Option.some.injEq, Prod.mk.injEq] at H
    obtain ⟨rfl, rfl, rfl⟩ := H
    have hnb14 := NB123_124.out
    have hnc14 := NB124_123.out
    have hcz15_0 : wc.cell? ⟨gb123, 0, none⟩ = some (.int .i64 a0_0) := (bce BK123.out 0).trans rfl
    have hcz15_1 : wc.cell? ⟨gb123, 1, none⟩ = some (.int .i64 a0_1) := (bce BK123.out 1).trans rfl
    have hcz15_2 : wc.cell? ⟨gb123, 2, none⟩ = some (.int .i64 a0_2) := (bce BK123.out 2).trans rfl
    have hcz15_3 : wc.cell? ⟨gb123, 3, none⟩ = some (.int .i64 a0_3) := (bce BK123.out 3).trans rfl
    have hcz15_4 : wc.cell? ⟨gb123, 4, none⟩ = some (.string a0_4) := (bce BK123.out 4).trans rfl
    have hfz15_0 := bfz BK123.out 0
    have hfz15_1 := bfz BK123.out 1
    have hfz15_2 := bfz BK123.out 2
    have hfz15_3 := bfz BK123.out 3
    have hfz15_4 := bfz BK123.out 4
    go_wp2_with (first | ((with_reducible refine gate_callee (f := 117) rfl ?_); refine goesL_ (some 18) rfl rfl Tryz.func117 (by kernel_rfl) rfl #[.string a0_4] rfl (by (try simp only [List.map_toArray, List.map_cons, List.map_nil]); first | done | rfl | (simp only [List.length_drop, List.length_take]; rfl)) ?_; (with_reducible refine (span_Parse.calls a0_4 t125 t126 _ A12.out).mono ?_); rintro e w16 ⟨rfl, hb⟩; refine ⟨_, rfl, ?_⟩; have n0_ := Aside0.mk (bbe (g := gb123) (o := .cells #[.int .i64 a0_0, .int .i64 a0_1, .int .i64 a0_2, .int .i64 a0_3, .string a0_4] 86 (0, 0)) (by (with_reducible repeat (first | refine bkn ?_ _ | refine bkd ?_ | refine bka ?_ _)); exact BK123.out) hb); have n1_ := Aside0.mk (bbe (g := gb124) (o := .cells #[.int .i64 x125000_1, .int .u64 x125001_1] 88 (0, 0)) (by (with_reducible repeat (first | refine bkn ?_ _ | refine bkd ?_ | refine bka ?_ _)); exact BK124.out) hb); have n2_ := Aside0.mk (bsp (by repeat (first | (with_reducible first | exact HB.out | apply bal | apply pbN | apply bd1 | refine bst ?_ GE123.out | refine bst ?_ GE124.out) | exact HB.out)) hb); clear BK123; clear BK124; clear HB; have BK123 := n0_; have BK124 := n1_; have HB := n2_; clear n0_ n1_ n2_; (try clear hb); (try clear hb2); (try clear hk); (try clear hi); have hcz17_0 : w16.cell? ⟨gb124, 0, none⟩ = some (.int .i64 x125000_1) := (bce BK124.out 0).trans rfl; have hcz17_1 : w16.cell? ⟨gb124, 1, none⟩ = some (.int .u64 x125001_1) := (bce BK124.out 1).trans rfl; have hfz17_0 := bfz BK124.out 0; have hfz17_1 := bfz BK124.out 1))
    refine bodyPost_ret (results_ct rfl _ _ gb124 88 #[.int .i64 1, .int .u64 t125] (0, 0) _ rfl (by (with_reducible repeat (first | refine bkn ?_ _ | refine bkd ?_ | refine bka ?_ _)); refine blk_put (cs := #[.int .i64 1, .int .u64 x125001_1]) ?_ 1 _ rfl; (with_reducible repeat (first | refine bkn ?_ _ | refine bkd ?_ | refine bka ?_ _)); refine blk_put (cs := #[.int .i64 x125000_1, .int .u64 x125001_1]) ?_ 0 _ rfl; (with_reducible repeat (first | refine bkn ?_ _ | refine bkd ?_ | refine bka ?_ _)); exact BK124.out) Tryz.underlying88 rfl (by kernel_rfl)) rfl ?_
    exact ⟨by first | rfl | (simp [errW_none, errW_some] <;> rfl) | (simp [*, errW_none, errW_some] <;> rfl), by repeat (first | (with_reducible first | exact HB.out | apply bal | apply pbN | apply bd1 | refine bst ?_ GE123.out | refine bst ?_ GE124.out) | exact HB.out)⟩
   ·rw [if_neg c13] at H
    have c13b0 : (t126 == 0) = false := beq_eq_false_iff_ne.mpr c13
    have c13b1 : (t126 != 0) = true := bne_iff_ne.mpr c13
    replace H := Option.bind_eq_some_iff.mp H
    obtain ⟨⟨t127, t128, t129⟩, A180, H⟩ := H
    replace H : (if a0_0 = 9 then (if t129 = 0 then (if t127 > 9 then (some (0, 0, false)) else (some (t127, t128, true))) else (some (0, 0, false))) else (some (0, 0, false))) = some (r1, r2, r3) := H
    have A18 := Aside0.mk A180
    clear A180
    by_cases c19 : a0_0 = 9
    ·rw [if_pos c19] at H
     have c19b0 : (a0_0 == 9) = true := beq_iff_eq.mpr c19
     have c19b1 : (a0_0 != 9) = false := bne_eq_false_iff_eq.mpr c19
     clear c19
     by_cases c20 : t129 = 0
     ·rw [if_pos c20] at H
      have c20b0 : (t129 == 0) = true := beq_iff_eq.mpr c20
      have c20b1 : (t129 != 0) = false := bne_eq_false_iff_eq.mpr c20
      clear c20
      by_cases c21 : t127 > 9
      ·rw [if_pos c21] at H
       have c21b0 : decide (9 < t127) = true := decide_eq_true c21
       clear c21
       simp only [Option.some.injEq, Prod.mk.injEq] at H
       obtain ⟨rfl, rfl, rfl⟩ := H
       have hnb22 := NB123_124.out
       have hnc22 := NB124_123.out
       have hcz23_0 : wc.cell? ⟨gb123, 0, none⟩ = some (.int .i64 a0_0) := (bce BK123.out 0).trans rfl
       have hcz23_1 : wc.cell? ⟨gb123, 1, none⟩ = some (.int .i64 a0_1) := (bce BK123.out 1).trans rfl
       have hcz23_2 : wc.cell? ⟨gb123, 2, none⟩ = some (.int .i64 a0_2) := (bce BK123.out 2).trans rfl
       have hcz23_3 : wc.cell? ⟨gb123, 3, none⟩ = some (.int .i64 a0_3) := (bce BK123.out 3).trans rfl
       have hcz23_4 : wc.cell? ⟨gb123, 4, none⟩ = some (.string a0_4) := (bce BK123.out 4).trans rfl
       have hfz23_0 := bfz BK123.out 0
       have hfz23_1 := bfz BK123.out 1
       have hfz23_2 := bfz BK123.out 2
       have hfz23_3 := bfz BK123.out 3
       have hfz23_4 := bfz BK123.out 4
       go_wp2_with (first | ((with_reducible refine gate_callee (f := 117) rfl ?_); refine goesL_ (some 18) rfl rfl Tryz.func117 (by kernel_rfl) rfl #[.string a0_4] rfl (by (try simp only [List.map_toArray, List.map_cons, List.map_nil]); first | done | rfl | (simp only [List.length_drop, List.length_take]; rfl)) ?_; (with_reducible refine (span_Parse.calls a0_4 t125 t126 _ A12.out).mono ?_); rintro e w24 ⟨rfl, hb⟩; refine ⟨_, rfl, ?_⟩; have n0_ := Aside0.mk (bbe (g := gb123) (o := .cells #[.int .i64 a0_0, .int .i64 a0_1, .int .i64 a0_2, .int .i64 a0_3, .string a0_4] 86 (0, 0)) (by (with_reducible repeat (first | refine bkn ?_ _ | refine bkd ?_ | refine bka ?_ _)); exact BK123.out) hb); have n1_ := Aside0.mk (bbe (g := gb124) (o := .cells #[.int .i64 x125000_1, .int .u64 x125001_1] 88 (0, 0)) (by (with_reducible repeat (first | refine bkn ?_ _ | refine bkd ?_ | refine bka ?_ _)); exact BK124.out) hb); have n2_ := Aside0.mk (bsp (by repeat (first | (with_reducible first | exact HB.out | apply bal | apply pbN | apply bd1 | refine bst ?_ GE123.out | refine bst ?_ GE124.out) | exact HB.out)) hb); clear BK123; clear BK124; clear HB; have BK123 := n0_; have BK124 := n1_; have HB := n2_; clear n0_ n1_ n2_; (try clear hb); (try clear hb2); (try clear hk); (try clear hi); have hcz25_0 : w24.cell? ⟨gb123, 0, none⟩ = some (.int .i64 a0_0) := (bce BK123.out 0).trans rfl; have hcz25_1 : w24.cell? ⟨gb123, 1, none⟩ = some (.int .i64 a0_1) := (bce BK123.out 1).trans rfl; have hcz25_2 : w24.cell? ⟨gb123, 2, none⟩ = some (.int .i64 a0_2) := (bce BK123.out 2).trans rfl; have hcz25_3 : w24.cell? ⟨gb123, 3, none⟩ = some (.int .i64 a0_3) := (bce BK123.out 3).trans rfl; have hcz25_4 : w24.cell? ⟨gb123, 4, none⟩ = some (.string a0_4) := (bce BK123.out 4).trans rfl; have hfz25_0 := bfz BK123.out 0; have hfz25_1 := bfz BK123.out 1; have hfz25_2 := bfz BK123.out 2; have hfz25_3 := bfz BK123.out 3; have hfz25_4 := bfz BK123.out 4) | ((with_reducible refine gate_callee (f := 118) rfl ?_); refine goesL_ (some 30) rfl rfl Tryz.func118 (by kernel_rfl) rfl #[.string a0_4] rfl (by (try simp only [List.map_toArray, List.map_cons, List.map_nil]); first | done | rfl | (simp only [List.length_drop, List.length_take]; rfl)) ?_; (with_reducible refine (cycle_Parse.calls kj1 a0_4 t127 t128 t129 _ A18.out).mono ?_); rintro e w26 ⟨rfl, hb⟩; refine ⟨_, rfl, ?_⟩; have n0_ := Aside0.mk (bbe (g := gb123) (o := .cells #[.int .i64 a0_0, .int .i64 a0_1, .int .i64 a0_2, .int .i64 a0_3, .string a0_4] 86 (0, 0)) (by (with_reducible repeat (first | refine bkn ?_ _ | refine bkd ?_ | refine bka ?_ _)); exact BK123.out) hb); have n1_ := Aside0.mk (bbe (g := gb124) (o := .cells #[.int .i64 x125000_1, .int .u64 x125001_1] 88 (0, 0)) (by (with_reducible repeat (first | refine bkn ?_ _ | refine bkd ?_ | refine bka ?_ _)); exact BK124.out) hb); have n2_ := Aside0.mk (bsp (by repeat (first | (with_reducible first | exact HB.out | apply bal | apply pbN | apply bd1 | refine bst ?_ GE123.out | refine bst ?_ GE124.out) | exact HB.out)) hb); clear BK123; clear BK124; clear HB; have BK123 := n0_; have BK124 := n1_; have HB := n2_; clear n0_ n1_ n2_; (try clear hb); (try clear hb2); (try clear hk); (try clear hi)) | ((with_reducible refine gate_dst (N := 6) rfl ?_); refine box_event ?hg (N := 6) ?hd (cs := #[.int .i64 0, .int .u64 0]) (t := 88) ?hr ?_; (case hd => rfl); (case hg => rfl); (case hr => first | (go_simp; done) | (go_simp; rfl)); intro gb130 hg w27 hbox hb; have n0_ := Aside0.mk (bbe (g := gb123) (o := .cells #[.int .i64 a0_0, .int .i64 a0_1, .int .i64 a0_2, .int .i64 a0_3, .string a0_4] 86 (0, 0)) (by (with_reducible repeat (first | refine bkn ?_ _ | refine bkd ?_ | refine bka ?_ _)); exact BK123.out) hb); have n1_ := Aside0.mk (bbe (g := gb124) (o := .cells #[.int .i64 x125000_1, .int .u64 x125001_1] 88 (0, 0)) (by (with_reducible repeat (first | refine bkn ?_ _ | refine bkd ?_ | refine bka ?_ _)); exact BK124.out) hb); have n2_ := Aside0.mk (bsp (by repeat (first | (with_reducible first | exact HB.out | apply bal | apply pbN | apply bd1 | refine bst ?_ GE123.out | refine bst ?_ GE124.out) | exact HB.out)) hb); have n3_ := Aside0.mk (hbox); have n4_ := Aside0.mk ((by rw [hg]; exact (bsz (by repeat (first | (with_reducible first | exact HB.out | apply bal | apply pbN | apply bd1 | refine bst ?_ GE123.out | refine bst ?_ GE124.out) | exact HB.out))) : w.heap.size ≤ gb130)); have n5_ := Aside0.mk ((by rw [hg]; exact (bsz (by repeat (first | (with_reducible first | exact HB.out | apply bal | apply pbN | apply bd1 | refine bst ?_ GE123.out | refine bst ?_ GE124.out) | exact HB.out))) : w.heap.size ≤ gb130)); have n6_ := Aside0.mk ((by rw [hg]; exact Nat.ne_of_lt (blk_lt (g := gb123) (o := .cells #[.int .i64 a0_0, .int .i64 a0_1, .int .i64 a0_2, .int .i64 a0_3, .string a0_4] 86 (0, 0)) (by (with_reducible repeat (first | refine bkn ?_ _ | refine bkd ?_ | refine bka ?_ _)); exact BK123.out)) : gb123 ≠ gb130)); have n7_ := Aside0.mk ((by rw [hg]; exact Nat.ne_of_gt (blk_lt (g := gb123) (o := .cells #[.int .i64 a0_0, .int .i64 a0_1, .int .i64 a0_2, .int .i64 a0_3, .string a0_4] 86 (0, 0)) (by (with_reducible repeat (first | refine bkn ?_ _ | refine bkd ?_ | refine bka ?_ _)); exact BK123.out)) : gb130 ≠ gb123)); have n8_ := Aside0.mk ((by rw [hg]; exact Nat.ne_of_lt (blk_lt (g := gb124) (o := .cells #[.int .i64 x125000_1, .int .u64 x125001_1] 88 (0, 0)) (by (with_reducible repeat (first | refine bkn ?_ _ | refine bkd ?_ | refine bka ?_ _)); exact BK124.out)) : gb124 ≠ gb130)); have n9_ := Aside0.mk ((by rw [hg]; exact Nat.ne_of_gt (blk_lt (g := gb124) (o := .cells #[.int .i64 x125000_1, .int .u64 x125001_1] 88 (0, 0)) (by (with_reducible repeat (first | refine bkn ?_ _ | refine bkd ?_ | refine bka ?_ _)); exact BK124.out)) : gb130 ≠ gb124)); clear BK123; clear BK124; clear HB; have BK123 := n0_; have BK124 := n1_; have HB := n2_; have BK130 := n3_; have GW130 := n4_; have GE130 := n5_; have NB123_130 := n6_; have NB130_123 := n7_; have NB124_130 := n8_; have NB130_124 := n9_; clear n0_ n1_ n2_ n3_ n4_ n5_ n6_ n7_ n8_ n9_; clear hb hbox hg; have hnb28 := NB130_123.out; have hnc28 := NB123_130.out; have hnb29 := NB130_124.out; have hnc29 := NB124_130.out; have hcz30_0 : w27.cell? ⟨gb130, 0, none⟩ = some (.int .i64 0) := (bce BK130.out 0).trans rfl; have hcz30_1 : w27.cell? ⟨gb130, 1, none⟩ = some (.int .u64 0) := (bce BK130.out 1).trans rfl; have hfz30_0 := bfz BK130.out 0; have hfz30_1 := bfz BK130.out 1; have hcz31_0 : w27.cell? ⟨gb123, 0, none⟩ = some (.int .i64 a0_0) := (bce BK123.out 0).trans rfl; have hcz31_1 : w27.cell? ⟨gb123, 1, none⟩ = some (.int .i64 a0_1) := (bce BK123.out 1).trans rfl; have hcz31_2 : w27.cell? ⟨gb123, 2, none⟩ = some (.int .i64 a0_2) := (bce BK123.out 2).trans rfl; have hcz31_3 : w27.cell? ⟨gb123, 3, none⟩ = some (.int .i64 a0_3) := (bce BK123.out 3).trans rfl; have hcz31_4 : w27.cell? ⟨gb123, 4, none⟩ = some (.string a0_4) := (bce BK123.out 4).trans rfl; have hfz31_0 := bfz BK123.out 0; have hfz31_1 := bfz BK123.out 1; have hfz31_2 := bfz BK123.out 2; have hfz31_3 := bfz BK123.out 3; have hfz31_4 := bfz BK123.out 4; have hcz32_0 : w27.cell? ⟨gb124, 0, none⟩ = some (.int .i64 x125000_1) := (bce BK124.out 0).trans rfl; have hcz32_1 : w27.cell? ⟨gb124, 1, none⟩ = some (.int .u64 x125001_1) := (bce BK124.out 1).trans rfl; have hfz32_0 := bfz BK124.out 0; have hfz32_1 := bfz BK124.out 1))
       refine bodyPost_ret (results_ct rfl _ _ gb124 88 #[.int .i64 0, .int .u64 0] (0, 0) _ rfl (by (with_reducible repeat (first | refine bkn ?_ _ | refine bkd ?_ | refine bka ?_ _)); refine blk_put (cs := #[.int .i64 0, .int .u64 x125001_1]) ?_ 1 _ rfl; (with_reducible repeat (first | refine bkn ?_ _ | refine bkd ?_ | refine bka ?_ _)); refine blk_put (cs := #[.int .i64 x125000_1, .int .u64 x125001_1]) ?_ 0 _ rfl; (with_reducible repeat (first | refine bkn ?_ _ | refine bkd ?_ | refine bka ?_ _)); refine blk_far ?_ NB124_130.out _; (with_reducible repeat (first | refine bkn ?_ _ | refine bkd ?_ | refine bka ?_ _)); refine blk_far ?_ NB124_130.out _; (with_reducible repeat (first | refine bkn ?_ _ | refine bkd ?_ | refine bka ?_ _)); exact BK124.out) Tryz.underlying88 rfl (by kernel_rfl)) rfl ?_
       exact ⟨by first | rfl | (simp [errW_none, errW_some] <;> rfl) | (simp [*, errW_none, errW_some] <;> rfl), by repeat (first | (with_reducible first | exact HB.out | apply bal | apply pbN | apply bd1 | refine bst ?_ GE123.out | refine bst ?_ GE124.out | refine bst ?_ GE130.out) | exact HB.out)⟩
      ·rw [if_neg c21] at H
       have c21b0 : decide (9 < t127) = false := decide_eq_false c21
       clear c21
       simp only [Option.some.injEq, Prod.mk.injEq] at H
       obtain ⟨rfl, rfl, rfl⟩ := H
       have hnb33 := NB123_124.out
       have hnc33 := NB124_123.out
       have hcz34_0 : wc.cell? ⟨gb123, 0, none⟩ = some (.int .i64 a0_0) := (bce BK123.out 0).trans rfl
       have hcz34_1 : wc.cell? ⟨gb123, 1, none⟩ = some (.int .i64 a0_1) := (bce BK123.out 1).trans rfl
       have hcz34_2 : wc.cell? ⟨gb123, 2, none⟩ = some (.int .i64 a0_2) := (bce BK123.out 2).trans rfl
       have hcz34_3 : wc.cell? ⟨gb123, 3, none⟩ = some (.int .i64 a0_3) := (bce BK123.out 3).trans rfl
       have hcz34_4 : wc.cell? ⟨gb123, 4, none⟩ = some (.string a0_4) := (bce BK123.out 4).trans rfl
       have hfz34_0 := bfz BK123.out 0
       have hfz34_1 := bfz BK123.out 1
       have hfz34_2 := bfz BK123.out 2
       have hfz34_3 := bfz BK123.out 3
       have hfz34_4 := bfz BK123.out 4
       go_wp2_with (first | ((with_reducible refine gate_callee (f := 117) rfl ?_); refine goesL_ (some 18) rfl rfl Tryz.func117 (by kernel_rfl) rfl #[.string a0_4] rfl (by (try simp only [List.map_toArray, List.map_cons, List.map_nil]); first | done | rfl | (simp only [List.length_drop, List.length_take]; rfl)) ?_; (with_reducible refine (span_Parse.calls a0_4 t125 t126 _ A12.out).mono ?_); rintro e w35 ⟨rfl, hb⟩; refine ⟨_, rfl, ?_⟩; have n0_ := Aside0.mk (bbe (g := gb123) (o := .cells #[.int .i64 a0_0, .int .i64 a0_1, .int .i64 a0_2, .int .i64 a0_3, .string a0_4] 86 (0, 0)) (by (with_reducible repeat (first | refine bkn ?_ _ | refine bkd ?_ | refine bka ?_ _)); exact BK123.out) hb); have n1_ := Aside0.mk (bbe (g := gb124) (o := .cells #[.int .i64 x125000_1, .int .u64 x125001_1] 88 (0, 0)) (by (with_reducible repeat (first | refine bkn ?_ _ | refine bkd ?_ | refine bka ?_ _)); exact BK124.out) hb); have n2_ := Aside0.mk (bsp (by repeat (first | (with_reducible first | exact HB.out | apply bal | apply pbN | apply bd1 | refine bst ?_ GE123.out | refine bst ?_ GE124.out) | exact HB.out)) hb); clear BK123; clear BK124; clear HB; have BK123 := n0_; have BK124 := n1_; have HB := n2_; clear n0_ n1_ n2_; (try clear hb); (try clear hb2); (try clear hk); (try clear hi); have hcz36_0 : w35.cell? ⟨gb123, 0, none⟩ = some (.int .i64 a0_0) := (bce BK123.out 0).trans rfl; have hcz36_1 : w35.cell? ⟨gb123, 1, none⟩ = some (.int .i64 a0_1) := (bce BK123.out 1).trans rfl; have hcz36_2 : w35.cell? ⟨gb123, 2, none⟩ = some (.int .i64 a0_2) := (bce BK123.out 2).trans rfl; have hcz36_3 : w35.cell? ⟨gb123, 3, none⟩ = some (.int .i64 a0_3) := (bce BK123.out 3).trans rfl; have hcz36_4 : w35.cell? ⟨gb123, 4, none⟩ = some (.string a0_4) := (bce BK123.out 4).trans rfl; have hfz36_0 := bfz BK123.out 0; have hfz36_1 := bfz BK123.out 1; have hfz36_2 := bfz BK123.out 2; have hfz36_3 := bfz BK123.out 3; have hfz36_4 := bfz BK123.out 4) | ((with_reducible refine gate_callee (f := 118) rfl ?_); refine goesL_ (some 30) rfl rfl Tryz.func118 (by kernel_rfl) rfl #[.string a0_4] rfl (by (try simp only [List.map_toArray, List.map_cons, List.map_nil]); first | done | rfl | (simp only [List.length_drop, List.length_take]; rfl)) ?_; (with_reducible refine (cycle_Parse.calls kj1 a0_4 t127 t128 t129 _ A18.out).mono ?_); rintro e w37 ⟨rfl, hb⟩; refine ⟨_, rfl, ?_⟩; have n0_ := Aside0.mk (bbe (g := gb123) (o := .cells #[.int .i64 a0_0, .int .i64 a0_1, .int .i64 a0_2, .int .i64 a0_3, .string a0_4] 86 (0, 0)) (by (with_reducible repeat (first | refine bkn ?_ _ | refine bkd ?_ | refine bka ?_ _)); exact BK123.out) hb); have n1_ := Aside0.mk (bbe (g := gb124) (o := .cells #[.int .i64 x125000_1, .int .u64 x125001_1] 88 (0, 0)) (by (with_reducible repeat (first | refine bkn ?_ _ | refine bkd ?_ | refine bka ?_ _)); exact BK124.out) hb); have n2_ := Aside0.mk (bsp (by repeat (first | (with_reducible first | exact HB.out | apply bal | apply pbN | apply bd1 | refine bst ?_ GE123.out | refine bst ?_ GE124.out) | exact HB.out)) hb); clear BK123; clear BK124; clear HB; have BK123 := n0_; have BK124 := n1_; have HB := n2_; clear n0_ n1_ n2_; (try clear hb); (try clear hb2); (try clear hk); (try clear hi)) | ((with_reducible refine gate_dst (N := 6) rfl ?_); refine box_event ?hg (N := 6) ?hd (cs := #[.int .i64 0, .int .u64 0]) (t := 88) ?hr ?_; (case hd => rfl); (case hg => rfl); (case hr => first | (go_simp; done) | (go_simp; rfl)); intro gb130 hg w38 hbox hb; have n0_ := Aside0.mk (bbe (g := gb123) (o := .cells #[.int .i64 a0_0, .int .i64 a0_1, .int .i64 a0_2, .int .i64 a0_3, .string a0_4] 86 (0, 0)) (by (with_reducible repeat (first | refine bkn ?_ _ | refine bkd ?_ | refine bka ?_ _)); exact BK123.out) hb); have n1_ := Aside0.mk (bbe (g := gb124) (o := .cells #[.int .i64 x125000_1, .int .u64 x125001_1] 88 (0, 0)) (by (with_reducible repeat (first | refine bkn ?_ _ | refine bkd ?_ | refine bka ?_ _)); exact BK124.out) hb); have n2_ := Aside0.mk (bsp (by repeat (first | (with_reducible first | exact HB.out | apply bal | apply pbN | apply bd1 | refine bst ?_ GE123.out | refine bst ?_ GE124.out) | exact HB.out)) hb); have n3_ := Aside0.mk (hbox); have n4_ := Aside0.mk ((by rw [hg]; exact (bsz (by repeat (first | (with_reducible first | exact HB.out | apply bal | apply pbN | apply bd1 | refine bst ?_ GE123.out | refine bst ?_ GE124.out) | exact HB.out))) : w.heap.size ≤ gb130)); have n5_ := Aside0.mk ((by rw [hg]; exact (bsz (by repeat (first | (with_reducible first | exact HB.out | apply bal | apply pbN | apply bd1 | refine bst ?_ GE123.out | refine bst ?_ GE124.out) | exact HB.out))) : w.heap.size ≤ gb130)); have n6_ := Aside0.mk ((by rw [hg]; exact Nat.ne_of_lt (blk_lt (g := gb123) (o := .cells #[.int .i64 a0_0, .int .i64 a0_1, .int .i64 a0_2, .int .i64 a0_3, .string a0_4] 86 (0, 0)) (by (with_reducible repeat (first | refine bkn ?_ _ | refine bkd ?_ | refine bka ?_ _)); exact BK123.out)) : gb123 ≠ gb130)); have n7_ := Aside0.mk ((by rw [hg]; exact Nat.ne_of_gt (blk_lt (g := gb123) (o := .cells #[.int .i64 a0_0, .int .i64 a0_1, .int .i64 a0_2, .int .i64 a0_3, .string a0_4] 86 (0, 0)) (by (with_reducible repeat (first | refine bkn ?_ _ | refine bkd ?_ | refine bka ?_ _)); exact BK123.out)) : gb130 ≠ gb123)); have n8_ := Aside0.mk ((by rw [hg]; exact Nat.ne_of_lt (blk_lt (g := gb124) (o := .cells #[.int .i64 x125000_1, .int .u64 x125001_1] 88 (0, 0)) (by (with_reducible repeat (first | refine bkn ?_ _ | refine bkd ?_ | refine bka ?_ _)); exact BK124.out)) : gb124 ≠ gb130)); have n9_ := Aside0.mk ((by rw [hg]; exact Nat.ne_of_gt (blk_lt (g := gb124) (o := .cells #[.int .i64 x125000_1, .int .u64 x125001_1] 88 (0, 0)) (by (with_reducible repeat (first | refine bkn ?_ _ | refine bkd ?_ | refine bka ?_ _)); exact BK124.out)) : gb130 ≠ gb124)); clear BK123; clear BK124; clear HB; have BK123 := n0_; have BK124 := n1_; have HB := n2_; have BK130 := n3_; have GW130 := n4_; have GE130 := n5_; have NB123_130 := n6_; have NB130_123 := n7_; have NB124_130 := n8_; have NB130_124 := n9_; clear n0_ n1_ n2_ n3_ n4_ n5_ n6_ n7_ n8_ n9_; clear hb hbox hg; have hnb39 := NB130_123.out; have hnc39 := NB123_130.out; have hnb40 := NB130_124.out; have hnc40 := NB124_130.out; have hcz41_0 : w38.cell? ⟨gb130, 0, none⟩ = some (.int .i64 0) := (bce BK130.out 0).trans rfl; have hcz41_1 : w38.cell? ⟨gb130, 1, none⟩ = some (.int .u64 0) := (bce BK130.out 1).trans rfl; have hfz41_0 := bfz BK130.out 0; have hfz41_1 := bfz BK130.out 1; have hcz42_0 : w38.cell? ⟨gb123, 0, none⟩ = some (.int .i64 a0_0) := (bce BK123.out 0).trans rfl; have hcz42_1 : w38.cell? ⟨gb123, 1, none⟩ = some (.int .i64 a0_1) := (bce BK123.out 1).trans rfl; have hcz42_2 : w38.cell? ⟨gb123, 2, none⟩ = some (.int .i64 a0_2) := (bce BK123.out 2).trans rfl; have hcz42_3 : w38.cell? ⟨gb123, 3, none⟩ = some (.int .i64 a0_3) := (bce BK123.out 3).trans rfl; have hcz42_4 : w38.cell? ⟨gb123, 4, none⟩ = some (.string a0_4) := (bce BK123.out 4).trans rfl; have hfz42_0 := bfz BK123.out 0; have hfz42_1 := bfz BK123.out 1; have hfz42_2 := bfz BK123.out 2; have hfz42_3 := bfz BK123.out 3; have hfz42_4 := bfz BK123.out 4; have hcz43_0 : w38.cell? ⟨gb124, 0, none⟩ = some (.int .i64 x125000_1) := (bce BK124.out 0).trans rfl; have hcz43_1 : w38.cell? ⟨gb124, 1, none⟩ = some (.int .u64 x125001_1) := (bce BK124.out 1).trans rfl; have hfz43_0 := bfz BK124.out 0; have hfz43_1 := bfz BK124.out 1))
       refine bodyPost_ret (results_ct rfl _ _ gb124 88 #[.int .i64 t127, .int .u64 t128] (0, 0) _ rfl (by (with_reducible repeat (first | refine bkn ?_ _ | refine bkd ?_ | refine bka ?_ _)); refine blk_put (cs := #[.int .i64 t127, .int .u64 x125001_1]) ?_ 1 _ rfl; (with_reducible repeat (first | refine bkn ?_ _ | refine bkd ?_ | refine bka ?_ _)); refine blk_put (cs := #[.int .i64 x125000_1, .int .u64 x125001_1]) ?_ 0 _ rfl; (with_reducible repeat (first | refine bkn ?_ _ | refine bkd ?_ | refine bka ?_ _)); refine blk_far ?_ NB124_130.out _; (with_reducible repeat (first | refine bkn ?_ _ | refine bkd ?_ | refine bka ?_ _)); refine blk_far ?_ NB124_130.out _; (with_reducible repeat (first | refine bkn ?_ _ | refine bkd ?_ | refine bka ?_ _)); exact BK124.out) Tryz.underlying88 rfl (by kernel_rfl)) rfl ?_
       exact ⟨by first | rfl | (simp [errW_none, errW_some] <;> rfl) | (simp [*, errW_none, errW_some] <;> rfl), by repeat (first | (with_reducible first | exact HB.out | apply bal | apply pbN | apply bd1 | refine bst ?_ GE123.out | refine bst ?_ GE124.out | refine bst ?_ GE130.out) | exact HB.out)⟩
     ·rw [if_neg c20] at H
      have c20b0 : (t129 == 0) = false := beq_eq_false_iff_ne.mpr c20
      have c20b1 : (t129 != 0) = true := bne_iff_ne.mpr c20
      simp only [Option.some.injEq, Prod.mk.injEq] at H
      obtain ⟨rfl, rfl, rfl⟩ := H
      have hnb44 := NB123_124.out
      have hnc44 := NB124_123.out
      have hcz45_0 : wc.cell? ⟨gb123, 0, none⟩ = some (.int .i64 a0_0) := (bce BK123.out 0).trans rfl
      have hcz45_1 : wc.cell? ⟨gb123, 1, none⟩ = some (.int .i64 a0_1) := (bce BK123.out 1).trans rfl
      have hcz45_2 : wc.cell? ⟨gb123, 2, none⟩ = some (.int .i64 a0_2) := (bce BK123.out 2).trans rfl
      have hcz45_3 : wc.cell? ⟨gb123, 3, none⟩ = some (.int .i64 a0_3) := (bce BK123.out 3).trans rfl
      have hcz45_4 : wc.cell? ⟨gb123, 4, none⟩ = some (.string a0_4) := (bce BK123.out 4).trans rfl
      have hfz45_0 := bfz BK123.out 0
      have hfz45_1 := bfz BK123.out 1
      have hfz45_2 := bfz BK123.out 2
      have hfz45_3 := bfz BK123.out 3
      have hfz45_4 := bfz BK123.out 4
      go_wp2_with (first | ((with_reducible refine gate_callee (f := 117) rfl ?_); refine goesL_ (some 18) rfl rfl Tryz.func117 (by kernel_rfl) rfl #[.string a0_4] rfl (by (try simp only [List.map_toArray, List.map_cons, List.map_nil]); first | done | rfl | (simp only [List.length_drop, List.length_take]; rfl)) ?_; (with_reducible refine (span_Parse.calls a0_4 t125 t126 _ A12.out).mono ?_); rintro e w46 ⟨rfl, hb⟩; refine ⟨_, rfl, ?_⟩; have n0_ := Aside0.mk (bbe (g := gb123) (o := .cells #[.int .i64 a0_0, .int .i64 a0_1, .int .i64 a0_2, .int .i64 a0_3, .string a0_4] 86 (0, 0)) (by (with_reducible repeat (first | refine bkn ?_ _ | refine bkd ?_ | refine bka ?_ _)); exact BK123.out) hb); have n1_ := Aside0.mk (bbe (g := gb124) (o := .cells #[.int .i64 x125000_1, .int .u64 x125001_1] 88 (0, 0)) (by (with_reducible repeat (first | refine bkn ?_ _ | refine bkd ?_ | refine bka ?_ _)); exact BK124.out) hb); have n2_ := Aside0.mk (bsp (by repeat (first | (with_reducible first | exact HB.out | apply bal | apply pbN | apply bd1 | refine bst ?_ GE123.out | refine bst ?_ GE124.out) | exact HB.out)) hb); clear BK123; clear BK124; clear HB; have BK123 := n0_; have BK124 := n1_; have HB := n2_; clear n0_ n1_ n2_; (try clear hb); (try clear hb2); (try clear hk); (try clear hi); have hcz47_0 : w46.cell? ⟨gb123, 0, none⟩ = some (.int .i64 a0_0) := (bce BK123.out 0).trans rfl; have hcz47_1 : w46.cell? ⟨gb123, 1, none⟩ = some (.int .i64 a0_1) := (bce BK123.out 1).trans rfl; have hcz47_2 : w46.cell? ⟨gb123, 2, none⟩ = some (.int .i64 a0_2) := (bce BK123.out 2).trans rfl; have hcz47_3 : w46.cell? ⟨gb123, 3, none⟩ = some (.int .i64 a0_3) := (bce BK123.out 3).trans rfl; have hcz47_4 : w46.cell? ⟨gb123, 4, none⟩ = some (.string a0_4) := (bce BK123.out 4).trans rfl; have hfz47_0 := bfz BK123.out 0; have hfz47_1 := bfz BK123.out 1; have hfz47_2 := bfz BK123.out 2; have hfz47_3 := bfz BK123.out 3; have hfz47_4 := bfz BK123.out 4) | ((with_reducible refine gate_callee (f := 118) rfl ?_); refine goesL_ (some 30) rfl rfl Tryz.func118 (by kernel_rfl) rfl #[.string a0_4] rfl (by (try simp only [List.map_toArray, List.map_cons, List.map_nil]); first | done | rfl | (simp only [List.length_drop, List.length_take]; rfl)) ?_; (with_reducible refine (cycle_Parse.calls kj1 a0_4 t127 t128 t129 _ A18.out).mono ?_); rintro e w48 ⟨rfl, hb⟩; refine ⟨_, rfl, ?_⟩; have n0_ := Aside0.mk (bbe (g := gb123) (o := .cells #[.int .i64 a0_0, .int .i64 a0_1, .int .i64 a0_2, .int .i64 a0_3, .string a0_4] 86 (0, 0)) (by (with_reducible repeat (first | refine bkn ?_ _ | refine bkd ?_ | refine bka ?_ _)); exact BK123.out) hb); have n1_ := Aside0.mk (bbe (g := gb124) (o := .cells #[.int .i64 x125000_1, .int .u64 x125001_1] 88 (0, 0)) (by (with_reducible repeat (first | refine bkn ?_ _ | refine bkd ?_ | refine bka ?_ _)); exact BK124.out) hb); have n2_ := Aside0.mk (bsp (by repeat (first | (with_reducible first | exact HB.out | apply bal | apply pbN | apply bd1 | refine bst ?_ GE123.out | refine bst ?_ GE124.out) | exact HB.out)) hb); clear BK123; clear BK124; clear HB; have BK123 := n0_; have BK124 := n1_; have HB := n2_; clear n0_ n1_ n2_; (try clear hb); (try clear hb2); (try clear hk); (try clear hi)) | ((with_reducible refine gate_dst (N := 6) rfl ?_); refine box_event ?hg (N := 6) ?hd (cs := #[.int .i64 0, .int .u64 0]) (t := 88) ?hr ?_; (case hd => rfl); (case hg => rfl); (case hr => first | (go_simp; done) | (go_simp; rfl)); intro gb130 hg w49 hbox hb; have n0_ := Aside0.mk (bbe (g := gb123) (o := .cells #[.int .i64 a0_0, .int .i64 a0_1, .int .i64 a0_2, .int .i64 a0_3, .string a0_4] 86 (0, 0)) (by (with_reducible repeat (first | refine bkn ?_ _ | refine bkd ?_ | refine bka ?_ _)); exact BK123.out) hb); have n1_ := Aside0.mk (bbe (g := gb124) (o := .cells #[.int .i64 x125000_1, .int .u64 x125001_1] 88 (0, 0)) (by (with_reducible repeat (first | refine bkn ?_ _ | refine bkd ?_ | refine bka ?_ _)); exact BK124.out) hb); have n2_ := Aside0.mk (bsp (by repeat (first | (with_reducible first | exact HB.out | apply bal | apply pbN | apply bd1 | refine bst ?_ GE123.out | refine bst ?_ GE124.out) | exact HB.out)) hb); have n3_ := Aside0.mk (hbox); have n4_ := Aside0.mk ((by rw [hg]; exact (bsz (by repeat (first | (with_reducible first | exact HB.out | apply bal | apply pbN | apply bd1 | refine bst ?_ GE123.out | refine bst ?_ GE124.out) | exact HB.out))) : w.heap.size ≤ gb130)); have n5_ := Aside0.mk ((by rw [hg]; exact (bsz (by repeat (first | (with_reducible first | exact HB.out | apply bal | apply pbN | apply bd1 | refine bst ?_ GE123.out | refine bst ?_ GE124.out) | exact HB.out))) : w.heap.size ≤ gb130)); have n6_ := Aside0.mk ((by rw [hg]; exact Nat.ne_of_lt (blk_lt (g := gb123) (o := .cells #[.int .i64 a0_0, .int .i64 a0_1, .int .i64 a0_2, .int .i64 a0_3, .string a0_4] 86 (0, 0)) (by (with_reducible repeat (first | refine bkn ?_ _ | refine bkd ?_ | refine bka ?_ _)); exact BK123.out)) : gb123 ≠ gb130)); have n7_ := Aside0.mk ((by rw [hg]; exact Nat.ne_of_gt (blk_lt (g := gb123) (o := .cells #[.int .i64 a0_0, .int .i64 a0_1, .int .i64 a0_2, .int .i64 a0_3, .string a0_4] 86 (0, 0)) (by (with_reducible repeat (first | refine bkn ?_ _ | refine bkd ?_ | refine bka ?_ _)); exact BK123.out)) : gb130 ≠ gb123)); have n8_ := Aside0.mk ((by rw [hg]; exact Nat.ne_of_lt (blk_lt (g := gb124) (o := .cells #[.int .i64 x125000_1, .int .u64 x125001_1] 88 (0, 0)) (by (with_reducible repeat (first | refine bkn ?_ _ | refine bkd ?_ | refine bka ?_ _)); exact BK124.out)) : gb124 ≠ gb130)); have n9_ := Aside0.mk ((by rw [hg]; exact Nat.ne_of_gt (blk_lt (g := gb124) (o := .cells #[.int .i64 x125000_1, .int .u64 x125001_1] 88 (0, 0)) (by (with_reducible repeat (first | refine bkn ?_ _ | refine bkd ?_ | refine bka ?_ _)); exact BK124.out)) : gb130 ≠ gb124)); clear BK123; clear BK124; clear HB; have BK123 := n0_; have BK124 := n1_; have HB := n2_; have BK130 := n3_; have GW130 := n4_; have GE130 := n5_; have NB123_130 := n6_; have NB130_123 := n7_; have NB124_130 := n8_; have NB130_124 := n9_; clear n0_ n1_ n2_ n3_ n4_ n5_ n6_ n7_ n8_ n9_; clear hb hbox hg; have hnb50 := NB130_123.out; have hnc50 := NB123_130.out; have hnb51 := NB130_124.out; have hnc51 := NB124_130.out; have hcz52_0 : w49.cell? ⟨gb130, 0, none⟩ = some (.int .i64 0) := (bce BK130.out 0).trans rfl; have hcz52_1 : w49.cell? ⟨gb130, 1, none⟩ = some (.int .u64 0) := (bce BK130.out 1).trans rfl; have hfz52_0 := bfz BK130.out 0; have hfz52_1 := bfz BK130.out 1; have hcz53_0 : w49.cell? ⟨gb123, 0, none⟩ = some (.int .i64 a0_0) := (bce BK123.out 0).trans rfl; have hcz53_1 : w49.cell? ⟨gb123, 1, none⟩ = some (.int .i64 a0_1) := (bce BK123.out 1).trans rfl; have hcz53_2 : w49.cell? ⟨gb123, 2, none⟩ = some (.int .i64 a0_2) := (bce BK123.out 2).trans rfl; have hcz53_3 : w49.cell? ⟨gb123, 3, none⟩ = some (.int .i64 a0_3) := (bce BK123.out 3).trans rfl; have hcz53_4 : w49.cell? ⟨gb123, 4, none⟩ = some (.string a0_4) := (bce BK123.out 4).trans rfl; have hfz53_0 := bfz BK123.out 0; have hfz53_1 := bfz BK123.out 1; have hfz53_2 := bfz BK123.out 2; have hfz53_3 := bfz BK123.out 3; have hfz53_4 := bfz BK123.out 4; have hcz54_0 : w49.cell? ⟨gb124, 0, none⟩ = some (.int .i64 x125000_1) := (bce BK124.out 0).trans rfl; have hcz54_1 : w49.cell? ⟨gb124, 1, none⟩ = some (.int .u64 x125001_1) := (bce BK124.out 1).trans rfl; have hfz54_0 := bfz BK124.out 0; have hfz54_1 := bfz BK124.out 1))
      refine bodyPost_ret (results_ct rfl _ _ gb124 88 #[.int .i64 0, .int .u64 0] (0, 0) _ rfl (by (with_reducible repeat (first | refine bkn ?_ _ | refine bkd ?_ | refine bka ?_ _)); refine blk_put (cs := #[.int .i64 0, .int .u64 x125001_1]) ?_ 1 _ rfl; (with_reducible repeat (first | refine bkn ?_ _ | refine bkd ?_ | refine bka ?_ _)); refine blk_put (cs := #[.int .i64 x125000_1, .int .u64 x125001_1]) ?_ 0 _ rfl; (with_reducible repeat (first | refine bkn ?_ _ | refine bkd ?_ | refine bka ?_ _)); refine blk_far ?_ NB124_130.out _; (with_reducible repeat (first | refine bkn ?_ _ | refine bkd ?_ | refine bka ?_ _)); refine blk_far ?_ NB124_130.out _; (with_reducible repeat (first | refine bkn ?_ _ | refine bkd ?_ | refine bka ?_ _)); exact BK124.out) Tryz.underlying88 rfl (by kernel_rfl)) rfl ?_
      exact ⟨by first | rfl | (simp [errW_none, errW_some] <;> rfl) | (simp [*, errW_none, errW_some] <;> rfl), by repeat (first | (with_reducible first | exact HB.out | apply bal | apply pbN | apply bd1 | refine bst ?_ GE123.out | refine bst ?_ GE124.out | refine bst ?_ GE130.out) | exact HB.out)⟩
    ·rw [if_neg c19] at H
     have c19b0 : (a0_0 == 9) = false := beq_eq_false_iff_ne.mpr c19
     have c19b1 : (a0_0 != 9) = true := bne_iff_ne.mpr c19
     simp only [Option.some.injEq, Prod.mk.injEq] at H
     obtain ⟨rfl, rfl, rfl⟩ := H
     have hnb55 := NB123_124.out
     have hnc55 := NB124_123.out
     have hcz56_0 : wc.cell? ⟨gb123, 0, none⟩ = some (.int .i64 a0_0) := (bce BK123.out 0).trans rfl
     have hcz56_1 : wc.cell? ⟨gb123, 1, none⟩ = some (.int .i64 a0_1) := (bce BK123.out 1).trans rfl
     have hcz56_2 : wc.cell? ⟨gb123, 2, none⟩ = some (.int .i64 a0_2) := (bce BK123.out 2).trans rfl
     have hcz56_3 : wc.cell? ⟨gb123, 3, none⟩ = some (.int .i64 a0_3) := (bce BK123.out 3).trans rfl
     have hcz56_4 : wc.cell? ⟨gb123, 4, none⟩ = some (.string a0_4) := (bce BK123.out 4).trans rfl
     have hfz56_0 := bfz BK123.out 0
     have hfz56_1 := bfz BK123.out 1
     have hfz56_2 := bfz BK123.out 2
     have hfz56_3 := bfz BK123.out 3
     have hfz56_4 := bfz BK123.out 4
     go_wp2_with (first | ((with_reducible refine gate_callee (f := 117) rfl ?_); refine goesL_ (some 18) rfl rfl Tryz.func117 (by kernel_rfl) rfl #[.string a0_4] rfl (by (try simp only [List.map_toArray, List.map_cons, List.map_nil]); first | done | rfl | (simp only [List.length_drop, List.length_take]; rfl)) ?_; (with_reducible refine (span_Parse.calls a0_4 t125 t126 _ A12.out).mono ?_); rintro e w57 ⟨rfl, hb⟩; refine ⟨_, rfl, ?_⟩; have n0_ := Aside0.mk (bbe (g := gb123) (o := .cells #[.int .i64 a0_0, .int .i64 a0_1, .int .i64 a0_2, .int .i64 a0_3, .string a0_4] 86 (0, 0)) (by (with_reducible repeat (first | refine bkn ?_ _ | refine bkd ?_ | refine bka ?_ _)); exact BK123.out) hb); have n1_ := Aside0.mk (bbe (g := gb124) (o := .cells #[.int .i64 x125000_1, .int .u64 x125001_1] 88 (0, 0)) (by (with_reducible repeat (first | refine bkn ?_ _ | refine bkd ?_ | refine bka ?_ _)); exact BK124.out) hb); have n2_ := Aside0.mk (bsp (by repeat (first | (with_reducible first | exact HB.out | apply bal | apply pbN | apply bd1 | refine bst ?_ GE123.out | refine bst ?_ GE124.out) | exact HB.out)) hb); clear BK123; clear BK124; clear HB; have BK123 := n0_; have BK124 := n1_; have HB := n2_; clear n0_ n1_ n2_; (try clear hb); (try clear hb2); (try clear hk); (try clear hi); have hcz58_0 : w57.cell? ⟨gb123, 0, none⟩ = some (.int .i64 a0_0) := (bce BK123.out 0).trans rfl; have hcz58_1 : w57.cell? ⟨gb123, 1, none⟩ = some (.int .i64 a0_1) := (bce BK123.out 1).trans rfl; have hcz58_2 : w57.cell? ⟨gb123, 2, none⟩ = some (.int .i64 a0_2) := (bce BK123.out 2).trans rfl; have hcz58_3 : w57.cell? ⟨gb123, 3, none⟩ = some (.int .i64 a0_3) := (bce BK123.out 3).trans rfl; have hcz58_4 : w57.cell? ⟨gb123, 4, none⟩ = some (.string a0_4) := (bce BK123.out 4).trans rfl; have hfz58_0 := bfz BK123.out 0; have hfz58_1 := bfz BK123.out 1; have hfz58_2 := bfz BK123.out 2; have hfz58_3 := bfz BK123.out 3; have hfz58_4 := bfz BK123.out 4) | ((with_reducible refine gate_callee (f := 118) rfl ?_); refine goesL_ (some 30) rfl rfl Tryz.func118 (by kernel_rfl) rfl #[.string a0_4] rfl (by (try simp only [List.map_toArray, List.map_cons, List.map_nil]); first | done | rfl | (simp only [List.length_drop, List.length_take]; rfl)) ?_; (with_reducible refine (cycle_Parse.calls kj1 a0_4 t127 t128 t129 _ A18.out).mono ?_); rintro e w59 ⟨rfl, hb⟩; refine ⟨_, rfl, ?_⟩; have n0_ := Aside0.mk (bbe (g := gb123) (o := .cells #[.int .i64 a0_0, .int .i64 a0_1, .int .i64 a0_2, .int .i64 a0_3, .string a0_4] 86 (0, 0)) (by (with_reducible repeat (first | refine bkn ?_ _ | refine bkd ?_ | refine bka ?_ _)); exact BK123.out) hb); have n1_ := Aside0.mk (bbe (g := gb124) (o := .cells #[.int .i64 x125000_1, .int .u64 x125001_1] 88 (0, 0)) (by (with_reducible repeat (first | refine bkn ?_ _ | refine bkd ?_ | refine bka ?_ _)); exact BK124.out) hb); have n2_ := Aside0.mk (bsp (by repeat (first | (with_reducible first | exact HB.out | apply bal | apply pbN | apply bd1 | refine bst ?_ GE123.out | refine bst ?_ GE124.out) | exact HB.out)) hb); clear BK123; clear BK124; clear HB; have BK123 := n0_; have BK124 := n1_; have HB := n2_; clear n0_ n1_ n2_; (try clear hb); (try clear hb2); (try clear hk); (try clear hi)) | ((with_reducible refine gate_dst (N := 6) rfl ?_); refine box_event ?hg (N := 6) ?hd (cs := #[.int .i64 0, .int .u64 0]) (t := 88) ?hr ?_; (case hd => rfl); (case hg => rfl); (case hr => first | (go_simp; done) | (go_simp; rfl)); intro gb130 hg w60 hbox hb; have n0_ := Aside0.mk (bbe (g := gb123) (o := .cells #[.int .i64 a0_0, .int .i64 a0_1, .int .i64 a0_2, .int .i64 a0_3, .string a0_4] 86 (0, 0)) (by (with_reducible repeat (first | refine bkn ?_ _ | refine bkd ?_ | refine bka ?_ _)); exact BK123.out) hb); have n1_ := Aside0.mk (bbe (g := gb124) (o := .cells #[.int .i64 x125000_1, .int .u64 x125001_1] 88 (0, 0)) (by (with_reducible repeat (first | refine bkn ?_ _ | refine bkd ?_ | refine bka ?_ _)); exact BK124.out) hb); have n2_ := Aside0.mk (bsp (by repeat (first | (with_reducible first | exact HB.out | apply bal | apply pbN | apply bd1 | refine bst ?_ GE123.out | refine bst ?_ GE124.out) | exact HB.out)) hb); have n3_ := Aside0.mk (hbox); have n4_ := Aside0.mk ((by rw [hg]; exact (bsz (by repeat (first | (with_reducible first | exact HB.out | apply bal | apply pbN | apply bd1 | refine bst ?_ GE123.out | refine bst ?_ GE124.out) | exact HB.out))) : w.heap.size ≤ gb130)); have n5_ := Aside0.mk ((by rw [hg]; exact (bsz (by repeat (first | (with_reducible first | exact HB.out | apply bal | apply pbN | apply bd1 | refine bst ?_ GE123.out | refine bst ?_ GE124.out) | exact HB.out))) : w.heap.size ≤ gb130)); have n6_ := Aside0.mk ((by rw [hg]; exact Nat.ne_of_lt (blk_lt (g := gb123) (o := .cells #[.int .i64 a0_0, .int .i64 a0_1, .int .i64 a0_2, .int .i64 a0_3, .string a0_4] 86 (0, 0)) (by (with_reducible repeat (first | refine bkn ?_ _ | refine bkd ?_ | refine bka ?_ _)); exact BK123.out)) : gb123 ≠ gb130)); have n7_ := Aside0.mk ((by rw [hg]; exact Nat.ne_of_gt (blk_lt (g := gb123) (o := .cells #[.int .i64 a0_0, .int .i64 a0_1, .int .i64 a0_2, .int .i64 a0_3, .string a0_4] 86 (0, 0)) (by (with_reducible repeat (first | refine bkn ?_ _ | refine bkd ?_ | refine bka ?_ _)); exact BK123.out)) : gb130 ≠ gb123)); have n8_ := Aside0.mk ((by rw [hg]; exact Nat.ne_of_lt (blk_lt (g := gb124) (o := .cells #[.int .i64 x125000_1, .int .u64 x125001_1] 88 (0, 0)) (by (with_reducible repeat (first | refine bkn ?_ _ | refine bkd ?_ | refine bka ?_ _)); exact BK124.out)) : gb124 ≠ gb130)); have n9_ := Aside0.mk ((by rw [hg]; exact Nat.ne_of_gt (blk_lt (g := gb124) (o := .cells #[.int .i64 x125000_1, .int .u64 x125001_1] 88 (0, 0)) (by (with_reducible repeat (first | refine bkn ?_ _ | refine bkd ?_ | refine bka ?_ _)); exact BK124.out)) : gb130 ≠ gb124)); clear BK123; clear BK124; clear HB; have BK123 := n0_; have BK124 := n1_; have HB := n2_; have BK130 := n3_; have GW130 := n4_; have GE130 := n5_; have NB123_130 := n6_; have NB130_123 := n7_; have NB124_130 := n8_; have NB130_124 := n9_; clear n0_ n1_ n2_ n3_ n4_ n5_ n6_ n7_ n8_ n9_; clear hb hbox hg; have hnb61 := NB130_123.out; have hnc61 := NB123_130.out; have hnb62 := NB130_124.out; have hnc62 := NB124_130.out; have hcz63_0 : w60.cell? ⟨gb130, 0, none⟩ = some (.int .i64 0) := (bce BK130.out 0).trans rfl; have hcz63_1 : w60.cell? ⟨gb130, 1, none⟩ = some (.int .u64 0) := (bce BK130.out 1).trans rfl; have hfz63_0 := bfz BK130.out 0; have hfz63_1 := bfz BK130.out 1; have hcz64_0 : w60.cell? ⟨gb123, 0, none⟩ = some (.int .i64 a0_0) := (bce BK123.out 0).trans rfl; have hcz64_1 : w60.cell? ⟨gb123, 1, none⟩ = some (.int .i64 a0_1) := (bce BK123.out 1).trans rfl; have hcz64_2 : w60.cell? ⟨gb123, 2, none⟩ = some (.int .i64 a0_2) := (bce BK123.out 2).trans rfl; have hcz64_3 : w60.cell? ⟨gb123, 3, none⟩ = some (.int .i64 a0_3) := (bce BK123.out 3).trans rfl; have hcz64_4 : w60.cell? ⟨gb123, 4, none⟩ = some (.string a0_4) := (bce BK123.out 4).trans rfl; have hfz64_0 := bfz BK123.out 0; have hfz64_1 := bfz BK123.out 1; have hfz64_2 := bfz BK123.out 2; have hfz64_3 := bfz BK123.out 3; have hfz64_4 := bfz BK123.out 4; have hcz65_0 : w60.cell? ⟨gb124, 0, none⟩ = some (.int .i64 x125000_1) := (bce BK124.out 0).trans rfl; have hcz65_1 : w60.cell? ⟨gb124, 1, none⟩ = some (.int .u64 x125001_1) := (bce BK124.out 1).trans rfl; have hfz65_0 := bfz BK124.out 0; have hfz65_1 := bfz BK124.out 1))
     refine bodyPost_ret (results_ct rfl _ _ gb124 88 #[.int .i64 0, .int .u64 0] (0, 0) _ rfl (by (with_reducible repeat (first | refine bkn ?_ _ | refine bkd ?_ | refine bka ?_ _)); refine blk_put (cs := #[.int .i64 0, .int .u64 x125001_1]) ?_ 1 _ rfl; (with_reducible repeat (first | refine bkn ?_ _ | refine bkd ?_ | refine bka ?_ _)); refine blk_put (cs := #[.int .i64 x125000_1, .int .u64 x125001_1]) ?_ 0 _ rfl; (with_reducible repeat (first | refine bkn ?_ _ | refine bkd ?_ | refine bka ?_ _)); refine blk_far ?_ NB124_130.out _; (with_reducible repeat (first | refine bkn ?_ _ | refine bkd ?_ | refine bka ?_ _)); refine blk_far ?_ NB124_130.out _; (with_reducible repeat (first | refine bkn ?_ _ | refine bkd ?_ | refine bka ?_ _)); exact BK124.out) Tryz.underlying88 rfl (by kernel_rfl)) rfl ?_
     exact ⟨by first | rfl | (simp [errW_none, errW_some] <;> rfl) | (simp [*, errW_none, errW_some] <;> rfl), by repeat (first | (with_reducible first | exact HB.out | apply bal | apply pbN | apply bd1 | refine bst ?_ GE123.out | refine bst ?_ GE124.out | refine bst ?_ GE130.out) | exact HB.out)⟩

/-! ### graph_Time: function 39 -/
def graph_Time.f (k : Nat) (a0_0 : ByteArray) (l0_1 : List (S86)) (l0_2 : List (S51)) (a1 : Int) : Option (Int × Int × Bool) := (graph_at.f a0_0 l0_1 l0_2 a1).bind fun bt133 => ((graph_waits.f k bt133.1 bt133.2.1 bt133.2.2.1 bt133.2.2.2.1 bt133.2.2.2.2.1).bind fun bt140 => (if bt140.2.2 = true then (some (bt140.1, bt140.2.1, true)) else (some (0, 0, false))))
theorem graph_Time.mono : ∀ a0 a1 a2 a3 k, LeO (graph_Time.f k a0 a1 a2 a3) (graph_Time.f (k + 1) a0 a1 a2 a3) := by
  intro a0 a1 a2 a3 k
  unfold graph_Time.f
  repeat' first
      | (with_reducible exact graph_waits.mono _ _ _ _ _ _)
      | (with_reducible exact LeO.refl _)
      | (with_reducible exact LeO.none _)
      | (with_reducible refine LeO.ite ?_ ?_)
      | (with_reducible refine LeO.bind ?_ (fun _ => ?_))
      | exact graph_waits.mono _ _ _ _ _ _
      | exact LeO.none _
      | refine LeO.ite ?_ ?_
      | refine LeO.bind ?_ (fun _ => ?_)
set_option maxHeartbeats 8000000 in
set_option maxRecDepth 100000 in
theorem graph_Time.calls (k : Nat) (a0_0 : ByteArray) (A0_1 : Option Addr) (c0_1 : Nat) (l0_1 : List (S86)) (A0_2 : Option Addr) (c0_2 : Nat) (l0_2 : List (S51)) (a1 : Int) (r1 : Int) (r2 : Int) (r3 : Bool) (w : World) (hr0_1 : Kd.C k86 w A0_1 l0_1.length l0_1) (hc0_1 : l0_1.length ≤ c0_1) (hr0_2 : Kd.C k51 w A0_2 l0_2.length l0_2) (hc0_2 : l0_2.length ≤ c0_2) (h : graph_Time.f k a0_0 l0_1 l0_2 a1 = some (r1, r2, r3)) :
  Calls Tryz.prog 39 #[.agg #[.string a0_0, .slice A0_1 l0_1.length c0_1, .slice A0_2 l0_2.length c0_2], .int .i64 a1] w fun e w' => e = .returned (.tuple #[.agg #[.int .i64 r1, .int .u64 r2], .bool r3]) ∧ Below w.heap.size w w' := by
 have hu25 := Tryz.underlying25
 have hu88 := Tryz.underlying88
 have hu86 := Tryz.underlying86
 have HR0_1 := Aside0.mk hr0_1
 have HC0_1 := Aside0.mk hc0_1
 clear hr0_1 hc0_1
 have HR0_2 := Aside0.mk hr0_2
 have HC0_2 := Aside0.mk hc0_2
 clear hr0_2 hc0_2
 have HB := Aside0.mk (Below.refl w.heap.size w)
 have H : ((graph_at.f a0_0 l0_1 l0_2 a1).bind fun bt133 => ((graph_waits.f k bt133.1 bt133.2.1 bt133.2.2.1 bt133.2.2.2.1 bt133.2.2.2.2.1).bind fun bt140 => (if bt140.2.2 = true then (some (bt140.1, bt140.2.1, true)) else (some (0, 0, false))))) = some (r1, r2, r3) := h
 clear h
 replace H := Option.bind_eq_some_iff.mp H
 obtain ⟨⟨t133, t134, t135, t136, t137, t138⟩, A30, H⟩ := H
 replace H : ((graph_waits.f k t133 t134 t135 t136 t137).bind fun bt140 => (if bt140.2.2 = true then (some (bt140.1, bt140.2.1, true)) else (some (0, 0, false)))) = some (r1, r2, r3) := H
 have A3 := Aside0.mk A30
 clear A30
 replace H := Option.bind_eq_some_iff.mp H
 obtain ⟨⟨t140, t141, t142⟩, A40, H⟩ := H
 replace H : (if t142 = true then (some (t140, t141, true)) else (some (0, 0, false))) = some (r1, r2, r3) := H
 have A4 := Aside0.mk A40
 clear A40
 by_cases c5 : t142 = true
 ·subst c5
  have H1 : (some (t140, t141, true)) = some (r1, r2, r3) := by rw [if_pos rfl] at H; exact H
  clear H
  have H := H1
  clear H1
  simp only [Option.some.injEq, Prod.mk.injEq] at H
  obtain ⟨rfl, rfl, rfl⟩ := H
  go_enter Tryz.func39, Tryz.ntmps39
  go_wp2_with (first | ((with_reducible refine gate_dst (N := 2) rfl ?_); refine box_event ?hg (N := 2) ?hd (cs := #[.string a0_0, .slice A0_1 l0_1.length c0_1, .slice A0_2 l0_2.length c0_2]) (t := 25) ?hr ?_; (case hd => rfl); (case hg => rfl); (case hr => first | (go_simp; done) | (go_simp; rfl)); intro gb131 hg w6 hbox hb; have n0_ := Aside0.mk (bsp (by repeat (first | (with_reducible first | exact HB.out | apply bal | apply pbN | apply bd1) | exact HB.out)) hb); have n1_ := Aside0.mk (hbox); have n2_ := Aside0.mk ((by rw [hg]; exact (bsz (by repeat (first | (with_reducible first | exact HB.out | apply bal | apply pbN | apply bd1) | exact HB.out))) : w.heap.size ≤ gb131)); have n3_ := Aside0.mk ((by rw [hg]; exact (bsz (by repeat (first | (with_reducible first | exact HB.out | apply bal | apply pbN | apply bd1) | exact HB.out))) : w.heap.size ≤ gb131)); clear HB; have HB := n0_; have BK131 := n1_; have GW131 := n2_; have GE131 := n3_; clear n0_ n1_ n2_ n3_; clear hb hbox hg) | ((with_reducible refine gate_dst (N := 4) rfl ?_); refine box_event ?hg (N := 4) ?hd (cs := #[.int .i64 0, .int .u64 0]) (t := 88) ?hr ?_; (case hd => rfl); (case hg => rfl); (case hr => first | (go_simp; done) | (go_simp; rfl)); intro gb132 hg w7 hbox hb; have n0_ := Aside0.mk (bbe (g := gb131) (o := .cells #[.string a0_0, .slice A0_1 l0_1.length c0_1, .slice A0_2 l0_2.length c0_2] 25 (0, 0)) (by (with_reducible repeat (first | refine bkn ?_ _ | refine bkd ?_ | refine bka ?_ _)); exact BK131.out) hb); have n1_ := Aside0.mk (bsp (by repeat (first | (with_reducible first | exact HB.out | apply bal | apply pbN | apply bd1 | refine bst ?_ GE131.out) | exact HB.out)) hb); have n2_ := Aside0.mk (hbox); have n3_ := Aside0.mk ((by rw [hg]; exact (bsz (by repeat (first | (with_reducible first | exact HB.out | apply bal | apply pbN | apply bd1 | refine bst ?_ GE131.out) | exact HB.out))) : w.heap.size ≤ gb132)); have n4_ := Aside0.mk ((by rw [hg]; exact (bsz (by repeat (first | (with_reducible first | exact HB.out | apply bal | apply pbN | apply bd1 | refine bst ?_ GE131.out) | exact HB.out))) : w.heap.size ≤ gb132)); have n5_ := Aside0.mk ((by rw [hg]; exact Nat.ne_of_lt (blk_lt (g := gb131) (o := .cells #[.string a0_0, .slice A0_1 l0_1.length c0_1, .slice A0_2 l0_2.length c0_2] 25 (0, 0)) (by (with_reducible repeat (first | refine bkn ?_ _ | refine bkd ?_ | refine bka ?_ _)); exact BK131.out)) : gb131 ≠ gb132)); have n6_ := Aside0.mk ((by rw [hg]; exact Nat.ne_of_gt (blk_lt (g := gb131) (o := .cells #[.string a0_0, .slice A0_1 l0_1.length c0_1, .slice A0_2 l0_2.length c0_2] 25 (0, 0)) (by (with_reducible repeat (first | refine bkn ?_ _ | refine bkd ?_ | refine bka ?_ _)); exact BK131.out)) : gb132 ≠ gb131)); clear BK131; clear HB; have BK131 := n0_; have HB := n1_; have BK132 := n2_; have GW132 := n3_; have GE132 := n4_; have NB131_132 := n5_; have NB132_131 := n6_; clear n0_ n1_ n2_ n3_ n4_ n5_ n6_; clear hb hbox hg; have hnb8 := NB131_132.out; have hnc8 := NB132_131.out; have hcz9_0 : w7.cell? ⟨gb131, 0, none⟩ = some (.string a0_0) := (bce BK131.out 0).trans rfl; have hcz9_1 : w7.cell? ⟨gb131, 1, none⟩ = some (.slice A0_1 l0_1.length c0_1) := (bce BK131.out 1).trans rfl; have hcz9_2 : w7.cell? ⟨gb131, 2, none⟩ = some (.slice A0_2 l0_2.length c0_2) := (bce BK131.out 2).trans rfl; have hfz9_0 := bfz BK131.out 0; have hfz9_1 := bfz BK131.out 1; have hfz9_2 := bfz BK131.out 2) | ((with_reducible refine gate_callee (f := 67) rfl ?_); refine goesL_ (some 13) rfl rfl Tryz.func67 (by kernel_rfl) rfl #[.agg #[.string a0_0, .slice A0_1 l0_1.length c0_1, .slice A0_2 l0_2.length c0_2], .int .i64 a1] rfl (by (try simp only [List.map_toArray, List.map_cons, List.map_nil]); first | done | rfl | (simp only [List.length_drop, List.length_take]; rfl)) ?_; (with_reducible refine (graph_at.calls a0_0 _ _ l0_1 _ _ l0_2 a1 t133 t134 t135 t136 t137 t138 _ ?side1 ?side2 ?side3 ?side4 A3.out).mono ?_); (case side1 => repeat (first | exact (Kd.C_below HR0_1.out HB.out) | (with_reducible refine Kd.C_alloc ?_ _) | (with_reducible refine Kd.C_drewN ?_ _) | (with_reducible refine Kd.C_drew ?_))); (case side2 => exact HC0_1.out); (case side3 => repeat (first | exact (Kd.C_below HR0_2.out HB.out) | (with_reducible refine Kd.C_alloc ?_ _) | (with_reducible refine Kd.C_drewN ?_ _) | (with_reducible refine Kd.C_drew ?_))); (case side4 => exact HC0_2.out); rintro e w10 ⟨rfl, hb⟩; refine ⟨_, rfl, ?_⟩; have n0_ := Aside0.mk (bbe (g := gb131) (o := .cells #[.string a0_0, .slice A0_1 l0_1.length c0_1, .slice A0_2 l0_2.length c0_2] 25 (0, 0)) (by (with_reducible repeat (first | refine bkn ?_ _ | refine bkd ?_ | refine bka ?_ _)); exact BK131.out) hb); have n1_ := Aside0.mk (bbe (g := gb132) (o := .cells #[.int .i64 0, .int .u64 0] 88 (0, 0)) (by (with_reducible repeat (first | refine bkn ?_ _ | refine bkd ?_ | refine bka ?_ _)); exact BK132.out) hb); have n2_ := Aside0.mk (bsp (by repeat (first | (with_reducible first | exact HB.out | apply bal | apply pbN | apply bd1 | refine bst ?_ GE131.out | refine bst ?_ GE132.out) | exact HB.out)) hb); clear BK131; clear BK132; clear HB; have BK131 := n0_; have BK132 := n1_; have HB := n2_; clear n0_ n1_ n2_; (try clear hb); (try clear hb2); (try clear hk); (try clear hi)) | ((with_reducible refine gate_dst (N := 6) rfl ?_); refine box_event ?hg (N := 6) ?hd (cs := #[.int .i64 0, .int .i64 0, .int .i64 0, .int .i64 0, .string (⟨#[]⟩ : ByteArray)]) (t := 86) ?hr ?_; (case hd => rfl); (case hg => rfl); (case hr => first | (go_simp; done) | (go_simp; rfl)); intro gb139 hg w11 hbox hb; have n0_ := Aside0.mk (bbe (g := gb131) (o := .cells #[.string a0_0, .slice A0_1 l0_1.length c0_1, .slice A0_2 l0_2.length c0_2] 25 (0, 0)) (by (with_reducible repeat (first | refine bkn ?_ _ | refine bkd ?_ | refine bka ?_ _)); exact BK131.out) hb); have n1_ := Aside0.mk (bbe (g := gb132) (o := .cells #[.int .i64 0, .int .u64 0] 88 (0, 0)) (by (with_reducible repeat (first | refine bkn ?_ _ | refine bkd ?_ | refine bka ?_ _)); exact BK132.out) hb); have n2_ := Aside0.mk (bsp (by repeat (first | (with_reducible first | exact HB.out | apply bal | apply pbN | apply bd1 | refine bst ?_ GE131.out | refine bst ?_ GE132.out) | exact HB.out)) hb); have n3_ := Aside0.mk (hbox); have n4_ := Aside0.mk ((by rw [hg]; exact (bsz (by repeat (first | (with_reducible first | exact HB.out | apply bal | apply pbN | apply bd1 | refine bst ?_ GE131.out | refine bst ?_ GE132.out) | exact HB.out))) : w.heap.size ≤ gb139)); have n5_ := Aside0.mk ((by rw [hg]; exact (bsz (by repeat (first | (with_reducible first | exact HB.out | apply bal | apply pbN | apply bd1 | refine bst ?_ GE131.out | refine bst ?_ GE132.out) | exact HB.out))) : w.heap.size ≤ gb139)); have n6_ := Aside0.mk ((by rw [hg]; exact Nat.ne_of_lt (blk_lt (g := gb131) (o := .cells #[.string a0_0, .slice A0_1 l0_1.length c0_1, .slice A0_2 l0_2.length c0_2] 25 (0, 0)) (by (with_reducible repeat (first | refine bkn ?_ _ | refine bkd ?_ | refine bka ?_ _)); exact BK131.out)) : gb131 ≠ gb139)); have n7_ := Aside0.mk ((by rw [hg]; exact Nat.ne_of_gt (blk_lt (g := gb131) (o := .cells #[.string a0_0, .slice A0_1 l0_1.length c0_1, .slice A0_2 l0_2.length c0_2] 25 (0, 0)) (by (with_reducible repeat (first | refine bkn ?_ _ | refine bkd ?_ | refine bka ?_ _)); exact BK131.out)) : gb139 ≠ gb131)); have n8_ := Aside0.mk ((by rw [hg]; exact Nat.ne_of_lt (blk_lt (g := gb132) (o := .cells #[.int .i64 0, .int .u64 0] 88 (0, 0)) (by (with_reducible repeat (first | refine bkn ?_ _ | refine bkd ?_ | refine bka ?_ _)); exact BK132.out)) : gb132 ≠ gb139)); have n9_ := Aside0.mk ((by rw [hg]; exact Nat.ne_of_gt (blk_lt (g := gb132) (o := .cells #[.int .i64 0, .int .u64 0] 88 (0, 0)) (by (with_reducible repeat (first | refine bkn ?_ _ | refine bkd ?_ | refine bka ?_ _)); exact BK132.out)) : gb139 ≠ gb132)); clear BK131; clear BK132; clear HB; have BK131 := n0_; have BK132 := n1_; have HB := n2_; have BK139 := n3_; have GW139 := n4_; have GE139 := n5_; have NB131_139 := n6_; have NB139_131 := n7_; have NB132_139 := n8_; have NB139_132 := n9_; clear n0_ n1_ n2_ n3_ n4_ n5_ n6_ n7_ n8_ n9_; clear hb hbox hg; have hnb12 := NB139_131.out; have hnc12 := NB131_139.out; have hnb13 := NB139_132.out; have hnc13 := NB132_139.out; have hcz14_0 : w11.cell? ⟨gb139, 0, none⟩ = some (.int .i64 0) := (bce BK139.out 0).trans rfl; have hcz14_1 : w11.cell? ⟨gb139, 1, none⟩ = some (.int .i64 0) := (bce BK139.out 1).trans rfl; have hcz14_2 : w11.cell? ⟨gb139, 2, none⟩ = some (.int .i64 0) := (bce BK139.out 2).trans rfl; have hcz14_3 : w11.cell? ⟨gb139, 3, none⟩ = some (.int .i64 0) := (bce BK139.out 3).trans rfl; have hcz14_4 : w11.cell? ⟨gb139, 4, none⟩ = some (.string (⟨#[]⟩ : ByteArray)) := (bce BK139.out 4).trans rfl; have hfz14_0 := bfz BK139.out 0; have hfz14_1 := bfz BK139.out 1; have hfz14_2 := bfz BK139.out 2; have hfz14_3 := bfz BK139.out 3; have hfz14_4 := bfz BK139.out 4) | ((with_reducible refine gate_callee (f := 68) rfl ?_); refine goesL_ (some 18) rfl rfl Tryz.func68 (by kernel_rfl) rfl #[.agg #[.int .i64 t133, .int .i64 t134, .int .i64 t135, .int .i64 t136, .string t137]] rfl (by (try simp only [List.map_toArray, List.map_cons, List.map_nil]); first | done | rfl | (simp only [List.length_drop, List.length_take]; rfl)) ?_; (with_reducible refine (graph_waits.calls k t133 t134 t135 t136 t137 t140 t141 true _ A4.out).mono ?_); rintro e w15 ⟨rfl, hb⟩; refine ⟨_, rfl, ?_⟩; have n0_ := Aside0.mk (bbe (g := gb131) (o := .cells #[.string a0_0, .slice A0_1 l0_1.length c0_1, .slice A0_2 l0_2.length c0_2] 25 (0, 0)) (by (with_reducible repeat (first | refine bkn ?_ _ | refine bkd ?_ | refine bka ?_ _)); refine blk_far ?_ NB131_139.out _; (with_reducible repeat (first | refine bkn ?_ _ | refine bkd ?_ | refine bka ?_ _)); refine blk_far ?_ NB131_139.out _; (with_reducible repeat (first | refine bkn ?_ _ | refine bkd ?_ | refine bka ?_ _)); refine blk_far ?_ NB131_139.out _; (with_reducible repeat (first | refine bkn ?_ _ | refine bkd ?_ | refine bka ?_ _)); refine blk_far ?_ NB131_139.out _; (with_reducible repeat (first | refine bkn ?_ _ | refine bkd ?_ | refine bka ?_ _)); refine blk_far ?_ NB131_139.out _; (with_reducible repeat (first | refine bkn ?_ _ | refine bkd ?_ | refine bka ?_ _)); exact BK131.out) hb); have n1_ := Aside0.mk (bbe (g := gb132) (o := .cells #[.int .i64 0, .int .u64 0] 88 (0, 0)) (by (with_reducible repeat (first | refine bkn ?_ _ | refine bkd ?_ | refine bka ?_ _)); refine blk_far ?_ NB132_139.out _; (with_reducible repeat (first | refine bkn ?_ _ | refine bkd ?_ | refine bka ?_ _)); refine blk_far ?_ NB132_139.out _; (with_reducible repeat (first | refine bkn ?_ _ | refine bkd ?_ | refine bka ?_ _)); refine blk_far ?_ NB132_139.out _; (with_reducible repeat (first | refine bkn ?_ _ | refine bkd ?_ | refine bka ?_ _)); refine blk_far ?_ NB132_139.out _; (with_reducible repeat (first | refine bkn ?_ _ | refine bkd ?_ | refine bka ?_ _)); refine blk_far ?_ NB132_139.out _; (with_reducible repeat (first | refine bkn ?_ _ | refine bkd ?_ | refine bka ?_ _)); exact BK132.out) hb); have n2_ := Aside0.mk (bbe (g := gb139) (o := .cells #[.int .i64 t133, .int .i64 t134, .int .i64 t135, .int .i64 t136, .string t137] 86 (0, 0)) (by (with_reducible repeat (first | refine bkn ?_ _ | refine bkd ?_ | refine bka ?_ _)); refine blk_put (cs := #[.int .i64 t133, .int .i64 t134, .int .i64 t135, .int .i64 t136, .string (⟨#[]⟩ : ByteArray)]) ?_ 4 _ rfl; (with_reducible repeat (first | refine bkn ?_ _ | refine bkd ?_ | refine bka ?_ _)); refine blk_put (cs := #[.int .i64 t133, .int .i64 t134, .int .i64 t135, .int .i64 0, .string (⟨#[]⟩ : ByteArray)]) ?_ 3 _ rfl; (with_reducible repeat (first | refine bkn ?_ _ | refine bkd ?_ | refine bka ?_ _)); refine blk_put (cs := #[.int .i64 t133, .int .i64 t134, .int .i64 0, .int .i64 0, .string (⟨#[]⟩ : ByteArray)]) ?_ 2 _ rfl; (with_reducible repeat (first | refine bkn ?_ _ | refine bkd ?_ | refine bka ?_ _)); refine blk_put (cs := #[.int .i64 t133, .int .i64 0, .int .i64 0, .int .i64 0, .string (⟨#[]⟩ : ByteArray)]) ?_ 1 _ rfl; (with_reducible repeat (first | refine bkn ?_ _ | refine bkd ?_ | refine bka ?_ _)); refine blk_put (cs := #[.int .i64 0, .int .i64 0, .int .i64 0, .int .i64 0, .string (⟨#[]⟩ : ByteArray)]) ?_ 0 _ rfl; (with_reducible repeat (first | refine bkn ?_ _ | refine bkd ?_ | refine bka ?_ _)); exact BK139.out) hb); have n3_ := Aside0.mk (bsp (by repeat (first | (with_reducible first | exact HB.out | apply bal | apply pbN | apply bd1 | refine bst ?_ GE131.out | refine bst ?_ GE132.out | refine bst ?_ GE139.out) | exact HB.out)) hb); clear BK131; clear BK132; clear BK139; clear HB; have BK131 := n0_; have BK132 := n1_; have BK139 := n2_; have HB := n3_; clear n0_ n1_ n2_ n3_; (try clear hb); (try clear hb2); (try clear hk); (try clear hi)) | ((with_reducible refine gate_dst (N := 8) rfl ?_); refine box_event ?hg (N := 8) ?hd (cs := #[.int .i64 0, .int .u64 0]) (t := 88) ?hr ?_; (case hd => rfl); (case hg => rfl); (case hr => first | (go_simp; done) | (go_simp; rfl)); intro gb143 hg w16 hbox hb; have n0_ := Aside0.mk (bbe (g := gb131) (o := .cells #[.string a0_0, .slice A0_1 l0_1.length c0_1, .slice A0_2 l0_2.length c0_2] 25 (0, 0)) (by (with_reducible repeat (first | refine bkn ?_ _ | refine bkd ?_ | refine bka ?_ _)); exact BK131.out) hb); have n1_ := Aside0.mk (bbe (g := gb132) (o := .cells #[.int .i64 0, .int .u64 0] 88 (0, 0)) (by (with_reducible repeat (first | refine bkn ?_ _ | refine bkd ?_ | refine bka ?_ _)); exact BK132.out) hb); have n2_ := Aside0.mk (bbe (g := gb139) (o := .cells #[.int .i64 t133, .int .i64 t134, .int .i64 t135, .int .i64 t136, .string t137] 86 (0, 0)) (by (with_reducible repeat (first | refine bkn ?_ _ | refine bkd ?_ | refine bka ?_ _)); exact BK139.out) hb); have n3_ := Aside0.mk (bsp (by repeat (first | (with_reducible first | exact HB.out | apply bal | apply pbN | apply bd1 | refine bst ?_ GE131.out | refine bst ?_ GE132.out | refine bst ?_ GE139.out) | exact HB.out)) hb); have n4_ := Aside0.mk (hbox); have n5_ := Aside0.mk ((by rw [hg]; exact (bsz (by repeat (first | (with_reducible first | exact HB.out | apply bal | apply pbN | apply bd1 | refine bst ?_ GE131.out | refine bst ?_ GE132.out | refine bst ?_ GE139.out) | exact HB.out))) : w.heap.size ≤ gb143)); have n6_ := Aside0.mk ((by rw [hg]; exact (bsz (by repeat (first | (with_reducible first | exact HB.out | apply bal | apply pbN | apply bd1 | refine bst ?_ GE131.out | refine bst ?_ GE132.out | refine bst ?_ GE139.out) | exact HB.out))) : w.heap.size ≤ gb143)); have n7_ := Aside0.mk ((by rw [hg]; exact Nat.ne_of_lt (blk_lt (g := gb131) (o := .cells #[.string a0_0, .slice A0_1 l0_1.length c0_1, .slice A0_2 l0_2.length c0_2] 25 (0, 0)) (by (with_reducible repeat (first | refine bkn ?_ _ | refine bkd ?_ | refine bka ?_ _)); exact BK131.out)) : gb131 ≠ gb143)); have n8_ := Aside0.mk ((by rw [hg]; exact Nat.ne_of_gt (blk_lt (g := gb131) (o := .cells #[.string a0_0, .slice A0_1 l0_1.length c0_1, .slice A0_2 l0_2.length c0_2] 25 (0, 0)) (by (with_reducible repeat (first | refine bkn ?_ _ | refine bkd ?_ | refine bka ?_ _)); exact BK131.out)) : gb143 ≠ gb131)); have n9_ := Aside0.mk ((by rw [hg]; exact Nat.ne_of_lt (blk_lt (g := gb132) (o := .cells #[.int .i64 0, .int .u64 0] 88 (0, 0)) (by (with_reducible repeat (first | refine bkn ?_ _ | refine bkd ?_ | refine bka ?_ _)); exact BK132.out)) : gb132 ≠ gb143)); have n10_ := Aside0.mk ((by rw [hg]; exact Nat.ne_of_gt (blk_lt (g := gb132) (o := .cells #[.int .i64 0, .int .u64 0] 88 (0, 0)) (by (with_reducible repeat (first | refine bkn ?_ _ | refine bkd ?_ | refine bka ?_ _)); exact BK132.out)) : gb143 ≠ gb132)); have n11_ := Aside0.mk ((by rw [hg]; exact Nat.ne_of_lt (blk_lt (g := gb139) (o := .cells #[.int .i64 t133, .int .i64 t134, .int .i64 t135, .int .i64 t136, .string t137] 86 (0, 0)) (by (with_reducible repeat (first | refine bkn ?_ _ | refine bkd ?_ | refine bka ?_ _)); exact BK139.out)) : gb139 ≠ gb143)); have n12_ := Aside0.mk ((by rw [hg]; exact Nat.ne_of_gt (blk_lt (g := gb139) (o := .cells #[.int .i64 t133, .int .i64 t134, .int .i64 t135, .int .i64 t136, .string t137] 86 (0, 0)) (by (with_reducible repeat (first | refine bkn ?_ _ | refine bkd ?_ | refine bka ?_ _)); exact BK139.out)) : gb143 ≠ gb139)); clear BK131; clear BK132; clear BK139; clear HB; have BK131 := n0_; have BK132 := n1_; have BK139 := n2_; have HB := n3_; have BK143 := n4_; have GW143 := n5_; have GE143 := n6_; have NB131_143 := n7_; have NB143_131 := n8_; have NB132_143 := n9_; have NB143_132 := n10_; have NB139_143 := n11_; have NB143_139 := n12_; clear n0_ n1_ n2_ n3_ n4_ n5_ n6_ n7_ n8_ n9_ n10_ n11_ n12_; clear hb hbox hg; have hnb17 := NB143_131.out; have hnc17 := NB131_143.out; have hnb18 := NB143_132.out; have hnc18 := NB132_143.out; have hnb19 := NB143_139.out; have hnc19 := NB139_143.out; have hcz20_0 : w16.cell? ⟨gb143, 0, none⟩ = some (.int .i64 0) := (bce BK143.out 0).trans rfl; have hcz20_1 : w16.cell? ⟨gb143, 1, none⟩ = some (.int .u64 0) := (bce BK143.out 1).trans rfl; have hfz20_0 := bfz BK143.out 0; have hfz20_1 := bfz BK143.out 1; have hcz21_0 : w16.cell? ⟨gb132, 0, none⟩ = some (.int .i64 0) := (bce BK132.out 0).trans rfl; have hcz21_1 : w16.cell? ⟨gb132, 1, none⟩ = some (.int .u64 0) := (bce BK132.out 1).trans rfl; have hfz21_0 := bfz BK132.out 0; have hfz21_1 := bfz BK132.out 1))
  refine bodyPost_ret (results_ct rfl _ _ gb132 88 #[.int .i64 t140, .int .u64 t141] (0, 0) _ rfl (by (with_reducible repeat (first | refine bkn ?_ _ | refine bkd ?_ | refine bka ?_ _)); refine blk_put (cs := #[.int .i64 t140, .int .u64 0]) ?_ 1 _ rfl; (with_reducible repeat (first | refine bkn ?_ _ | refine bkd ?_ | refine bka ?_ _)); refine blk_put (cs := #[.int .i64 0, .int .u64 0]) ?_ 0 _ rfl; (with_reducible repeat (first | refine bkn ?_ _ | refine bkd ?_ | refine bka ?_ _)); refine blk_far ?_ NB132_143.out _; (with_reducible repeat (first | refine bkn ?_ _ | refine bkd ?_ | refine bka ?_ _)); refine blk_far ?_ NB132_143.out _; (with_reducible repeat (first | refine bkn ?_ _ | refine bkd ?_ | refine bka ?_ _)); exact BK132.out) Tryz.underlying88 rfl (by kernel_rfl)) rfl ?_
  exact ⟨by first | rfl | (simp [errW_none, errW_some] <;> rfl) | (simp [*, errW_none, errW_some] <;> rfl), by repeat (first | (with_reducible first | exact HB.out | apply bal | apply pbN | apply bd1 | refine bst ?_ GE131.out | refine bst ?_ GE132.out | refine bst ?_ GE139.out | refine bst ?_ GE143.out) | exact HB.out)⟩
 ·replace c5 := Bool.eq_false_iff.mpr c5
  subst c5
  have H1 : (some (0, 0, false)) = some (r1, r2, r3) := by rw [if_neg (show ¬ (false = true) by decide)] at H; exact H
  clear H
  have H := H1
  clear H1
  simp only [Option.some.injEq, Prod.mk.injEq] at H
  obtain ⟨rfl, rfl, rfl⟩ := H
  go_enter Tryz.func39, Tryz.ntmps39
  go_wp2_with (first | ((with_reducible refine gate_dst (N := 2) rfl ?_); refine box_event ?hg (N := 2) ?hd (cs := #[.string a0_0, .slice A0_1 l0_1.length c0_1, .slice A0_2 l0_2.length c0_2]) (t := 25) ?hr ?_; (case hd => rfl); (case hg => rfl); (case hr => first | (go_simp; done) | (go_simp; rfl)); intro gb131 hg w22 hbox hb; have n0_ := Aside0.mk (bsp (by repeat (first | (with_reducible first | exact HB.out | apply bal | apply pbN | apply bd1) | exact HB.out)) hb); have n1_ := Aside0.mk (hbox); have n2_ := Aside0.mk ((by rw [hg]; exact (bsz (by repeat (first | (with_reducible first | exact HB.out | apply bal | apply pbN | apply bd1) | exact HB.out))) : w.heap.size ≤ gb131)); have n3_ := Aside0.mk ((by rw [hg]; exact (bsz (by repeat (first | (with_reducible first | exact HB.out | apply bal | apply pbN | apply bd1) | exact HB.out))) : w.heap.size ≤ gb131)); clear HB; have HB := n0_; have BK131 := n1_; have GW131 := n2_; have GE131 := n3_; clear n0_ n1_ n2_ n3_; clear hb hbox hg) | ((with_reducible refine gate_dst (N := 4) rfl ?_); refine box_event ?hg (N := 4) ?hd (cs := #[.int .i64 0, .int .u64 0]) (t := 88) ?hr ?_; (case hd => rfl); (case hg => rfl); (case hr => first | (go_simp; done) | (go_simp; rfl)); intro gb132 hg w23 hbox hb; have n0_ := Aside0.mk (bbe (g := gb131) (o := .cells #[.string a0_0, .slice A0_1 l0_1.length c0_1, .slice A0_2 l0_2.length c0_2] 25 (0, 0)) (by (with_reducible repeat (first | refine bkn ?_ _ | refine bkd ?_ | refine bka ?_ _)); exact BK131.out) hb); have n1_ := Aside0.mk (bsp (by repeat (first | (with_reducible first | exact HB.out | apply bal | apply pbN | apply bd1 | refine bst ?_ GE131.out) | exact HB.out)) hb); have n2_ := Aside0.mk (hbox); have n3_ := Aside0.mk ((by rw [hg]; exact (bsz (by repeat (first | (with_reducible first | exact HB.out | apply bal | apply pbN | apply bd1 | refine bst ?_ GE131.out) | exact HB.out))) : w.heap.size ≤ gb132)); have n4_ := Aside0.mk ((by rw [hg]; exact (bsz (by repeat (first | (with_reducible first | exact HB.out | apply bal | apply pbN | apply bd1 | refine bst ?_ GE131.out) | exact HB.out))) : w.heap.size ≤ gb132)); have n5_ := Aside0.mk ((by rw [hg]; exact Nat.ne_of_lt (blk_lt (g := gb131) (o := .cells #[.string a0_0, .slice A0_1 l0_1.length c0_1, .slice A0_2 l0_2.length c0_2] 25 (0, 0)) (by (with_reducible repeat (first | refine bkn ?_ _ | refine bkd ?_ | refine bka ?_ _)); exact BK131.out)) : gb131 ≠ gb132)); have n6_ := Aside0.mk ((by rw [hg]; exact Nat.ne_of_gt (blk_lt (g := gb131) (o := .cells #[.string a0_0, .slice A0_1 l0_1.length c0_1, .slice A0_2 l0_2.length c0_2] 25 (0, 0)) (by (with_reducible repeat (first | refine bkn ?_ _ | refine bkd ?_ | refine bka ?_ _)); exact BK131.out)) : gb132 ≠ gb131)); clear BK131; clear HB; have BK131 := n0_; have HB := n1_; have BK132 := n2_; have GW132 := n3_; have GE132 := n4_; have NB131_132 := n5_; have NB132_131 := n6_; clear n0_ n1_ n2_ n3_ n4_ n5_ n6_; clear hb hbox hg; have hnb24 := NB131_132.out; have hnc24 := NB132_131.out; have hcz25_0 : w23.cell? ⟨gb131, 0, none⟩ = some (.string a0_0) := (bce BK131.out 0).trans rfl; have hcz25_1 : w23.cell? ⟨gb131, 1, none⟩ = some (.slice A0_1 l0_1.length c0_1) := (bce BK131.out 1).trans rfl; have hcz25_2 : w23.cell? ⟨gb131, 2, none⟩ = some (.slice A0_2 l0_2.length c0_2) := (bce BK131.out 2).trans rfl; have hfz25_0 := bfz BK131.out 0; have hfz25_1 := bfz BK131.out 1; have hfz25_2 := bfz BK131.out 2) | ((with_reducible refine gate_callee (f := 67) rfl ?_); refine goesL_ (some 13) rfl rfl Tryz.func67 (by kernel_rfl) rfl #[.agg #[.string a0_0, .slice A0_1 l0_1.length c0_1, .slice A0_2 l0_2.length c0_2], .int .i64 a1] rfl (by (try simp only [List.map_toArray, List.map_cons, List.map_nil]); first | done | rfl | (simp only [List.length_drop, List.length_take]; rfl)) ?_; (with_reducible refine (graph_at.calls a0_0 _ _ l0_1 _ _ l0_2 a1 t133 t134 t135 t136 t137 t138 _ ?side1 ?side2 ?side3 ?side4 A3.out).mono ?_); (case side1 => repeat (first | exact (Kd.C_below HR0_1.out HB.out) | (with_reducible refine Kd.C_alloc ?_ _) | (with_reducible refine Kd.C_drewN ?_ _) | (with_reducible refine Kd.C_drew ?_))); (case side2 => exact HC0_1.out); (case side3 => repeat (first | exact (Kd.C_below HR0_2.out HB.out) | (with_reducible refine Kd.C_alloc ?_ _) | (with_reducible refine Kd.C_drewN ?_ _) | (with_reducible refine Kd.C_drew ?_))); (case side4 => exact HC0_2.out); rintro e w26 ⟨rfl, hb⟩; refine ⟨_, rfl, ?_⟩; have n0_ := Aside0.mk (bbe (g := gb131) (o := .cells #[.string a0_0, .slice A0_1 l0_1.length c0_1, .slice A0_2 l0_2.length c0_2] 25 (0, 0)) (by (with_reducible repeat (first | refine bkn ?_ _ | refine bkd ?_ | refine bka ?_ _)); exact BK131.out) hb); have n1_ := Aside0.mk (bbe (g := gb132) (o := .cells #[.int .i64 0, .int .u64 0] 88 (0, 0)) (by (with_reducible repeat (first | refine bkn ?_ _ | refine bkd ?_ | refine bka ?_ _)); exact BK132.out) hb); have n2_ := Aside0.mk (bsp (by repeat (first | (with_reducible first | exact HB.out | apply bal | apply pbN | apply bd1 | refine bst ?_ GE131.out | refine bst ?_ GE132.out) | exact HB.out)) hb); clear BK131; clear BK132; clear HB; have BK131 := n0_; have BK132 := n1_; have HB := n2_; clear n0_ n1_ n2_; (try clear hb); (try clear hb2); (try clear hk); (try clear hi)) | ((with_reducible refine gate_dst (N := 6) rfl ?_); refine box_event ?hg (N := 6) ?hd (cs := #[.int .i64 0, .int .i64 0, .int .i64 0, .int .i64 0, .string (⟨#[]⟩ : ByteArray)]) (t := 86) ?hr ?_; (case hd => rfl); (case hg => rfl); (case hr => first | (go_simp; done) | (go_simp; rfl)); intro gb139 hg w27 hbox hb; have n0_ := Aside0.mk (bbe (g := gb131) (o := .cells #[.string a0_0, .slice A0_1 l0_1.length c0_1, .slice A0_2 l0_2.length c0_2] 25 (0, 0)) (by (with_reducible repeat (first | refine bkn ?_ _ | refine bkd ?_ | refine bka ?_ _)); exact BK131.out) hb); have n1_ := Aside0.mk (bbe (g := gb132) (o := .cells #[.int .i64 0, .int .u64 0] 88 (0, 0)) (by (with_reducible repeat (first | refine bkn ?_ _ | refine bkd ?_ | refine bka ?_ _)); exact BK132.out) hb); have n2_ := Aside0.mk (bsp (by repeat (first | (with_reducible first | exact HB.out | apply bal | apply pbN | apply bd1 | refine bst ?_ GE131.out | refine bst ?_ GE132.out) | exact HB.out)) hb); have n3_ := Aside0.mk (hbox); have n4_ := Aside0.mk ((by rw [hg]; exact (bsz (by repeat (first | (with_reducible first | exact HB.out | apply bal | apply pbN | apply bd1 | refine bst ?_ GE131.out | refine bst ?_ GE132.out) | exact HB.out))) : w.heap.size ≤ gb139)); have n5_ := Aside0.mk ((by rw [hg]; exact (bsz (by repeat (first | (with_reducible first | exact HB.out | apply bal | apply pbN | apply bd1 | refine bst ?_ GE131.out | refine bst ?_ GE132.out) | exact HB.out))) : w.heap.size ≤ gb139)); have n6_ := Aside0.mk ((by rw [hg]; exact Nat.ne_of_lt (blk_lt (g := gb131) (o := .cells #[.string a0_0, .slice A0_1 l0_1.length c0_1, .slice A0_2 l0_2.length c0_2] 25 (0, 0)) (by (with_reducible repeat (first | refine bkn ?_ _ | refine bkd ?_ | refine bka ?_ _)); exact BK131.out)) : gb131 ≠ gb139)); have n7_ := Aside0.mk ((by rw [hg]; exact Nat.ne_of_gt (blk_lt (g := gb131) (o := .cells #[.string a0_0, .slice A0_1 l0_1.length c0_1, .slice A0_2 l0_2.length c0_2] 25 (0, 0)) (by (with_reducible repeat (first | refine bkn ?_ _ | refine bkd ?_ | refine bka ?_ _)); exact BK131.out)) : gb139 ≠ gb131)); have n8_ := Aside0.mk ((by rw [hg]; exact Nat.ne_of_lt (blk_lt (g := gb132) (o := .cells #[.int .i64 0, .int .u64 0] 88 (0, 0)) (by (with_reducible repeat (first | refine bkn ?_ _ | refine bkd ?_ | refine bka ?_ _)); exact BK132.out)) : gb132 ≠ gb139)); have n9_ := Aside0.mk ((by rw [hg]; exact Nat.ne_of_gt (blk_lt (g := gb132) (o := .cells #[.int .i64 0, .int .u64 0] 88 (0, 0)) (by (with_reducible repeat (first | refine bkn ?_ _ | refine bkd ?_ | refine bka ?_ _)); exact BK132.out)) : gb139 ≠ gb132)); clear BK131; clear BK132; clear HB; have BK131 := n0_; have BK132 := n1_; have HB := n2_; have BK139 := n3_; have GW139 := n4_; have GE139 := n5_; have NB131_139 := n6_; have NB139_131 := n7_; have NB132_139 := n8_; have NB139_132 := n9_; clear n0_ n1_ n2_ n3_ n4_ n5_ n6_ n7_ n8_ n9_; clear hb hbox hg; have hnb28 := NB139_131.out; have hnc28 := NB131_139.out; have hnb29 := NB139_132.out; have hnc29 := NB132_139.out; have hcz30_0 : w27.cell? ⟨gb139, 0, none⟩ = some (.int .i64 0) := (bce BK139.out 0).trans rfl; have hcz30_1 : w27.cell? ⟨gb139, 1, none⟩ = some (.int .i64 0) := (bce BK139.out 1).trans rfl; have hcz30_2 : w27.cell? ⟨gb139, 2, none⟩ = some (.int .i64 0) := (bce BK139.out 2).trans rfl; have hcz30_3 : w27.cell? ⟨gb139, 3, none⟩ = some (.int .i64 0) := (bce BK139.out 3).trans rfl; have hcz30_4 : w27.cell? ⟨gb139, 4, none⟩ = some (.string (⟨#[]⟩ : ByteArray)) := (bce BK139.out 4).trans rfl; have hfz30_0 := bfz BK139.out 0; have hfz30_1 := bfz BK139.out 1; have hfz30_2 := bfz BK139.out 2; have hfz30_3 := bfz BK139.out 3; have hfz30_4 := bfz BK139.out 4) | ((with_reducible refine gate_callee (f := 68) rfl ?_); refine goesL_ (some 18) rfl rfl Tryz.func68 (by kernel_rfl) rfl #[.agg #[.int .i64 t133, .int .i64 t134, .int .i64 t135, .int .i64 t136, .string t137]] rfl (by (try simp only [List.map_toArray, List.map_cons, List.map_nil]); first | done | rfl | (simp only [List.length_drop, List.length_take]; rfl)) ?_; (with_reducible refine (graph_waits.calls k t133 t134 t135 t136 t137 t140 t141 false _ A4.out).mono ?_); rintro e w31 ⟨rfl, hb⟩; refine ⟨_, rfl, ?_⟩; have n0_ := Aside0.mk (bbe (g := gb131) (o := .cells #[.string a0_0, .slice A0_1 l0_1.length c0_1, .slice A0_2 l0_2.length c0_2] 25 (0, 0)) (by (with_reducible repeat (first | refine bkn ?_ _ | refine bkd ?_ | refine bka ?_ _)); refine blk_far ?_ NB131_139.out _; (with_reducible repeat (first | refine bkn ?_ _ | refine bkd ?_ | refine bka ?_ _)); refine blk_far ?_ NB131_139.out _; (with_reducible repeat (first | refine bkn ?_ _ | refine bkd ?_ | refine bka ?_ _)); refine blk_far ?_ NB131_139.out _; (with_reducible repeat (first | refine bkn ?_ _ | refine bkd ?_ | refine bka ?_ _)); refine blk_far ?_ NB131_139.out _; (with_reducible repeat (first | refine bkn ?_ _ | refine bkd ?_ | refine bka ?_ _)); refine blk_far ?_ NB131_139.out _; (with_reducible repeat (first | refine bkn ?_ _ | refine bkd ?_ | refine bka ?_ _)); exact BK131.out) hb); have n1_ := Aside0.mk (bbe (g := gb132) (o := .cells #[.int .i64 0, .int .u64 0] 88 (0, 0)) (by (with_reducible repeat (first | refine bkn ?_ _ | refine bkd ?_ | refine bka ?_ _)); refine blk_far ?_ NB132_139.out _; (with_reducible repeat (first | refine bkn ?_ _ | refine bkd ?_ | refine bka ?_ _)); refine blk_far ?_ NB132_139.out _; (with_reducible repeat (first | refine bkn ?_ _ | refine bkd ?_ | refine bka ?_ _)); refine blk_far ?_ NB132_139.out _; (with_reducible repeat (first | refine bkn ?_ _ | refine bkd ?_ | refine bka ?_ _)); refine blk_far ?_ NB132_139.out _; (with_reducible repeat (first | refine bkn ?_ _ | refine bkd ?_ | refine bka ?_ _)); refine blk_far ?_ NB132_139.out _; (with_reducible repeat (first | refine bkn ?_ _ | refine bkd ?_ | refine bka ?_ _)); exact BK132.out) hb); have n2_ := Aside0.mk (bbe (g := gb139) (o := .cells #[.int .i64 t133, .int .i64 t134, .int .i64 t135, .int .i64 t136, .string t137] 86 (0, 0)) (by (with_reducible repeat (first | refine bkn ?_ _ | refine bkd ?_ | refine bka ?_ _)); refine blk_put (cs := #[.int .i64 t133, .int .i64 t134, .int .i64 t135, .int .i64 t136, .string (⟨#[]⟩ : ByteArray)]) ?_ 4 _ rfl; (with_reducible repeat (first | refine bkn ?_ _ | refine bkd ?_ | refine bka ?_ _)); refine blk_put (cs := #[.int .i64 t133, .int .i64 t134, .int .i64 t135, .int .i64 0, .string (⟨#[]⟩ : ByteArray)]) ?_ 3 _ rfl; (with_reducible repeat (first | refine bkn ?_ _ | refine bkd ?_ | refine bka ?_ _)); refine blk_put (cs := #[.int .i64 t133, .int .i64 t134, .int .i64 0, .int .i64 0, .string (⟨#[]⟩ : ByteArray)]) ?_ 2 _ rfl; (with_reducible repeat (first | refine bkn ?_ _ | refine bkd ?_ | refine bka ?_ _)); refine blk_put (cs := #[.int .i64 t133, .int .i64 0, .int .i64 0, .int .i64 0, .string (⟨#[]⟩ : ByteArray)]) ?_ 1 _ rfl; (with_reducible repeat (first | refine bkn ?_ _ | refine bkd ?_ | refine bka ?_ _)); refine blk_put (cs := #[.int .i64 0, .int .i64 0, .int .i64 0, .int .i64 0, .string (⟨#[]⟩ : ByteArray)]) ?_ 0 _ rfl; (with_reducible repeat (first | refine bkn ?_ _ | refine bkd ?_ | refine bka ?_ _)); exact BK139.out) hb); have n3_ := Aside0.mk (bsp (by repeat (first | (with_reducible first | exact HB.out | apply bal | apply pbN | apply bd1 | refine bst ?_ GE131.out | refine bst ?_ GE132.out | refine bst ?_ GE139.out) | exact HB.out)) hb); clear BK131; clear BK132; clear BK139; clear HB; have BK131 := n0_; have BK132 := n1_; have BK139 := n2_; have HB := n3_; clear n0_ n1_ n2_ n3_; (try clear hb); (try clear hb2); (try clear hk); (try clear hi)) | ((with_reducible refine gate_dst (N := 8) rfl ?_); refine box_event ?hg (N := 8) ?hd (cs := #[.int .i64 0, .int .u64 0]) (t := 88) ?hr ?_; (case hd => rfl); (case hg => rfl); (case hr => first | (go_simp; done) | (go_simp; rfl)); intro gb143 hg w32 hbox hb; have n0_ := Aside0.mk (bbe (g := gb131) (o := .cells #[.string a0_0, .slice A0_1 l0_1.length c0_1, .slice A0_2 l0_2.length c0_2] 25 (0, 0)) (by (with_reducible repeat (first | refine bkn ?_ _ | refine bkd ?_ | refine bka ?_ _)); exact BK131.out) hb); have n1_ := Aside0.mk (bbe (g := gb132) (o := .cells #[.int .i64 0, .int .u64 0] 88 (0, 0)) (by (with_reducible repeat (first | refine bkn ?_ _ | refine bkd ?_ | refine bka ?_ _)); exact BK132.out) hb); have n2_ := Aside0.mk (bbe (g := gb139) (o := .cells #[.int .i64 t133, .int .i64 t134, .int .i64 t135, .int .i64 t136, .string t137] 86 (0, 0)) (by (with_reducible repeat (first | refine bkn ?_ _ | refine bkd ?_ | refine bka ?_ _)); exact BK139.out) hb); have n3_ := Aside0.mk (bsp (by repeat (first | (with_reducible first | exact HB.out | apply bal | apply pbN | apply bd1 | refine bst ?_ GE131.out | refine bst ?_ GE132.out | refine bst ?_ GE139.out) | exact HB.out)) hb); have n4_ := Aside0.mk (hbox); have n5_ := Aside0.mk ((by rw [hg]; exact (bsz (by repeat (first | (with_reducible first | exact HB.out | apply bal | apply pbN | apply bd1 | refine bst ?_ GE131.out | refine bst ?_ GE132.out | refine bst ?_ GE139.out) | exact HB.out))) : w.heap.size ≤ gb143)); have n6_ := Aside0.mk ((by rw [hg]; exact (bsz (by repeat (first | (with_reducible first | exact HB.out | apply bal | apply pbN | apply bd1 | refine bst ?_ GE131.out | refine bst ?_ GE132.out | refine bst ?_ GE139.out) | exact HB.out))) : w.heap.size ≤ gb143)); have n7_ := Aside0.mk ((by rw [hg]; exact Nat.ne_of_lt (blk_lt (g := gb131) (o := .cells #[.string a0_0, .slice A0_1 l0_1.length c0_1, .slice A0_2 l0_2.length c0_2] 25 (0, 0)) (by (with_reducible repeat (first | refine bkn ?_ _ | refine bkd ?_ | refine bka ?_ _)); exact BK131.out)) : gb131 ≠ gb143)); have n8_ := Aside0.mk ((by rw [hg]; exact Nat.ne_of_gt (blk_lt (g := gb131) (o := .cells #[.string a0_0, .slice A0_1 l0_1.length c0_1, .slice A0_2 l0_2.length c0_2] 25 (0, 0)) (by (with_reducible repeat (first | refine bkn ?_ _ | refine bkd ?_ | refine bka ?_ _)); exact BK131.out)) : gb143 ≠ gb131)); have n9_ := Aside0.mk ((by rw [hg]; exact Nat.ne_of_lt (blk_lt (g := gb132) (o := .cells #[.int .i64 0, .int .u64 0] 88 (0, 0)) (by (with_reducible repeat (first | refine bkn ?_ _ | refine bkd ?_ | refine bka ?_ _)); exact BK132.out)) : gb132 ≠ gb143)); have n10_ := Aside0.mk ((by rw [hg]; exact Nat.ne_of_gt (blk_lt (g := gb132) (o := .cells #[.int .i64 0, .int .u64 0] 88 (0, 0)) (by (with_reducible repeat (first | refine bkn ?_ _ | refine bkd ?_ | refine bka ?_ _)); exact BK132.out)) : gb143 ≠ gb132)); have n11_ := Aside0.mk ((by rw [hg]; exact Nat.ne_of_lt (blk_lt (g := gb139) (o := .cells #[.int .i64 t133, .int .i64 t134, .int .i64 t135, .int .i64 t136, .string t137] 86 (0, 0)) (by (with_reducible repeat (first | refine bkn ?_ _ | refine bkd ?_ | refine bka ?_ _)); exact BK139.out)) : gb139 ≠ gb143)); have n12_ := Aside0.mk ((by rw [hg]; exact Nat.ne_of_gt (blk_lt (g := gb139) (o := .cells #[.int .i64 t133, .int .i64 t134, .int .i64 t135, .int .i64 t136, .string t137] 86 (0, 0)) (by (with_reducible repeat (first | refine bkn ?_ _ | refine bkd ?_ | refine bka ?_ _)); exact BK139.out)) : gb143 ≠ gb139)); clear BK131; clear BK132; clear BK139; clear HB; have BK131 := n0_; have BK132 := n1_; have BK139 := n2_; have HB := n3_; have BK143 := n4_; have GW143 := n5_; have GE143 := n6_; have NB131_143 := n7_; have NB143_131 := n8_; have NB132_143 := n9_; have NB143_132 := n10_; have NB139_143 := n11_; have NB143_139 := n12_; clear n0_ n1_ n2_ n3_ n4_ n5_ n6_ n7_ n8_ n9_ n10_ n11_ n12_; clear hb hbox hg; have hnb33 := NB143_131.out; have hnc33 := NB131_143.out; have hnb34 := NB143_132.out; have hnc34 := NB132_143.out; have hnb35 := NB143_139.out; have hnc35 := NB139_143.out; have hcz36_0 : w32.cell? ⟨gb143, 0, none⟩ = some (.int .i64 0) := (bce BK143.out 0).trans rfl; have hcz36_1 : w32.cell? ⟨gb143, 1, none⟩ = some (.int .u64 0) := (bce BK143.out 1).trans rfl; have hfz36_0 := bfz BK143.out 0; have hfz36_1 := bfz BK143.out 1; have hcz37_0 : w32.cell? ⟨gb132, 0, none⟩ = some (.int .i64 0) := (bce BK132.out 0).trans rfl; have hcz37_1 : w32.cell? ⟨gb132, 1, none⟩ = some (.int .u64 0) := (bce BK132.out 1).trans rfl; have hfz37_0 := bfz BK132.out 0; have hfz37_1 := bfz BK132.out 1))
  refine bodyPost_ret (results_ct rfl _ _ gb132 88 #[.int .i64 0, .int .u64 0] (0, 0) _ rfl (by (with_reducible repeat (first | refine bkn ?_ _ | refine bkd ?_ | refine bka ?_ _)); refine blk_put (cs := #[.int .i64 0, .int .u64 0]) ?_ 1 _ rfl; (with_reducible repeat (first | refine bkn ?_ _ | refine bkd ?_ | refine bka ?_ _)); refine blk_put (cs := #[.int .i64 0, .int .u64 0]) ?_ 0 _ rfl; (with_reducible repeat (first | refine bkn ?_ _ | refine bkd ?_ | refine bka ?_ _)); refine blk_far ?_ NB132_143.out _; (with_reducible repeat (first | refine bkn ?_ _ | refine bkd ?_ | refine bka ?_ _)); refine blk_far ?_ NB132_143.out _; (with_reducible repeat (first | refine bkn ?_ _ | refine bkd ?_ | refine bka ?_ _)); exact BK132.out) Tryz.underlying88 rfl (by kernel_rfl)) rfl ?_
  exact ⟨by first | rfl | (simp [errW_none, errW_some] <;> rfl) | (simp [*, errW_none, errW_some] <;> rfl), by repeat (first | (with_reducible first | exact HB.out | apply bal | apply pbN | apply bd1 | refine bst ?_ GE131.out | refine bst ?_ GE132.out | refine bst ?_ GE139.out | refine bst ?_ GE143.out) | exact HB.out)⟩

end Go.Proofs.YtdfkbiffdcfnpaaGreatDoor.H
-- Written by hp.py (a program of this session, over the kit's print.py), with hand-made contracts beside it.
namespace Go.Proofs.YtdfkbiffdcfnpaaGreatDoor.H
open Go.RowKit Go.Proofs.YtdfkbiffdcfnpaaGreatDoorW.PrintWords Go.Proofs.YtdfkbiffdcfnpaaGreatDoorW.PrintLast Go.Proofs.YtdfkbiffdcfnpaaGreatDoorW.PrintMore
attribute [local go_sem] max2_int min2_int max_two min_two max_three min_three max_four min_four   -- for this text's walks alone
set_option linter.unusedVariables false
set_option linter.unusedSimpArgs false

/-! ### orders_Of: function 13 -/
def orders_Of.l0 : Nat → List (S76) → List (S83) → Int → Int → ByteArray → List (S86) → List (S51) → Option ((List (S76)))
  | 0, _, _, _, _, _, _, _ => none
  | k + 1, x5, x10, x11, x12, x145000, x145001, x145002 => if x12 < x11 then (if 0 ≤ x12 then (if x12 < (x10.length : Int) then (if ((rd_T83 x10 x12).f0) = 2 then ((orders_class.f x145000 x145001 x145002 ((rd_T83 x10 x12).f2)).bind fun t147 => (if x5.length < 3518437208883 then (orders_Of.l0 k (x5 ++ [(⟨1, (rd_T83 x10 x12).f3, (rd_T83 x10 x12).f2, t147, 0⟩ : S76)]) x10 x11 (wrap64 (x12 + 1)) x145000 x145001 x145002) else (none))) else (if ((rd_T83 x10 x12).f0) = 3 then ((graph_Time.f k x145000 x145001 x145002 ((rd_T83 x10 x12).f2)).bind fun bt151 => (if x5.length < 3518437208883 then (orders_Of.l0 k (x5 ++ [(⟨2, (rd_T83 x10 x12).f3, (rd_T83 x10 x12).f2, 0, bt151.2.1⟩ : S76)]) x10 x11 (wrap64 (x12 + 1)) x145000 x145001 x145002) else (none))) else (if ((rd_T83 x10 x12).f0) = 4 then (if x5.length < 3518437208883 then (orders_Of.l0 k (x5 ++ [(⟨3, (rd_T83 x10 x12).f3, 0, 0, 0⟩ : S76)]) x10 x11 (wrap64 (x12 + 1)) x145000 x145001 x145002) else (none)) else (orders_Of.l0 k x5 x10 x11 (wrap64 (x12 + 1)) x145000 x145001 x145002)))) else (none)) else (none)) else (some x5)
def orders_Of.f (k : Nat) (a0_0 : ByteArray) (l0_1 : List (S86)) (l0_2 : List (S51)) (l1 : List (S83)) : Option ((List (S76))) := orders_Of.l0 k ([] : List (S76)) l1 (l1.length : Int) 0 a0_0 l0_1 l0_2
theorem orders_Of.mono_l : ∀ k, (∀ y0 y1 y2 y3 y4 y5 y6, LeO (orders_Of.l0 k y0 y1 y2 y3 y4 y5 y6) (orders_Of.l0 (k + 1) y0 y1 y2 y3 y4 y5 y6))
  | 0 => fun _ _ _ _ _ _ _ r h => by simp [orders_Of.l0] at h
  | k + 1 => by
    have ih0 := orders_Of.mono_l k
    · intro y0 y1 y2 y3 y4 y5 y6
      unfold orders_Of.l0
      repeat' first
      | (with_reducible exact ih0 _ _ _ _ _ _ _)
      | (with_reducible exact graph_Time.mono _ _ _ _ _)
      | (with_reducible exact LeO.refl _)
      | (with_reducible exact LeO.none _)
      | (with_reducible refine LeO.ite ?_ ?_)
      | (with_reducible refine LeO.bind ?_ (fun _ => ?_))
      | exact ih0 _ _ _ _ _ _ _
      | exact graph_Time.mono _ _ _ _ _
      | exact LeO.none _
      | refine LeO.ite ?_ ?_
      | refine LeO.bind ?_ (fun _ => ?_)
theorem orders_Of.mono : ∀ a0 a1 a2 a3 k, LeO (orders_Of.f k a0 a1 a2 a3) (orders_Of.f (k + 1) a0 a1 a2 a3) := by
  intro a0 a1 a2 a3 k
  have ih0 := orders_Of.mono_l k
  unfold orders_Of.f
  repeat' first
      | (with_reducible exact ih0 _ _ _ _ _ _ _)
      | (with_reducible exact graph_Time.mono _ _ _ _ _)
      | (with_reducible exact LeO.refl _)
      | (with_reducible exact LeO.none _)
      | (with_reducible refine LeO.ite ?_ ?_)
      | (with_reducible refine LeO.bind ?_ (fun _ => ?_))
      | exact ih0 _ _ _ _ _ _ _
      | exact graph_Time.mono _ _ _ _ _
      | exact LeO.none _
      | refine LeO.ite ?_ ?_
      | refine LeO.bind ?_ (fun _ => ?_)
def orders_Of.T7 : Bool × List (List Nat × List Nat) := (true, [([], []), ([], []), ([1], [1]), ([], []), ([3], [3]), ([], []), ([], []), ([6], [6]), ([5, 7], [5, 7]), ([2, 4, 8], [2, 4, 8]), ([9], [9]), ([0, 10, 8], [0, 10]), ([11, 11, 0, 1, 2, 3, 4, 5, 6, 7, 8, 9, 10, 11], [0, 11])])
def orders_Of.B7 : List Nat := [0, 0, 2, 0, 8, 0, 0, 64, 224, 510, 1022, 2047, 4095]
theorem orders_Of.tab7 : rtab .any (opsOf Tryz.f13 7) = orders_Of.T7 := by kernel_rfl
theorem orders_Of.bits7 : waitsOk orders_Of.T7.2 orders_Of.B7 = true := by kernel_rfl
set_option maxHeartbeats 8000000 in
set_option maxRecDepth 100000 in
theorem orders_Of.calls (k : Nat) (a0_0 : ByteArray) (A0_1 : Option Addr) (c0_1 : Nat) (l0_1 : List (S86)) (A0_2 : Option Addr) (c0_2 : Nat) (l0_2 : List (S51)) (A1 : Option Addr) (c1 : Nat) (l1 : List (S83)) (r : List (S76)) (w : World) (hr0_1 : Kd.C k86 w A0_1 l0_1.length l0_1) (hc0_1 : l0_1.length ≤ c0_1) (hr0_2 : Kd.C k51 w A0_2 l0_2.length l0_2) (hc0_2 : l0_2.length ≤ c0_2) (hr1 : Kd.C k83 w A1 l1.length l1) (hc1 : l1.length ≤ c1) (h : orders_Of.f k a0_0 l0_1 l0_2 l1 = some r) :
  Calls Tryz.prog 13 #[.agg #[.string a0_0, .slice A0_1 l0_1.length c0_1, .slice A0_2 l0_2.length c0_2], .slice A1 l1.length c1] w fun e w' => ∃ v0_ : Value, e = .returned (v0_) ∧ Kd.R k76 76 w' w.heap.size (fun _ => True) v0_ r ∧ Below w.heap.size w w' := by
 have hu25 := Tryz.underlying25
 have hu83 := Tryz.underlying83
 have hu76 := Tryz.underlying76
 have hu88 := Tryz.underlying88
 have HR0_1 := Aside0.mk hr0_1
 have HC0_1 := Aside0.mk hc0_1
 clear hr0_1 hc0_1
 have HR0_2 := Aside0.mk hr0_2
 have HC0_2 := Aside0.mk hc0_2
 clear hr0_2 hc0_2
 have HR1 := Aside0.mk hr1
 have HC1 := Aside0.mk hc1
 clear hr1 hc1
 have HB := Aside0.mk (Below.refl w.heap.size w)
 have H : (orders_Of.l0 k ([] : List (S76)) l1 (l1.length : Int) 0 a0_0 l0_1 l0_2) = some r := h
 clear h
 have H' := Aside0.mk H
 clear H
 go_enter Tryz.func13, Tryz.ntmps13
 go_wp2_with (first | ((with_reducible refine gate_dst (N := 2) rfl ?_); refine box_event ?hg (N := 2) ?hd (cs := #[.string a0_0, .slice A0_1 l0_1.length c0_1, .slice A0_2 l0_2.length c0_2]) (t := 25) ?hr ?_; (case hd => rfl); (case hg => rfl); (case hr => first | (go_simp; done) | (go_simp; rfl)); intro gb144 hg w3 hbox hb; have n0_ := Aside0.mk (bsp (by repeat (first | (with_reducible first | exact HB.out | apply bal | apply pbN | apply bd1) | exact HB.out)) hb); have n1_ := Aside0.mk (hbox); have n2_ := Aside0.mk ((by rw [hg]; exact (bsz (by repeat (first | (with_reducible first | exact HB.out | apply bal | apply pbN | apply bd1) | exact HB.out))) : w.heap.size ≤ gb144)); have n3_ := Aside0.mk ((by rw [hg]; exact (bsz (by repeat (first | (with_reducible first | exact HB.out | apply bal | apply pbN | apply bd1) | exact HB.out))) : w.heap.size ≤ gb144)); clear HB; have HB := n0_; have BK144 := n1_; have GW144 := n2_; have GE144 := n3_; clear n0_ n1_ n2_ n3_; clear hb hbox hg))
 go_loopg [5, 12] k (fun kq v5 v12 w' => ∃ (x5_1 : List (S76)) (x12_1 : Int), v12 = .int .i64 x12_1 ∧ Aside0 (orders_Of.l0 kq x5_1 l1 (l1.length : Int) x12_1 a0_0 l0_1 l0_2 = some r) ∧ Aside0 (kq ≤ k) ∧ Aside0 (Kd.R k76 76 w' w.heap.size (fun _ => True) v5 x5_1) ∧ Aside0 (w'.heap[gb144]? = some (.cells #[.string a0_0, (.slice A0_1 l0_1.length c0_1), (.slice A0_2 l0_2.length c0_2)] 25 (0, 0))) ∧ Aside0 (Below w.heap.size w w'))
 case atStart => exact ⟨(([] : List (S76))), (0), (by first | rfl | (simp; done) | (simp [*]; done)), H', ⟨Nat.le_refl _⟩, ⟨by first | exact Kd.R_nil _ _ _ _ _ | exact Kd.N_nil _ _ _ _ _ | exact Kd.V_nil _ _ _ _ _ | exact Kd.Q_nil _ _ _ _ _ | exact Kd.S_nil _ _ _ _ _⟩, ⟨by (with_reducible repeat (first | refine bkn ?_ _ | refine bkd ?_ | refine bka ?_ _)); exact BK144.out⟩, ⟨by repeat (first | (with_reducible first | exact HB.out | apply bal | apply pbN | apply bd1 | refine bst ?_ GE144.out) | exact HB.out)⟩⟩
 case round =>
  clear H'
  try clear c1
  try clear p2
  obtain ⟨x5_1, x12_1, rfl, HA, HK1, HO_5, BK144, HB⟩ := hrel
  cases gk with
  | zero => exact absurd HA.out (by simp [orders_Of.l0])
  | succ k1 =>
   have H := HA.out
   clear HA
   simp only [orders_Of.l0] at H
   by_cases c4 : x12_1 < (l1.length : Int)
   ·rw [if_pos c4] at H
    have c4b0 : decide (x12_1 < (l1.length : Int)) = true := decide_eq_true c4
    clear c4
    by_cases c5 : 0 ≤ x12_1
    ·rw [if_pos c5] at H
     have c5b0 : decide (0 ≤ x12_1) = true := decide_eq_true c5
     clear c5
     by_cases c6 : x12_1 < (l1.length : Int)
     ·rw [if_pos c6] at H
      have c6b0 : decide (x12_1 < (l1.length : Int)) = true := decide_eq_true c6
      clear c6
      by_cases c7 : ((rd_T83 l1 x12_1).f0) = 2
      ·rw [if_pos c7] at H
       have c7b0 : (((rd_T83 l1 x12_1).f0) == 2) = true := beq_iff_eq.mpr c7
       have c7b1 : (((rd_T83 l1 x12_1).f0) != 2) = false := bne_eq_false_iff_eq.mpr c7
       clear c7
       replace H := Option.bind_eq_some_iff.mp H
       obtain ⟨t147, A80, H⟩ := H
       replace H : (if x5_1.length < 3518437208883 then (orders_Of.l0 k1 (x5_1 ++ [(⟨1, (rd_T83 l1 x12_1).f3, (rd_T83 l1 x12_1).f2, t147, 0⟩ : S76)]) l1 (l1.length : Int) (wrap64 (x12_1 + 1)) a0_0 l0_1 l0_2) else (none)) = some r := H
       have A8 := Aside0.mk A80
       clear A80
       by_cases c9 : x5_1.length < 3518437208883
       ·rw [if_pos c9] at H
        have LMc9 := Aside0.mk c9
        clear c9
        obtain ⟨y148, hy148⟩ : ∃ y_ : List (S76), y_ = (x5_1 ++ [(⟨1, (rd_T83 l1 x12_1).f3, (rd_T83 l1 x12_1).f2, t147, 0⟩ : S76)]) := ⟨_, rfl⟩
        replace H : (orders_Of.l0 k1 y148 l1 (l1.length : Int) (wrap64 (x12_1 + 1)) a0_0 l0_1 l0_2) = some r := by first | (rw [hy148]; with_reducible exact H) | (have H2_ := (Option.bind_some _ _).symm.trans H; rw [hy148]; with_reducible exact H2_) | (have H2_ := (Option.bind_some _ _).symm.trans H; with_reducible exact H2_) | with_reducible exact H | (rw [hy148]; exact H) | exact H
        have Ny148 := Aside0.mk hy148
        clear hy148
        have H' := Aside0.mk H
        clear H
        have p145 : 0 ≤ (x12_1 : Int) := of_decide_eq_true (by first | (with_reducible assumption) | assumption)
        have q145 : x12_1 < (l1.length : Int) := of_decide_eq_true (by first | (with_reducible assumption) | assumption)
        obtain ⟨ad145, e145, hx145_0, hx145_1, hx145_2, hx145_3⟩ := at_T83 HR1.out x12_1 p145 q145
        cases e145
        replace hx145_0 := (HB.out.cell (World.block_lt_of_cell? w _ hx145_0)).trans hx145_0
        replace hx145_1 := (HB.out.cell (World.block_lt_of_cell? w _ hx145_1)).trans hx145_1
        replace hx145_2 := (HB.out.cell (World.block_lt_of_cell? w _ hx145_2)).trans hx145_2
        replace hx145_3 := (HB.out.cell (World.block_lt_of_cell? w _ hx145_3)).trans hx145_3
        replace p145 := eq_true p145
        replace q145 := eq_true q145
        try go_wp2_with (first | ((with_reducible refine gate_dst (N := 7) rfl ?_); refine box_event ?hg (N := 7) ?hd (cs := #[.int .i64 0, .int .i64 0, .int .i64 0, .int .i64 0]) (t := 83) ?hr ?_; (case hd => rfl); (case hg => rfl); (case hr => first | (go_simp; done) | (go_simp; rfl)); intro gb146 hg w10 hbox hb; have n0_ := Aside0.mk (Kd.R_below (by (with_reducible repeat (first | apply Kd.R_alloc | apply Kd.R_drewN | apply Kd.R_drew)); exact HO_5.out) hb); have n1_ := Aside0.mk (bbe (g := gb144) (o := .cells #[.string a0_0, .slice A0_1 l0_1.length c0_1, .slice A0_2 l0_2.length c0_2] 25 (0, 0)) (by (with_reducible repeat (first | refine bkn ?_ _ | refine bkd ?_ | refine bka ?_ _)); exact BK144.out) hb); have n2_ := Aside0.mk (bsp (by repeat (first | (with_reducible first | exact HB.out | apply bal | apply pbN | apply bd1 | refine bst ?_ GE144.out) | exact HB.out)) hb); have n3_ := Aside0.mk (hbox); have n4_ := Aside0.mk ((by rw [hg]; exact (bsz (by repeat (first | (with_reducible first | exact HB.out | apply bal | apply pbN | apply bd1 | refine bst ?_ GE144.out) | exact HB.out))) : w.heap.size ≤ gb146)); have n5_ := Aside0.mk ((by rw [hg]; exact (bsz (by repeat (first | (with_reducible first | exact HB.out | apply bal | apply pbN | apply bd1 | refine bst ?_ GE144.out) | exact HB.out))) : w.heap.size ≤ gb146)); have n6_ := Aside0.mk ((by rw [hg]; exact Nat.ne_of_lt (blk_lt (g := gb144) (o := .cells #[.string a0_0, .slice A0_1 l0_1.length c0_1, .slice A0_2 l0_2.length c0_2] 25 (0, 0)) (by (with_reducible repeat (first | refine bkn ?_ _ | refine bkd ?_ | refine bka ?_ _)); exact BK144.out)) : gb144 ≠ gb146)); have n7_ := Aside0.mk ((by rw [hg]; exact Nat.ne_of_gt (blk_lt (g := gb144) (o := .cells #[.string a0_0, .slice A0_1 l0_1.length c0_1, .slice A0_2 l0_2.length c0_2] 25 (0, 0)) (by (with_reducible repeat (first | refine bkn ?_ _ | refine bkd ?_ | refine bka ?_ _)); exact BK144.out)) : gb146 ≠ gb144)); clear HO_5; clear BK144; clear HB; have HO_5 := n0_; have BK144 := n1_; have HB := n2_; have BK146 := n3_; have GW146 := n4_; have GE146 := n5_; have NB144_146 := n6_; have NB146_144 := n7_; clear n0_ n1_ n2_ n3_ n4_ n5_ n6_ n7_; clear hb hbox hg; have hnb11 := NB146_144.out; have hnc11 := NB144_146.out; have hcz12_0 : w10.cell? ⟨gb146, 0, none⟩ = some (.int .i64 0) := (bce BK146.out 0).trans rfl; have hcz12_1 : w10.cell? ⟨gb146, 1, none⟩ = some (.int .i64 0) := (bce BK146.out 1).trans rfl; have hcz12_2 : w10.cell? ⟨gb146, 2, none⟩ = some (.int .i64 0) := (bce BK146.out 2).trans rfl; have hcz12_3 : w10.cell? ⟨gb146, 3, none⟩ = some (.int .i64 0) := (bce BK146.out 3).trans rfl; have hfz12_0 := bfz BK146.out 0; have hfz12_1 := bfz BK146.out 1; have hfz12_2 := bfz BK146.out 2; have hfz12_3 := bfz BK146.out 3))
        have n0_ : Aside0 (Kd.R k76 76 ((((w10.setCell ⟨gb146, 0, none⟩ (.int .i64 ((rd_T83 l1 x12_1).f0))).setCell ⟨gb146, 1, none⟩ (.int .i64 ((rd_T83 l1 x12_1).f1))).setCell ⟨gb146, 2, none⟩ (.int .i64 ((rd_T83 l1 x12_1).f2))).setCell ⟨gb146, 3, none⟩ (.int .i64 ((rd_T83 l1 x12_1).f3))) w.heap.size (fun _ => True) u5 x5_1) := ⟨by (with_reducible repeat (first | apply Kd.R_alloc | apply Kd.R_drewN | apply Kd.R_drew)); exact Kd.R_mono (Kd.R_far (p := ⟨gb146, 3, none⟩) (Kd.R_far (p := ⟨gb146, 2, none⟩) (Kd.R_far (p := ⟨gb146, 1, none⟩) (Kd.R_far (p := ⟨gb146, 0, none⟩) (Kd.R_types HO_5.out BK146.out (by decide)) (fun _ hk => hk.2) (.int .i64 ((rd_T83 l1 x12_1).f0))) (fun _ hk => hk.2) (.int .i64 ((rd_T83 l1 x12_1).f1))) (fun _ hk => hk.2) (.int .i64 ((rd_T83 l1 x12_1).f2))) (fun _ hk => hk.2) (.int .i64 ((rd_T83 l1 x12_1).f3))) (fun _ hk => trivial)⟩
        have n1_ : Aside0 (((((w10.setCell ⟨gb146, 0, none⟩ (.int .i64 ((rd_T83 l1 x12_1).f0))).setCell ⟨gb146, 1, none⟩ (.int .i64 ((rd_T83 l1 x12_1).f1))).setCell ⟨gb146, 2, none⟩ (.int .i64 ((rd_T83 l1 x12_1).f2))).setCell ⟨gb146, 3, none⟩ (.int .i64 ((rd_T83 l1 x12_1).f3))).heap[gb144]? = some (.cells #[.string a0_0, .slice A0_1 l0_1.length c0_1, .slice A0_2 l0_2.length c0_2] 25 (0, 0))) := ⟨by (with_reducible repeat (first | refine bkn ?_ _ | refine bkd ?_ | refine bka ?_ _)); refine blk_far ?_ NB144_146.out _; (with_reducible repeat (first | refine bkn ?_ _ | refine bkd ?_ | refine bka ?_ _)); refine blk_far ?_ NB144_146.out _; (with_reducible repeat (first | refine bkn ?_ _ | refine bkd ?_ | refine bka ?_ _)); refine blk_far ?_ NB144_146.out _; (with_reducible repeat (first | refine bkn ?_ _ | refine bkd ?_ | refine bka ?_ _)); refine blk_far ?_ NB144_146.out _; (with_reducible repeat (first | refine bkn ?_ _ | refine bkd ?_ | refine bka ?_ _)); exact BK144.out⟩
        have n2_ : Aside0 (((((w10.setCell ⟨gb146, 0, none⟩ (.int .i64 ((rd_T83 l1 x12_1).f0))).setCell ⟨gb146, 1, none⟩ (.int .i64 ((rd_T83 l1 x12_1).f1))).setCell ⟨gb146, 2, none⟩ (.int .i64 ((rd_T83 l1 x12_1).f2))).setCell ⟨gb146, 3, none⟩ (.int .i64 ((rd_T83 l1 x12_1).f3))).heap[gb146]? = some (.cells #[.int .i64 ((rd_T83 l1 x12_1).f0), .int .i64 ((rd_T83 l1 x12_1).f1), .int .i64 ((rd_T83 l1 x12_1).f2), .int .i64 ((rd_T83 l1 x12_1).f3)] 83 (0, 0))) := ⟨by (with_reducible repeat (first | refine bkn ?_ _ | refine bkd ?_ | refine bka ?_ _)); refine blk_put (cs := #[.int .i64 ((rd_T83 l1 x12_1).f0), .int .i64 ((rd_T83 l1 x12_1).f1), .int .i64 ((rd_T83 l1 x12_1).f2), .int .i64 0]) ?_ 3 _ rfl; (with_reducible repeat (first | refine bkn ?_ _ | refine bkd ?_ | refine bka ?_ _)); refine blk_put (cs := #[.int .i64 ((rd_T83 l1 x12_1).f0), .int .i64 ((rd_T83 l1 x12_1).f1), .int .i64 0, .int .i64 0]) ?_ 2 _ rfl; (with_reducible repeat (first | refine bkn ?_ _ | refine bkd ?_ | refine bka ?_ _)); refine blk_put (cs := #[.int .i64 ((rd_T83 l1 x12_1).f0), .int .i64 0, .int .i64 0, .int .i64 0]) ?_ 1 _ rfl; (with_reducible repeat (first | refine bkn ?_ _ | refine bkd ?_ | refine bka ?_ _)); refine blk_put (cs := #[.int .i64 0, .int .i64 0, .int .i64 0, .int .i64 0]) ?_ 0 _ rfl; (with_reducible repeat (first | refine bkn ?_ _ | refine bkd ?_ | refine bka ?_ _)); exact BK146.out⟩
        have n3_ : Aside0 (Below w.heap.size w ((((w10.setCell ⟨gb146, 0, none⟩ (.int .i64 ((rd_T83 l1 x12_1).f0))).setCell ⟨gb146, 1, none⟩ (.int .i64 ((rd_T83 l1 x12_1).f1))).setCell ⟨gb146, 2, none⟩ (.int .i64 ((rd_T83 l1 x12_1).f2))).setCell ⟨gb146, 3, none⟩ (.int .i64 ((rd_T83 l1 x12_1).f3)))) := ⟨by repeat (first | (with_reducible first | exact HB.out | apply bal | apply pbN | apply bd1 | refine bst ?_ GE144.out | refine bst ?_ GE146.out) | exact HB.out)⟩
        (try clear HO_5);(try clear BK144);(try clear BK146);(try clear HB)
        generalize ((((w10.setCell ⟨gb146, 0, none⟩ (.int .i64 ((rd_T83 l1 x12_1).f0))).setCell ⟨gb146, 1, none⟩ (.int .i64 ((rd_T83 l1 x12_1).f1))).setCell ⟨gb146, 2, none⟩ (.int .i64 ((rd_T83 l1 x12_1).f2))).setCell ⟨gb146, 3, none⟩ (.int .i64 ((rd_T83 l1 x12_1).f3))) = w13 at n0_ n1_ n2_ n3_ ⊢
        have HO_5 := n0_;have BK144 := n1_;have BK146 := n2_;have HB := n3_
        clear n0_ n1_ n2_ n3_
        have n0_ := Aside0.mk (Kd.R_drew HO_5.out)
        have n1_ := Aside0.mk (bkd BK144.out)
        have n2_ := Aside0.mk (bkd BK146.out)
        have n3_ := Aside0.mk (bd1 HB.out)
        clear HO_5 BK144 BK146 HB
        have HO_5 := n0_;have BK144 := n1_;have BK146 := n2_;have HB := n3_
        clear n0_ n1_ n2_ n3_
        refine start_ (n := 13) (S := fun w' => w'.cell? ⟨gb146, 0, none⟩ = some (.int .i64 ((rd_T83 l1 x12_1).f0)) ∧ w'.cell? ⟨gb146, 1, none⟩ = some (.int .i64 ((rd_T83 l1 x12_1).f1)) ∧ w'.cell? ⟨gb146, 2, none⟩ = some (.int .i64 ((rd_T83 l1 x12_1).f2)) ∧ w'.cell? ⟨gb146, 3, none⟩ = some (.int .i64 ((rd_T83 l1 x12_1).f3)) ∧ w'.cell? ⟨gb144, 0, none⟩ = some (.string a0_0) ∧ w'.cell? ⟨gb144, 1, none⟩ = some (.slice A0_1 l0_1.length c0_1) ∧ w'.cell? ⟨gb144, 2, none⟩ = some (.slice A0_2 l0_2.length c0_2)) (ds := []) #[false, false, false, false, false, false, false, false, false, false, false, false, false] (by kernel_rfl) rfl rfl ⟨(bce BK146.out 0).trans rfl, (bce BK146.out 1).trans rfl, (bce BK146.out 2).trans rfl, (bce BK146.out 3).trans rfl, (bce BK144.out 0).trans rfl, (bce BK144.out 1).trans rfl, (bce BK144.out 2).trans rfl⟩ (fun hHeld => ?_); refine with_tabW orders_Of.tab7 orders_Of.bits7 (fun HT_ HW_ => ?_)
        generalize w13.drew = w14 at HO_5 BK144 BK146 HB hHeld ⊢
        refine pure_ (i := 0) (N := some 20) (v := ?_) (a' := ?_) #[true, false, false, false, false, false, false, false, false, false, false, false, false] rfl rfl (any_of HT_.out (by kernel_rfl)) (fun _ _ _ h => h) (Or.inl ⟨by rfl, ?_⟩) ?_ ?_
        rotate_left
        ·intro w'
         go_simp
         with_reducible rfl
        rotate_left
        ·simp only [Act.put, List.setIfInBounds_toArray, List.set_cons_zero, List.set_cons_succ, i64_w, i32_w]
         rfl
        refine pure_ (i := 1) (N := some 21) (v := ?_) (a' := ?_) #[true, true, false, false, false, false, false, false, false, false, false, false, false] rfl rfl (any_of HT_.out (by kernel_rfl)) (fun _ _ _ h => h) (Or.inl ⟨by rfl, ?_⟩) ?_ ?_
        rotate_left
        ·intro w'
         go_simp
         with_reducible rfl
        rotate_left
        ·simp only [Act.put, List.setIfInBounds_toArray, List.set_cons_zero, List.set_cons_succ, i64_w, i32_w]
         rfl
        refine pure_ (i := 3) (N := some 23) (v := ?_) (a' := ?_) #[true, true, false, true, false, false, false, false, false, false, false, false, false] rfl rfl (any_of HT_.out (by kernel_rfl)) (fun _ _ _ h => h) (Or.inl ⟨by rfl, ?_⟩) ?_ ?_
        rotate_left
        ·intro w'
         go_simp
         with_reducible rfl
        rotate_left
        ·simp only [Act.put, List.setIfInBounds_toArray, List.set_cons_zero, List.set_cons_succ, i64_w, i32_w]
         rfl
        refine pure_ (i := 6) (N := some 26) (v := ?_) (a' := ?_) #[true, true, false, true, false, false, true, false, false, false, false, false, false] rfl rfl (any_of HT_.out (by kernel_rfl)) (fun _ _ _ h => h) (Or.inl ⟨by rfl, ?_⟩) ?_ ?_
        rotate_left
        ·intro w'
         go_simp
         with_reducible rfl
        rotate_left
        ·simp only [Act.put, List.setIfInBounds_toArray, List.set_cons_zero, List.set_cons_succ, i64_w, i32_w]
         rfl
        refine take_ (i := 2) (N := some 22) (v := ?_) (a' := ?_) #[true, true, true, true, false, false, true, false, false, false, false, false, false] rfl rfl (take_ofW HT_.out HW_.out (by kernel_rfl)) (fun _ _ _ h => h) (Or.inl ⟨by rfl, ?_⟩) hHeld ?_ ?_
        rotate_left
        ·rintro w' ⟨s0, s1, s2, s3, s4, s5, s6⟩
         go_simp
         with_reducible rfl
        rotate_left
        ·simp only [Act.put, List.setIfInBounds_toArray, List.set_cons_zero, List.set_cons_succ, i64_w, i32_w]
         rfl
        refine take_ (i := 4) (N := some 24) (v := ?_) (a' := ?_) #[true, true, true, true, true, false, true, false, false, false, false, false, false] rfl rfl (take_ofW HT_.out HW_.out (by kernel_rfl)) (fun _ _ _ h => h) (Or.inl ⟨by rfl, ?_⟩) hHeld ?_ ?_
        rotate_left
        ·rintro w' ⟨s0, s1, s2, s3, s4, s5, s6⟩
         go_simp
         with_reducible rfl
        rotate_left
        ·simp only [Act.put, List.setIfInBounds_toArray, List.set_cons_zero, List.set_cons_succ, i64_w, i32_w]
         rfl
        refine take_ (i := 5) (N := some 25) (v := ?_) (a' := ?_) #[true, true, true, true, true, true, true, false, false, false, false, false, false] rfl rfl (take_ofW HT_.out HW_.out (by kernel_rfl)) (fun _ _ _ h => h) (Or.inl ⟨by rfl, ?_⟩) hHeld ?_ ?_
        rotate_left
        ·rintro w' ⟨s0, s1, s2, s3, s4, s5, s6⟩
         go_simp
         with_reducible rfl
        rotate_left
        ·simp only [Act.put, List.setIfInBounds_toArray, List.set_cons_zero, List.set_cons_succ, i64_w, i32_w]
         rfl
        refine take_ (i := 7) (N := some 27) (v := ?_) (a' := ?_) #[true, true, true, true, true, true, true, true, false, false, false, false, false] rfl rfl (take_ofW HT_.out HW_.out (by kernel_rfl)) (fun _ _ _ h => h) (Or.inl ⟨by rfl, ?_⟩) hHeld ?_ ?_
        rotate_left
        ·rintro w' ⟨s0, s1, s2, s3, s4, s5, s6⟩
         go_simp
         with_reducible rfl
        rotate_left
        ·simp only [Act.put, List.setIfInBounds_toArray, List.set_cons_zero, List.set_cons_succ, i64_w, i32_w]
         rfl
        refine one_ (i := 8) (N := some 28) #[true, true, true, true, true, true, true, true, true, false, false, false, false] rfl rfl (one_of HT_.out (by kernel_rfl)) (by decide) (fun K hK => ?_)
        refine goes_ Tryz.func38 (by kernel_rfl) rfl #[.agg #[.string a0_0, .slice A0_1 l0_1.length c0_1, .slice A0_2 l0_2.length c0_2], .int .i64 ((rd_T83 l1 x12_1).f2)] (by rfl) rfl rfl (by (try simp only [List.map_toArray, List.map_cons, List.map_nil]); first | done | rfl | (simp only [List.length_drop, List.length_take]; rfl)) ?_
        with_reducible refine (orders_class.calls a0_0 _ _ l0_1 _ _ l0_2 ((rd_T83 l1 x12_1).f2) t147 _ ?side1 ?side2 ?side3 ?side4 A8.out).mono ?_
        (case side1 => repeat (first | exact (Kd.C_below HR0_1.out HB.out) | (with_reducible refine Kd.C_alloc ?_ _) | (with_reducible refine Kd.C_drewN ?_ _) | (with_reducible refine Kd.C_drew ?_)))
        (case side2 => exact HC0_1.out)
        (case side3 => repeat (first | exact (Kd.C_below HR0_2.out HB.out) | (with_reducible refine Kd.C_alloc ?_ _) | (with_reducible refine Kd.C_drewN ?_ _) | (with_reducible refine Kd.C_drew ?_)))
        (case side4 => exact HC0_2.out)
        rintro e w15 ⟨rfl, hb⟩
        refine ⟨_, rfl, ?_⟩
        have n0_ := Aside0.mk (Kd.R_below (by (with_reducible repeat (first | apply Kd.R_alloc | apply Kd.R_drewN | apply Kd.R_drew)); exact HO_5.out) hb)
        have n1_ := Aside0.mk (bbe (g := gb144) (o := .cells #[.string a0_0, .slice A0_1 l0_1.length c0_1, .slice A0_2 l0_2.length c0_2] 25 (0, 0)) (by (with_reducible repeat (first | refine bkn ?_ _ | refine bkd ?_ | refine bka ?_ _)); exact BK144.out) hb)
        have n2_ := Aside0.mk (bbe (g := gb146) (o := .cells #[.int .i64 ((rd_T83 l1 x12_1).f0), .int .i64 ((rd_T83 l1 x12_1).f1), .int .i64 ((rd_T83 l1 x12_1).f2), .int .i64 ((rd_T83 l1 x12_1).f3)] 83 (0, 0)) (by (with_reducible repeat (first | refine bkn ?_ _ | refine bkd ?_ | refine bka ?_ _)); exact BK146.out) hb)
        have n3_ := Aside0.mk (bsp (by repeat (first | (with_reducible first | exact HB.out | apply bal | apply pbN | apply bd1 | refine bst ?_ GE144.out | refine bst ?_ GE146.out) | exact HB.out)) hb)
        clear HO_5 BK144 BK146 HB
        have HO_5 := n0_;have BK144 := n1_;have BK146 := n2_;have HB := n3_
        clear n0_ n1_ n2_ n3_
        (try clear hb);(try clear hb2);(try clear hk);(try clear hi)
        refine hK.out _ _ ⟨(bce BK146.out 0).trans rfl, (bce BK146.out 1).trans rfl, (bce BK146.out 2).trans rfl, (bce BK146.out 3).trans rfl, (bce BK144.out 0).trans rfl, (bce BK144.out 1).trans rfl, (bce BK144.out 2).trans rfl⟩ (fun hHeld => ?_)
        clear hK K
        refine norm_ (a' := ?_) ?_ ?_
        rotate_left
        ·show Act.put _ (some 28) _ = _
         simp only [Act.put, List.setIfInBounds_toArray, List.set_cons_zero, List.set_cons_succ, i64_w, i32_w]
         rfl
        refine pure_ (i := 9) (N := some 29) (v := ?_) (a' := ?_) #[true, true, true, true, true, true, true, true, true, true, false, false, false] rfl rfl (any_of HT_.out (by kernel_rfl)) (fun _ _ _ h => h) (Or.inl ⟨by rfl, ?_⟩) ?_ ?_
        rotate_left
        ·intro w'
         go_simp
         with_reducible rfl
        rotate_left
        ·simp only [Act.put, List.setIfInBounds_toArray, List.set_cons_zero, List.set_cons_succ, i64_w, i32_w]
         rfl
        refine one_ (i := 10) (N := some 30) #[true, true, true, true, true, true, true, true, true, true, true, false, false] rfl rfl (one_of HT_.out (by kernel_rfl)) (by decide) (fun K hK => ?_)
        refine value_ (w1 := ?_) (v := ?_) (by rfl) rfl ?_ ?_
        rotate_left 2
        ·go_simp
         constructor
         ·rfl
         ·rfl
        refine hK.out _ _ ⟨(bce (bka BK146.out _) 0).trans rfl, (bce (bka BK146.out _) 1).trans rfl, (bce (bka BK146.out _) 2).trans rfl, (bce (bka BK146.out _) 3).trans rfl, (bce (bka BK144.out _) 0).trans rfl, (bce (bka BK144.out _) 1).trans rfl, (bce (bka BK144.out _) 2).trans rfl⟩ (fun hHeld => ?_)
        clear hK K
        refine norm_ (a' := ?_) ?_ ?_
        rotate_left
        ·show Act.put _ (some 30) _ = _
         simp only [Act.put, List.setIfInBounds_toArray, List.set_cons_zero, List.set_cons_succ, i64_w, i32_w]
         rfl
        refine one_ (i := 11) (N := some 31) #[true, true, true, true, true, true, true, true, true, true, true, true, false] rfl rfl (one_of HT_.out (by kernel_rfl)) (by decide) (fun K hK => ?_)
        refine Kd.R_append_step k76 (w0 := w) w.heap.size (by rfl) (.tmp 20) (.tmp 30) 27 76 (.agg #[(.int .i64 0), (.int .i64 0), (.int .i64 0), (.int .i64 0), (.int .u64 0)]) 40 rfl Tryz.underlying27 info76 rfl (by decide) (by omega) u5 x5_1 (⟨1, (rd_T83 l1 x12_1).f3, (rd_T83 l1 x12_1).f2, t147, 0⟩ : S76) [.int .i64 1, .int .i64 ((rd_T83 l1 x12_1).f3), .int .i64 ((rd_T83 l1 x12_1).f2), .int .i64 t147, .int .u64 0] (fun _ => True) (fun _ => False) rfl rfl ?aP (fun _ hk => hk.elim) ?aF ?aO ?aB ?aS ?aL ?_
        (case aP => exact k76_mkM _ _ _ (⟨1, (rd_T83 l1 x12_1).f3, (rd_T83 l1 x12_1).f2, t147, 0⟩ : S76))
        (case aB => exact (by repeat (first | (with_reducible first | exact HB.out | apply bal | apply pbN | apply bd1 | refine bst ?_ GE144.out | refine bst ?_ GE146.out) | exact HB.out)))
        (case aF => exact (fun _ _ => trivial))
        (case aO => exact (by (with_reducible repeat (first | apply Kd.R_alloc | apply Kd.R_drewN | apply Kd.R_drew)); exact HO_5.out))
        (case aS => exact (bsz (by repeat (first | (with_reducible first | exact HB.out | apply bal | apply pbN | apply bd1 | refine bst ?_ GE144.out | refine bst ?_ GE146.out) | exact HB.out))))
        (case aL => have := LMc9.out; omega)
        intro v149 w16 ho hb hg hat
        rw [← Ny148.out] at ho
        have n0_ := Aside0.mk (blk_grown (g := gb144) (o := .cells #[.string a0_0, .slice A0_1 l0_1.length c0_1, .slice A0_2 l0_2.length c0_2] 25 (0, 0)) (by (with_reducible repeat (first | refine bkn ?_ _ | refine bkd ?_ | refine bka ?_ _)); exact BK144.out) hg (Kd.R_ne HO_5.out BK144.out (by decide)))
        have n1_ := Aside0.mk (blk_grown (g := gb146) (o := .cells #[.int .i64 ((rd_T83 l1 x12_1).f0), .int .i64 ((rd_T83 l1 x12_1).f1), .int .i64 ((rd_T83 l1 x12_1).f2), .int .i64 ((rd_T83 l1 x12_1).f3)] 83 (0, 0)) (by (with_reducible repeat (first | refine bkn ?_ _ | refine bkd ?_ | refine bka ?_ _)); exact BK146.out) hg (Kd.R_ne HO_5.out BK146.out (by decide)))
        have n2_ := Aside0.mk (hb)
        have n3_ := Aside0.mk (ho)
        clear BK144 BK146 HB HO_5
        have BK144 := n0_;have BK146 := n1_;have HB := n2_;have HO150 := n3_
        clear n0_ n1_ n2_ n3_
        clear ho hb hg hat
        refine hK.out _ _ ⟨(bce BK146.out 0).trans rfl, (bce BK146.out 1).trans rfl, (bce BK146.out 2).trans rfl, (bce BK146.out 3).trans rfl, (bce BK144.out 0).trans rfl, (bce BK144.out 1).trans rfl, (bce BK144.out 2).trans rfl⟩ (fun hHeld => ?_)
        clear hK K
        refine norm_ (a' := ?_) ?_ ?_
        rotate_left
        ·show Act.put _ (some 31) _ = _
         simp only [Act.put, List.setIfInBounds_toArray, List.set_cons_zero, List.set_cons_succ, i64_w, i32_w]
         rfl
        refine pure_ (i := 12) (N := some 5) (v := ?_) (a' := ?_) #[true, true, true, true, true, true, true, true, true, true, true, true, true] rfl rfl (any_of HT_.out (by kernel_rfl)) (fun _ _ _ h => h) (Or.inl ⟨by rfl, ?_⟩) ?_ ?_
        rotate_left
        ·intro w'
         go_simp
         with_reducible rfl
        rotate_left
        ·simp only [Act.put, List.setIfInBounds_toArray, List.set_cons_zero, List.set_cons_succ, i64_w, i32_w]
         rfl
        refine done_ (done_of HT_.out (by kernel_rfl)) ?_
        try go_wp2
        go_roundg k1
        case measure => have := HK1.out; omega
        case rel => exact ⟨(y148), (wrap64 (x12_1 + 1)), (by first | rfl | (simp; done) | (simp [*]; done)), H', ⟨by have := HK1.out; omega⟩, ⟨by (with_reducible repeat (first | apply Kd.R_alloc | apply Kd.R_drewN | apply Kd.R_drew)); exact HO150.out⟩, ⟨by (with_reducible repeat (first | refine bkn ?_ _ | refine bkd ?_ | refine bka ?_ _)); exact BK144.out⟩, ⟨by repeat (first | (with_reducible first | exact HB.out | apply bal | apply pbN | apply bd1 | refine bst ?_ GE144.out | refine bst ?_ GE146.out) | exact HB.out)⟩⟩
       ·rw [if_neg c9] at H
        exact absurd H (by simp)
      ·rw [if_neg c7] at H
       have c7b0 : (((rd_T83 l1 x12_1).f0) == 2) = false := beq_eq_false_iff_ne.mpr c7
       have c7b1 : (((rd_T83 l1 x12_1).f0) != 2) = true := bne_iff_ne.mpr c7
       by_cases c17 : ((rd_T83 l1 x12_1).f0) = 3
       ·rw [if_pos c17] at H
        have c17b0 : (((rd_T83 l1 x12_1).f0) == 3) = true := beq_iff_eq.mpr c17
        have c17b1 : (((rd_T83 l1 x12_1).f0) != 3) = false := bne_eq_false_iff_eq.mpr c17
        clear c17
        replace H := Option.bind_eq_some_iff.mp H
        obtain ⟨⟨t151, t152, t153⟩, A180, H⟩ := H
        replace H : (if x5_1.length < 3518437208883 then (orders_Of.l0 k1 (x5_1 ++ [(⟨2, (rd_T83 l1 x12_1).f3, (rd_T83 l1 x12_1).f2, 0, t152⟩ : S76)]) l1 (l1.length : Int) (wrap64 (x12_1 + 1)) a0_0 l0_1 l0_2) else (none)) = some r := H
        have A18 := Aside0.mk A180
        clear A180
        by_cases c19 : x5_1.length < 3518437208883
        ·rw [if_pos c19] at H
         have LMc19 := Aside0.mk c19
         clear c19
         obtain ⟨y155, hy155⟩ : ∃ y_ : List (S76), y_ = (x5_1 ++ [(⟨2, (rd_T83 l1 x12_1).f3, (rd_T83 l1 x12_1).f2, 0, t152⟩ : S76)]) := ⟨_, rfl⟩
         replace H : (orders_Of.l0 k1 y155 l1 (l1.length : Int) (wrap64 (x12_1 + 1)) a0_0 l0_1 l0_2) = some r := by first | (rw [hy155]; with_reducible exact H) | (have H2_ := (Option.bind_some _ _).symm.trans H; rw [hy155]; with_reducible exact H2_) | (have H2_ := (Option.bind_some _ _).symm.trans H; with_reducible exact H2_) | with_reducible exact H | (rw [hy155]; exact H) | exact H
         have Ny155 := Aside0.mk hy155
         clear hy155
         have H' := Aside0.mk H
         clear H
         have p145 : 0 ≤ (x12_1 : Int) := of_decide_eq_true (by first | (with_reducible assumption) | assumption)
         have q145 : x12_1 < (l1.length : Int) := of_decide_eq_true (by first | (with_reducible assumption) | assumption)
         obtain ⟨ad145, e145, hx145_0, hx145_1, hx145_2, hx145_3⟩ := at_T83 HR1.out x12_1 p145 q145
         cases e145
         replace hx145_0 := (HB.out.cell (World.block_lt_of_cell? w _ hx145_0)).trans hx145_0
         replace hx145_1 := (HB.out.cell (World.block_lt_of_cell? w _ hx145_1)).trans hx145_1
         replace hx145_2 := (HB.out.cell (World.block_lt_of_cell? w _ hx145_2)).trans hx145_2
         replace hx145_3 := (HB.out.cell (World.block_lt_of_cell? w _ hx145_3)).trans hx145_3
         replace p145 := eq_true p145
         replace q145 := eq_true q145
         go_wp2_with (first | ((with_reducible refine gate_dst (N := 7) rfl ?_); refine box_event ?hg (N := 7) ?hd (cs := #[.int .i64 0, .int .i64 0, .int .i64 0, .int .i64 0]) (t := 83) ?hr ?_; (case hd => rfl); (case hg => rfl); (case hr => first | (go_simp; done) | (go_simp; rfl)); intro gb146 hg w20 hbox hb; have n0_ := Aside0.mk (Kd.R_below (by (with_reducible repeat (first | apply Kd.R_alloc | apply Kd.R_drewN | apply Kd.R_drew)); exact HO_5.out) hb); have n1_ := Aside0.mk (bbe (g := gb144) (o := .cells #[.string a0_0, .slice A0_1 l0_1.length c0_1, .slice A0_2 l0_2.length c0_2] 25 (0, 0)) (by (with_reducible repeat (first | refine bkn ?_ _ | refine bkd ?_ | refine bka ?_ _)); exact BK144.out) hb); have n2_ := Aside0.mk (bsp (by repeat (first | (with_reducible first | exact HB.out | apply bal | apply pbN | apply bd1 | refine bst ?_ GE144.out) | exact HB.out)) hb); have n3_ := Aside0.mk (hbox); have n4_ := Aside0.mk ((by rw [hg]; exact (bsz (by repeat (first | (with_reducible first | exact HB.out | apply bal | apply pbN | apply bd1 | refine bst ?_ GE144.out) | exact HB.out))) : w.heap.size ≤ gb146)); have n5_ := Aside0.mk ((by rw [hg]; exact (bsz (by repeat (first | (with_reducible first | exact HB.out | apply bal | apply pbN | apply bd1 | refine bst ?_ GE144.out) | exact HB.out))) : w.heap.size ≤ gb146)); have n6_ := Aside0.mk ((by rw [hg]; exact Nat.ne_of_lt (blk_lt (g := gb144) (o := .cells #[.string a0_0, .slice A0_1 l0_1.length c0_1, .slice A0_2 l0_2.length c0_2] 25 (0, 0)) (by (with_reducible repeat (first | refine bkn ?_ _ | refine bkd ?_ | refine bka ?_ _)); exact BK144.out)) : gb144 ≠ gb146)); have n7_ := Aside0.mk ((by rw [hg]; exact Nat.ne_of_gt (blk_lt (g := gb144) (o := .cells #[.string a0_0, .slice A0_1 l0_1.length c0_1, .slice A0_2 l0_2.length c0_2] 25 (0, 0)) (by (with_reducible repeat (first | refine bkn ?_ _ | refine bkd ?_ | refine bka ?_ _)); exact BK144.out)) : gb146 ≠ gb144)); clear HO_5; clear BK144; clear HB; have HO_5 := n0_; have BK144 := n1_; have HB := n2_; have BK146 := n3_; have GW146 := n4_; have GE146 := n5_; have NB144_146 := n6_; have NB146_144 := n7_; clear n0_ n1_ n2_ n3_ n4_ n5_ n6_ n7_; clear hb hbox hg; have hnb21 := NB146_144.out; have hnc21 := NB144_146.out; have hcz22_0 : w20.cell? ⟨gb146, 0, none⟩ = some (.int .i64 0) := (bce BK146.out 0).trans rfl; have hcz22_1 : w20.cell? ⟨gb146, 1, none⟩ = some (.int .i64 0) := (bce BK146.out 1).trans rfl; have hcz22_2 : w20.cell? ⟨gb146, 2, none⟩ = some (.int .i64 0) := (bce BK146.out 2).trans rfl; have hcz22_3 : w20.cell? ⟨gb146, 3, none⟩ = some (.int .i64 0) := (bce BK146.out 3).trans rfl; have hfz22_0 := bfz BK146.out 0; have hfz22_1 := bfz BK146.out 1; have hfz22_2 := bfz BK146.out 2; have hfz22_3 := bfz BK146.out 3; have hcz23_0 : w20.cell? ⟨gb144, 0, none⟩ = some (.string a0_0) := (bce BK144.out 0).trans rfl; have hcz23_1 : w20.cell? ⟨gb144, 1, none⟩ = some (.slice A0_1 l0_1.length c0_1) := (bce BK144.out 1).trans rfl; have hcz23_2 : w20.cell? ⟨gb144, 2, none⟩ = some (.slice A0_2 l0_2.length c0_2) := (bce BK144.out 2).trans rfl; have hfz23_0 := bfz BK144.out 0; have hfz23_1 := bfz BK144.out 1; have hfz23_2 := bfz BK144.out 2) | ((with_reducible refine gate_callee (f := 39) rfl ?_); refine goesL_ (some 38) rfl rfl Tryz.func39 (by kernel_rfl) rfl #[.agg #[.string a0_0, .slice A0_1 l0_1.length c0_1, .slice A0_2 l0_2.length c0_2], .int .i64 ((rd_T83 l1 x12_1).f2)] rfl (by (try simp only [List.map_toArray, List.map_cons, List.map_nil]); first | done | rfl | (simp only [List.length_drop, List.length_take]; rfl)) ?_; (with_reducible refine (graph_Time.calls k1 a0_0 _ _ l0_1 _ _ l0_2 ((rd_T83 l1 x12_1).f2) t151 t152 t153 _ ?side1 ?side2 ?side3 ?side4 A18.out).mono ?_); (case side1 => exact Kd.C_below HR0_1.out (by repeat (first | (with_reducible first | exact HB.out | apply bal | apply pbN | apply bd1 | refine bst ?_ GE144.out | refine bst ?_ GE146.out) | exact HB.out))); (case side2 => exact HC0_1.out); (case side3 => exact Kd.C_below HR0_2.out (by repeat (first | (with_reducible first | exact HB.out | apply bal | apply pbN | apply bd1 | refine bst ?_ GE144.out | refine bst ?_ GE146.out) | exact HB.out))); (case side4 => exact HC0_2.out); rintro e w24 ⟨rfl, hb⟩; refine ⟨_, rfl, ?_⟩; have n0_ := Aside0.mk (Kd.R_below (by (with_reducible repeat (first | apply Kd.R_alloc | apply Kd.R_drewN | apply Kd.R_drew)); exact (Kd.R_mono (Kd.R_far (p := ⟨gb146, 3, none⟩) (Kd.R_far (p := ⟨gb146, 2, none⟩) (Kd.R_far (p := ⟨gb146, 1, none⟩) (Kd.R_far (p := ⟨gb146, 0, none⟩) (Kd.R_types HO_5.out BK146.out (by decide)) (fun _ hk => hk.2) (.int .i64 ((rd_T83 l1 x12_1).f0))) (fun _ hk => hk.2) (.int .i64 ((rd_T83 l1 x12_1).f1))) (fun _ hk => hk.2) (.int .i64 ((rd_T83 l1 x12_1).f2))) (fun _ hk => hk.2) (.int .i64 ((rd_T83 l1 x12_1).f3))) (fun _ h_ => h_.1))) hb); have n1_ := Aside0.mk (bbe (g := gb144) (o := .cells #[.string a0_0, .slice A0_1 l0_1.length c0_1, .slice A0_2 l0_2.length c0_2] 25 (0, 0)) (by (with_reducible repeat (first | refine bkn ?_ _ | refine bkd ?_ | refine bka ?_ _)); refine blk_far ?_ NB144_146.out _; (with_reducible repeat (first | refine bkn ?_ _ | refine bkd ?_ | refine bka ?_ _)); refine blk_far ?_ NB144_146.out _; (with_reducible repeat (first | refine bkn ?_ _ | refine bkd ?_ | refine bka ?_ _)); refine blk_far ?_ NB144_146.out _; (with_reducible repeat (first | refine bkn ?_ _ | refine bkd ?_ | refine bka ?_ _)); refine blk_far ?_ NB144_146.out _; (with_reducible repeat (first | refine bkn ?_ _ | refine bkd ?_ | refine bka ?_ _)); exact BK144.out) hb); have n2_ := Aside0.mk (bbe (g := gb146) (o := .cells #[.int .i64 ((rd_T83 l1 x12_1).f0), .int .i64 ((rd_T83 l1 x12_1).f1), .int .i64 ((rd_T83 l1 x12_1).f2), .int .i64 ((rd_T83 l1 x12_1).f3)] 83 (0, 0)) (by (with_reducible repeat (first | refine bkn ?_ _ | refine bkd ?_ | refine bka ?_ _)); refine blk_put (cs := #[.int .i64 ((rd_T83 l1 x12_1).f0), .int .i64 ((rd_T83 l1 x12_1).f1), .int .i64 ((rd_T83 l1 x12_1).f2), .int .i64 0]) ?_ 3 _ rfl; (with_reducible repeat (first | refine bkn ?_ _ | refine bkd ?_ | refine bka ?_ _)); refine blk_put (cs := #[.int .i64 ((rd_T83 l1 x12_1).f0), .int .i64 ((rd_T83 l1 x12_1).f1), .int .i64 0, .int .i64 0]) ?_ 2 _ rfl; (with_reducible repeat (first | refine bkn ?_ _ | refine bkd ?_ | refine bka ?_ _)); refine blk_put (cs := #[.int .i64 ((rd_T83 l1 x12_1).f0), .int .i64 0, .int .i64 0, .int .i64 0]) ?_ 1 _ rfl; (with_reducible repeat (first | refine bkn ?_ _ | refine bkd ?_ | refine bka ?_ _)); refine blk_put (cs := #[.int .i64 0, .int .i64 0, .int .i64 0, .int .i64 0]) ?_ 0 _ rfl; (with_reducible repeat (first | refine bkn ?_ _ | refine bkd ?_ | refine bka ?_ _)); exact BK146.out) hb); have n3_ := Aside0.mk (bsp (by repeat (first | (with_reducible first | exact HB.out | apply bal | apply pbN | apply bd1 | refine bst ?_ GE144.out | refine bst ?_ GE146.out) | exact HB.out)) hb); clear HO_5; clear BK144; clear BK146; clear HB; have HO_5 := n0_; have BK144 := n1_; have BK146 := n2_; have HB := n3_; clear n0_ n1_ n2_ n3_; (try clear hb); (try clear hb2); (try clear hk); (try clear hi)) | ((with_reducible refine gate_dst (N := 8) rfl ?_); refine box_event ?hg (N := 8) ?hd (cs := #[.int .i64 0, .int .u64 0]) (t := 88) ?hr ?_; (case hd => rfl); (case hg => rfl); (case hr => first | (go_simp; done) | (go_simp; rfl)); intro gb154 hg w25 hbox hb; have n0_ := Aside0.mk (Kd.R_below (by (with_reducible repeat (first | apply Kd.R_alloc | apply Kd.R_drewN | apply Kd.R_drew)); exact HO_5.out) hb); have n1_ := Aside0.mk (bbe (g := gb144) (o := .cells #[.string a0_0, .slice A0_1 l0_1.length c0_1, .slice A0_2 l0_2.length c0_2] 25 (0, 0)) (by (with_reducible repeat (first | refine bkn ?_ _ | refine bkd ?_ | refine bka ?_ _)); exact BK144.out) hb); have n2_ := Aside0.mk (bbe (g := gb146) (o := .cells #[.int .i64 ((rd_T83 l1 x12_1).f0), .int .i64 ((rd_T83 l1 x12_1).f1), .int .i64 ((rd_T83 l1 x12_1).f2), .int .i64 ((rd_T83 l1 x12_1).f3)] 83 (0, 0)) (by (with_reducible repeat (first | refine bkn ?_ _ | refine bkd ?_ | refine bka ?_ _)); exact BK146.out) hb); have n3_ := Aside0.mk (bsp (by repeat (first | (with_reducible first | exact HB.out | apply bal | apply pbN | apply bd1 | refine bst ?_ GE144.out | refine bst ?_ GE146.out) | exact HB.out)) hb); have n4_ := Aside0.mk (hbox); have n5_ := Aside0.mk ((by rw [hg]; exact (bsz (by repeat (first | (with_reducible first | exact HB.out | apply bal | apply pbN | apply bd1 | refine bst ?_ GE144.out | refine bst ?_ GE146.out) | exact HB.out))) : w.heap.size ≤ gb154)); have n6_ := Aside0.mk ((by rw [hg]; exact (bsz (by repeat (first | (with_reducible first | exact HB.out | apply bal | apply pbN | apply bd1 | refine bst ?_ GE144.out | refine bst ?_ GE146.out) | exact HB.out))) : w.heap.size ≤ gb154)); have n7_ := Aside0.mk ((by rw [hg]; exact Nat.ne_of_lt (blk_lt (g := gb144) (o := .cells #[.string a0_0, .slice A0_1 l0_1.length c0_1, .slice A0_2 l0_2.length c0_2] 25 (0, 0)) (by (with_reducible repeat (first | refine bkn ?_ _ | refine bkd ?_ | refine bka ?_ _)); exact BK144.out)) : gb144 ≠ gb154)); have n8_ := Aside0.mk ((by rw [hg]; exact Nat.ne_of_gt (blk_lt (g := gb144) (o := .cells #[.string a0_0, .slice A0_1 l0_1.length c0_1, .slice A0_2 l0_2.length c0_2] 25 (0, 0)) (by (with_reducible repeat (first | refine bkn ?_ _ | refine bkd ?_ | refine bka ?_ _)); exact BK144.out)) : gb154 ≠ gb144)); have n9_ := Aside0.mk ((by rw [hg]; exact Nat.ne_of_lt (blk_lt (g := gb146) (o := .cells #[.int .i64 ((rd_T83 l1 x12_1).f0), .int .i64 ((rd_T83 l1 x12_1).f1), .int .i64 ((rd_T83 l1 x12_1).f2), .int .i64 ((rd_T83 l1 x12_1).f3)] 83 (0, 0)) (by (with_reducible repeat (first | refine bkn ?_ _ | refine bkd ?_ | refine bka ?_ _)); exact BK146.out)) : gb146 ≠ gb154)); have n10_ := Aside0.mk ((by rw [hg]; exact Nat.ne_of_gt (blk_lt (g := gb146) (o := .cells #[.int .i64 ((rd_T83 l1 x12_1).f0), .int .i64 ((rd_T83 l1 x12_1).f1), .int .i64 ((rd_T83 l1 x12_1).f2), .int .i64 ((rd_T83 l1 x12_1).f3)] 83 (0, 0)) (by (with_reducible repeat (first | refine bkn ?_ _ | refine bkd ?_ | refine bka ?_ _)); exact BK146.out)) : gb154 ≠ gb146)); clear HO_5; clear BK144; clear BK146; clear HB; have HO_5 := n0_; have BK144 := n1_; have BK146 := n2_; have HB := n3_; have BK154 := n4_; have GW154 := n5_; have GE154 := n6_; have NB144_154 := n7_; have NB154_144 := n8_; have NB146_154 := n9_; have NB154_146 := n10_; clear n0_ n1_ n2_ n3_ n4_ n5_ n6_ n7_ n8_ n9_ n10_; clear hb hbox hg; have hnb26 := NB154_144.out; have hnc26 := NB144_154.out; have hnb27 := NB154_146.out; have hnc27 := NB146_154.out; have hcz28_0 : w25.cell? ⟨gb154, 0, none⟩ = some (.int .i64 0) := (bce BK154.out 0).trans rfl; have hcz28_1 : w25.cell? ⟨gb154, 1, none⟩ = some (.int .u64 0) := (bce BK154.out 1).trans rfl; have hfz28_0 := bfz BK154.out 0; have hfz28_1 := bfz BK154.out 1; have hcz29_0 : w25.cell? ⟨gb146, 0, none⟩ = some (.int .i64 ((rd_T83 l1 x12_1).f0)) := (bce BK146.out 0).trans rfl; have hcz29_1 : w25.cell? ⟨gb146, 1, none⟩ = some (.int .i64 ((rd_T83 l1 x12_1).f1)) := (bce BK146.out 1).trans rfl; have hcz29_2 : w25.cell? ⟨gb146, 2, none⟩ = some (.int .i64 ((rd_T83 l1 x12_1).f2)) := (bce BK146.out 2).trans rfl; have hcz29_3 : w25.cell? ⟨gb146, 3, none⟩ = some (.int .i64 ((rd_T83 l1 x12_1).f3)) := (bce BK146.out 3).trans rfl; have hfz29_0 := bfz BK146.out 0; have hfz29_1 := bfz BK146.out 1; have hfz29_2 := bfz BK146.out 2; have hfz29_3 := bfz BK146.out 3) | ((with_reducible refine gate_builtin (b := .append) (xs := #[.tmp 41, .tmp 49]) rfl ?_); at_builtin; refine Kd.R_append k76 (w0 := w) w.heap.size rfl (.tmp 41) (.tmp 49) 27 76 (.agg #[(.int .i64 0), (.int .i64 0), (.int .i64 0), (.int .i64 0), (.int .u64 0)]) 40 rfl Tryz.underlying27 info76 rfl (by decide) (by omega) u5 x5_1 (⟨2, (rd_T83 l1 x12_1).f3, (rd_T83 l1 x12_1).f2, 0, t152⟩ : S76) [.int .i64 2, .int .i64 ((rd_T83 l1 x12_1).f3), .int .i64 ((rd_T83 l1 x12_1).f2), .int .i64 0, .int .u64 t152] (fun _ => True) (fun _ => False) rfl (by first | (go_simp; done) | (go_simp; rfl)) ?aP (fun _ hk => hk.elim) ?aF ?aO ?aB ?aS ?aL ?_; (case aP => exact k76_mkM _ _ _ (⟨2, (rd_T83 l1 x12_1).f3, (rd_T83 l1 x12_1).f2, 0, t152⟩ : S76)); (case aB => exact (by repeat (first | (with_reducible first | exact HB.out | apply bal | apply pbN | apply bd1 | refine bst ?_ GE144.out | refine bst ?_ GE146.out | refine bst ?_ GE154.out) | exact HB.out))); (case aF => exact (fun _ _ => trivial)); (case aO => exact (by (with_reducible repeat (first | apply Kd.R_alloc | apply Kd.R_drewN | apply Kd.R_drew)); exact Kd.R_mono (Kd.R_far (p := ⟨gb154, 1, none⟩) (Kd.R_far (p := ⟨gb154, 0, none⟩) (Kd.R_types HO_5.out BK154.out (by decide)) (fun _ hk => hk.2) (.int .i64 t151)) (fun _ hk => hk.2) (.int .u64 t152)) (fun _ hk => trivial))); (case aS => exact (bsz (by repeat (first | (with_reducible first | exact HB.out | apply bal | apply pbN | apply bd1 | refine bst ?_ GE144.out | refine bst ?_ GE146.out | refine bst ?_ GE154.out) | exact HB.out)))); (case aL => have := LMc19.out; omega); intro v156 w30 ho hb hg hat; rw [← Ny155.out] at ho; have n0_ := Aside0.mk (blk_grown (g := gb144) (o := .cells #[.string a0_0, .slice A0_1 l0_1.length c0_1, .slice A0_2 l0_2.length c0_2] 25 (0, 0)) (by (with_reducible repeat (first | refine bkn ?_ _ | refine bkd ?_ | refine bka ?_ _)); refine blk_far ?_ NB144_154.out _; (with_reducible repeat (first | refine bkn ?_ _ | refine bkd ?_ | refine bka ?_ _)); refine blk_far ?_ NB144_154.out _; (with_reducible repeat (first | refine bkn ?_ _ | refine bkd ?_ | refine bka ?_ _)); exact BK144.out) hg (Kd.R_ne HO_5.out BK144.out (by decide))); have n1_ := Aside0.mk (blk_grown (g := gb146) (o := .cells #[.int .i64 ((rd_T83 l1 x12_1).f0), .int .i64 ((rd_T83 l1 x12_1).f1), .int .i64 ((rd_T83 l1 x12_1).f2), .int .i64 ((rd_T83 l1 x12_1).f3)] 83 (0, 0)) (by (with_reducible repeat (first | refine bkn ?_ _ | refine bkd ?_ | refine bka ?_ _)); refine blk_far ?_ NB146_154.out _; (with_reducible repeat (first | refine bkn ?_ _ | refine bkd ?_ | refine bka ?_ _)); refine blk_far ?_ NB146_154.out _; (with_reducible repeat (first | refine bkn ?_ _ | refine bkd ?_ | refine bka ?_ _)); exact BK146.out) hg (Kd.R_ne HO_5.out BK146.out (by decide))); have n2_ := Aside0.mk (blk_grown (g := gb154) (o := .cells #[.int .i64 t151, .int .u64 t152] 88 (0, 0)) (by (with_reducible repeat (first | refine bkn ?_ _ | refine bkd ?_ | refine bka ?_ _)); refine blk_put (cs := #[.int .i64 t151, .int .u64 0]) ?_ 1 _ rfl; (with_reducible repeat (first | refine bkn ?_ _ | refine bkd ?_ | refine bka ?_ _)); refine blk_put (cs := #[.int .i64 0, .int .u64 0]) ?_ 0 _ rfl; (with_reducible repeat (first | refine bkn ?_ _ | refine bkd ?_ | refine bka ?_ _)); exact BK154.out) hg (Kd.R_ne HO_5.out BK154.out (by decide))); have n3_ := Aside0.mk (hb); have n4_ := Aside0.mk (ho); clear BK144; clear BK146; clear BK154; clear HB; clear HO_5; have BK144 := n0_; have BK146 := n1_; have BK154 := n2_; have HB := n3_; have HO157 := n4_; clear n0_ n1_ n2_ n3_ n4_; clear ho hb hg hat))
         go_roundg k1
         case measure => have := HK1.out; omega
         case rel => exact ⟨(y155), (wrap64 (x12_1 + 1)), (by first | rfl | (simp; done) | (simp [*]; done)), H', ⟨by have := HK1.out; omega⟩, ⟨by (with_reducible repeat (first | apply Kd.R_alloc | apply Kd.R_drewN | apply Kd.R_drew)); exact HO157.out⟩, ⟨by (with_reducible repeat (first | refine bkn ?_ _ | refine bkd ?_ | refine bka ?_ _)); exact BK144.out⟩, ⟨by repeat (first | (with_reducible first | exact HB.out | apply bal | apply pbN | apply bd1 | refine bst ?_ GE144.out | refine bst ?_ GE146.out | refine bst ?_ GE154.out) | exact HB.out)⟩⟩
        ·rw [if_neg c19] at H
         exact absurd H (by simp)
       ·rw [if_neg c17] at H
        have c17b0 : (((rd_T83 l1 x12_1).f0) == 3) = false := beq_eq_false_iff_ne.mpr c17
        have c17b1 : (((rd_T83 l1 x12_1).f0) != 3) = true := bne_iff_ne.mpr c17
        by_cases c31 : ((rd_T83 l1 x12_1).f0) = 4
        ·rw [if_pos c31] at H
         have c31b0 : (((rd_T83 l1 x12_1).f0) == 4) = true := beq_iff_eq.mpr c31
         have c31b1 : (((rd_T83 l1 x12_1).f0) != 4) = false := bne_eq_false_iff_eq.mpr c31
         clear c31
         by_cases c32 : x5_1.length < 3518437208883
         ·rw [if_pos c32] at H
          have LMc32 := Aside0.mk c32
          clear c32
          obtain ⟨y158, hy158⟩ : ∃ y_ : List (S76), y_ = (x5_1 ++ [(⟨3, (rd_T83 l1 x12_1).f3, 0, 0, 0⟩ : S76)]) := ⟨_, rfl⟩
          replace H : (orders_Of.l0 k1 y158 l1 (l1.length : Int) (wrap64 (x12_1 + 1)) a0_0 l0_1 l0_2) = some r := by first | (rw [hy158]; with_reducible exact H) | (have H2_ := (Option.bind_some _ _).symm.trans H; rw [hy158]; with_reducible exact H2_) | (have H2_ := (Option.bind_some _ _).symm.trans H; with_reducible exact H2_) | with_reducible exact H | (rw [hy158]; exact H) | exact H
          have Ny158 := Aside0.mk hy158
          clear hy158
          have H' := Aside0.mk H
          clear H
          have p145 : 0 ≤ (x12_1 : Int) := of_decide_eq_true (by first | (with_reducible assumption) | assumption)
          have q145 : x12_1 < (l1.length : Int) := of_decide_eq_true (by first | (with_reducible assumption) | assumption)
          obtain ⟨ad145, e145, hx145_0, hx145_1, hx145_2, hx145_3⟩ := at_T83 HR1.out x12_1 p145 q145
          cases e145
          replace hx145_0 := (HB.out.cell (World.block_lt_of_cell? w _ hx145_0)).trans hx145_0
          replace hx145_1 := (HB.out.cell (World.block_lt_of_cell? w _ hx145_1)).trans hx145_1
          replace hx145_2 := (HB.out.cell (World.block_lt_of_cell? w _ hx145_2)).trans hx145_2
          replace hx145_3 := (HB.out.cell (World.block_lt_of_cell? w _ hx145_3)).trans hx145_3
          replace p145 := eq_true p145
          replace q145 := eq_true q145
          go_wp2_with (first | ((with_reducible refine gate_dst (N := 7) rfl ?_); refine box_event ?hg (N := 7) ?hd (cs := #[.int .i64 0, .int .i64 0, .int .i64 0, .int .i64 0]) (t := 83) ?hr ?_; (case hd => rfl); (case hg => rfl); (case hr => first | (go_simp; done) | (go_simp; rfl)); intro gb146 hg w33 hbox hb; have n0_ := Aside0.mk (Kd.R_below (by (with_reducible repeat (first | apply Kd.R_alloc | apply Kd.R_drewN | apply Kd.R_drew)); exact HO_5.out) hb); have n1_ := Aside0.mk (bbe (g := gb144) (o := .cells #[.string a0_0, .slice A0_1 l0_1.length c0_1, .slice A0_2 l0_2.length c0_2] 25 (0, 0)) (by (with_reducible repeat (first | refine bkn ?_ _ | refine bkd ?_ | refine bka ?_ _)); exact BK144.out) hb); have n2_ := Aside0.mk (bsp (by repeat (first | (with_reducible first | exact HB.out | apply bal | apply pbN | apply bd1 | refine bst ?_ GE144.out) | exact HB.out)) hb); have n3_ := Aside0.mk (hbox); have n4_ := Aside0.mk ((by rw [hg]; exact (bsz (by repeat (first | (with_reducible first | exact HB.out | apply bal | apply pbN | apply bd1 | refine bst ?_ GE144.out) | exact HB.out))) : w.heap.size ≤ gb146)); have n5_ := Aside0.mk ((by rw [hg]; exact (bsz (by repeat (first | (with_reducible first | exact HB.out | apply bal | apply pbN | apply bd1 | refine bst ?_ GE144.out) | exact HB.out))) : w.heap.size ≤ gb146)); have n6_ := Aside0.mk ((by rw [hg]; exact Nat.ne_of_lt (blk_lt (g := gb144) (o := .cells #[.string a0_0, .slice A0_1 l0_1.length c0_1, .slice A0_2 l0_2.length c0_2] 25 (0, 0)) (by (with_reducible repeat (first | refine bkn ?_ _ | refine bkd ?_ | refine bka ?_ _)); exact BK144.out)) : gb144 ≠ gb146)); have n7_ := Aside0.mk ((by rw [hg]; exact Nat.ne_of_gt (blk_lt (g := gb144) (o := .cells #[.string a0_0, .slice A0_1 l0_1.length c0_1, .slice A0_2 l0_2.length c0_2] 25 (0, 0)) (by (with_reducible repeat (first | refine bkn ?_ _ | refine bkd ?_ | refine bka ?_ _)); exact BK144.out)) : gb146 ≠ gb144)); clear HO_5; clear BK144; clear HB; have HO_5 := n0_; have BK144 := n1_; have HB := n2_; have BK146 := n3_; have GW146 := n4_; have GE146 := n5_; have NB144_146 := n6_; have NB146_144 := n7_; clear n0_ n1_ n2_ n3_ n4_ n5_ n6_ n7_; clear hb hbox hg; have hnb34 := NB146_144.out; have hnc34 := NB144_146.out; have hcz35_0 : w33.cell? ⟨gb146, 0, none⟩ = some (.int .i64 0) := (bce BK146.out 0).trans rfl; have hcz35_1 : w33.cell? ⟨gb146, 1, none⟩ = some (.int .i64 0) := (bce BK146.out 1).trans rfl; have hcz35_2 : w33.cell? ⟨gb146, 2, none⟩ = some (.int .i64 0) := (bce BK146.out 2).trans rfl; have hcz35_3 : w33.cell? ⟨gb146, 3, none⟩ = some (.int .i64 0) := (bce BK146.out 3).trans rfl; have hfz35_0 := bfz BK146.out 0; have hfz35_1 := bfz BK146.out 1; have hfz35_2 := bfz BK146.out 2; have hfz35_3 := bfz BK146.out 3) | ((with_reducible refine gate_builtin (b := .append) (xs := #[.tmp 53, .tmp 57]) rfl ?_); at_builtin; refine Kd.R_append k76 (w0 := w) w.heap.size rfl (.tmp 53) (.tmp 57) 27 76 (.agg #[(.int .i64 0), (.int .i64 0), (.int .i64 0), (.int .i64 0), (.int .u64 0)]) 40 rfl Tryz.underlying27 info76 rfl (by decide) (by omega) u5 x5_1 (⟨3, (rd_T83 l1 x12_1).f3, 0, 0, 0⟩ : S76) [.int .i64 3, .int .i64 ((rd_T83 l1 x12_1).f3), .int .i64 0, .int .i64 0, .int .u64 0] (fun _ => True) (fun _ => False) rfl (by first | (go_simp; done) | (go_simp; rfl)) ?aP (fun _ hk => hk.elim) ?aF ?aO ?aB ?aS ?aL ?_; (case aP => exact k76_mkM _ _ _ (⟨3, (rd_T83 l1 x12_1).f3, 0, 0, 0⟩ : S76)); (case aB => exact (by repeat (first | (with_reducible first | exact HB.out | apply bal | apply pbN | apply bd1 | refine bst ?_ GE144.out | refine bst ?_ GE146.out) | exact HB.out))); (case aF => exact (fun _ _ => trivial)); (case aO => exact (by (with_reducible repeat (first | apply Kd.R_alloc | apply Kd.R_drewN | apply Kd.R_drew)); exact Kd.R_mono (Kd.R_far (p := ⟨gb146, 3, none⟩) (Kd.R_far (p := ⟨gb146, 2, none⟩) (Kd.R_far (p := ⟨gb146, 1, none⟩) (Kd.R_far (p := ⟨gb146, 0, none⟩) (Kd.R_types HO_5.out BK146.out (by decide)) (fun _ hk => hk.2) (.int .i64 ((rd_T83 l1 x12_1).f0))) (fun _ hk => hk.2) (.int .i64 ((rd_T83 l1 x12_1).f1))) (fun _ hk => hk.2) (.int .i64 ((rd_T83 l1 x12_1).f2))) (fun _ hk => hk.2) (.int .i64 ((rd_T83 l1 x12_1).f3))) (fun _ hk => trivial))); (case aS => exact (bsz (by repeat (first | (with_reducible first | exact HB.out | apply bal | apply pbN | apply bd1 | refine bst ?_ GE144.out | refine bst ?_ GE146.out) | exact HB.out)))); (case aL => have := LMc32.out; omega); intro v159 w36 ho hb hg hat; rw [← Ny158.out] at ho; have n0_ := Aside0.mk (blk_grown (g := gb144) (o := .cells #[.string a0_0, .slice A0_1 l0_1.length c0_1, .slice A0_2 l0_2.length c0_2] 25 (0, 0)) (by (with_reducible repeat (first | refine bkn ?_ _ | refine bkd ?_ | refine bka ?_ _)); refine blk_far ?_ NB144_146.out _; (with_reducible repeat (first | refine bkn ?_ _ | refine bkd ?_ | refine bka ?_ _)); refine blk_far ?_ NB144_146.out _; (with_reducible repeat (first | refine bkn ?_ _ | refine bkd ?_ | refine bka ?_ _)); refine blk_far ?_ NB144_146.out _; (with_reducible repeat (first | refine bkn ?_ _ | refine bkd ?_ | refine bka ?_ _)); refine blk_far ?_ NB144_146.out _; (with_reducible repeat (first | refine bkn ?_ _ | refine bkd ?_ | refine bka ?_ _)); exact BK144.out) hg (Kd.R_ne HO_5.out BK144.out (by decide))); have n1_ := Aside0.mk (blk_grown (g := gb146) (o := .cells #[.int .i64 ((rd_T83 l1 x12_1).f0), .int .i64 ((rd_T83 l1 x12_1).f1), .int .i64 ((rd_T83 l1 x12_1).f2), .int .i64 ((rd_T83 l1 x12_1).f3)] 83 (0, 0)) (by (with_reducible repeat (first | refine bkn ?_ _ | refine bkd ?_ | refine bka ?_ _)); refine blk_put (cs := #[.int .i64 ((rd_T83 l1 x12_1).f0), .int .i64 ((rd_T83 l1 x12_1).f1), .int .i64 ((rd_T83 l1 x12_1).f2), .int .i64 0]) ?_ 3 _ rfl; (with_reducible repeat (first | refine bkn ?_ _ | refine bkd ?_ | refine bka ?_ _)); refine blk_put (cs := #[.int .i64 ((rd_T83 l1 x12_1).f0), .int .i64 ((rd_T83 l1 x12_1).f1), .int .i64 0, .int .i64 0]) ?_ 2 _ rfl; (with_reducible repeat (first | refine bkn ?_ _ | refine bkd ?_ | refine bka ?_ _)); refine blk_put (cs := #[.int .i64 ((rd_T83 l1 x12_1).f0), .int .i64 0, .int .i64 0, .int .i64 0]) ?_ 1 _ rfl; (with_reducible repeat (first | refine bkn ?_ _ | refine bkd ?_ | refine bka ?_ _)); refine blk_put (cs := #[.int .i64 0, .int .i64 0, .int .i64 0, .int .i64 0]) ?_ 0 _ rfl; (with_reducible repeat (first | refine bkn ?_ _ | refine bkd ?_ | refine bka ?_ _)); exact BK146.out) hg (Kd.R_ne HO_5.out BK146.out (by decide))); have n2_ := Aside0.mk (hb); have n3_ := Aside0.mk (ho); clear BK144; clear BK146; clear HB; clear HO_5; have BK144 := n0_; have BK146 := n1_; have HB := n2_; have HO160 := n3_; clear n0_ n1_ n2_ n3_; clear ho hb hg hat))
          go_roundg k1
          case measure => have := HK1.out; omega
          case rel => exact ⟨(y158), (wrap64 (x12_1 + 1)), (by first | rfl | (simp; done) | (simp [*]; done)), H', ⟨by have := HK1.out; omega⟩, ⟨by (with_reducible repeat (first | apply Kd.R_alloc | apply Kd.R_drewN | apply Kd.R_drew)); exact HO160.out⟩, ⟨by (with_reducible repeat (first | refine bkn ?_ _ | refine bkd ?_ | refine bka ?_ _)); exact BK144.out⟩, ⟨by repeat (first | (with_reducible first | exact HB.out | apply bal | apply pbN | apply bd1 | refine bst ?_ GE144.out | refine bst ?_ GE146.out) | exact HB.out)⟩⟩
         ·rw [if_neg c32] at H
          exact absurd H (by simp)
        ·rw [if_neg c31] at H
         have c31b0 : (((rd_T83 l1 x12_1).f0) == 4) = false := beq_eq_false_iff_ne.mpr c31
         have c31b1 : (((rd_T83 l1 x12_1).f0) != 4) = true := bne_iff_ne.mpr c31
         have H' := Aside0.mk H
         clear H
         have p145 : 0 ≤ (x12_1 : Int) := of_decide_eq_true (by first | (with_reducible assumption) | assumption)
         have q145 : x12_1 < (l1.length : Int) := of_decide_eq_true (by first | (with_reducible assumption) | assumption)
         obtain ⟨ad145, e145, hx145_0, hx145_1, hx145_2, hx145_3⟩ := at_T83 HR1.out x12_1 p145 q145
         cases e145
         replace hx145_0 := (HB.out.cell (World.block_lt_of_cell? w _ hx145_0)).trans hx145_0
         replace hx145_1 := (HB.out.cell (World.block_lt_of_cell? w _ hx145_1)).trans hx145_1
         replace hx145_2 := (HB.out.cell (World.block_lt_of_cell? w _ hx145_2)).trans hx145_2
         replace hx145_3 := (HB.out.cell (World.block_lt_of_cell? w _ hx145_3)).trans hx145_3
         replace p145 := eq_true p145
         replace q145 := eq_true q145
         go_wp2_with (first | ((with_reducible refine gate_dst (N := 7) rfl ?_); refine box_event ?hg (N := 7) ?hd (cs := #[.int .i64 0, .int .i64 0, .int .i64 0, .int .i64 0]) (t := 83) ?hr ?_; (case hd => rfl); (case hg => rfl); (case hr => first | (go_simp; done) | (go_simp; rfl)); intro gb146 hg w37 hbox hb; have n0_ := Aside0.mk (Kd.R_below (by (with_reducible repeat (first | apply Kd.R_alloc | apply Kd.R_drewN | apply Kd.R_drew)); exact HO_5.out) hb); have n1_ := Aside0.mk (bbe (g := gb144) (o := .cells #[.string a0_0, .slice A0_1 l0_1.length c0_1, .slice A0_2 l0_2.length c0_2] 25 (0, 0)) (by (with_reducible repeat (first | refine bkn ?_ _ | refine bkd ?_ | refine bka ?_ _)); exact BK144.out) hb); have n2_ := Aside0.mk (bsp (by repeat (first | (with_reducible first | exact HB.out | apply bal | apply pbN | apply bd1 | refine bst ?_ GE144.out) | exact HB.out)) hb); have n3_ := Aside0.mk (hbox); have n4_ := Aside0.mk ((by rw [hg]; exact (bsz (by repeat (first | (with_reducible first | exact HB.out | apply bal | apply pbN | apply bd1 | refine bst ?_ GE144.out) | exact HB.out))) : w.heap.size ≤ gb146)); have n5_ := Aside0.mk ((by rw [hg]; exact (bsz (by repeat (first | (with_reducible first | exact HB.out | apply bal | apply pbN | apply bd1 | refine bst ?_ GE144.out) | exact HB.out))) : w.heap.size ≤ gb146)); have n6_ := Aside0.mk ((by rw [hg]; exact Nat.ne_of_lt (blk_lt (g := gb144) (o := .cells #[.string a0_0, .slice A0_1 l0_1.length c0_1, .slice A0_2 l0_2.length c0_2] 25 (0, 0)) (by (with_reducible repeat (first | refine bkn ?_ _ | refine bkd ?_ | refine bka ?_ _)); exact BK144.out)) : gb144 ≠ gb146)); have n7_ := Aside0.mk ((by rw [hg]; exact Nat.ne_of_gt (blk_lt (g := gb144) (o := .cells #[.string a0_0, .slice A0_1 l0_1.length c0_1, .slice A0_2 l0_2.length c0_2] 25 (0, 0)) (by (with_reducible repeat (first | refine bkn ?_ _ | refine bkd ?_ | refine bka ?_ _)); exact BK144.out)) : gb146 ≠ gb144)); clear HO_5; clear BK144; clear HB; have HO_5 := n0_; have BK144 := n1_; have HB := n2_; have BK146 := n3_; have GW146 := n4_; have GE146 := n5_; have NB144_146 := n6_; have NB146_144 := n7_; clear n0_ n1_ n2_ n3_ n4_ n5_ n6_ n7_; clear hb hbox hg; have hnb38 := NB146_144.out; have hnc38 := NB144_146.out; have hcz39_0 : w37.cell? ⟨gb146, 0, none⟩ = some (.int .i64 0) := (bce BK146.out 0).trans rfl; have hcz39_1 : w37.cell? ⟨gb146, 1, none⟩ = some (.int .i64 0) := (bce BK146.out 1).trans rfl; have hcz39_2 : w37.cell? ⟨gb146, 2, none⟩ = some (.int .i64 0) := (bce BK146.out 2).trans rfl; have hcz39_3 : w37.cell? ⟨gb146, 3, none⟩ = some (.int .i64 0) := (bce BK146.out 3).trans rfl; have hfz39_0 := bfz BK146.out 0; have hfz39_1 := bfz BK146.out 1; have hfz39_2 := bfz BK146.out 2; have hfz39_3 := bfz BK146.out 3))
         go_roundg k1
         case measure => have := HK1.out; omega
         case rel => exact ⟨(x5_1), (wrap64 (x12_1 + 1)), (by first | rfl | (simp; done) | (simp [*]; done)), H', ⟨by have := HK1.out; omega⟩, ⟨by (with_reducible repeat (first | apply Kd.R_alloc | apply Kd.R_drewN | apply Kd.R_drew)); exact Kd.R_mono (Kd.R_far (p := ⟨gb146, 3, none⟩) (Kd.R_far (p := ⟨gb146, 2, none⟩) (Kd.R_far (p := ⟨gb146, 1, none⟩) (Kd.R_far (p := ⟨gb146, 0, none⟩) (Kd.R_types HO_5.out BK146.out (by decide)) (fun _ hk => hk.2) (.int .i64 ((rd_T83 l1 x12_1).f0))) (fun _ hk => hk.2) (.int .i64 ((rd_T83 l1 x12_1).f1))) (fun _ hk => hk.2) (.int .i64 ((rd_T83 l1 x12_1).f2))) (fun _ hk => hk.2) (.int .i64 ((rd_T83 l1 x12_1).f3))) (fun _ hk => trivial)⟩, ⟨by (with_reducible repeat (first | refine bkn ?_ _ | refine bkd ?_ | refine bka ?_ _)); refine blk_far ?_ NB144_146.out _; (with_reducible repeat (first | refine bkn ?_ _ | refine bkd ?_ | refine bka ?_ _)); refine blk_far ?_ NB144_146.out _; (with_reducible repeat (first | refine bkn ?_ _ | refine bkd ?_ | refine bka ?_ _)); refine blk_far ?_ NB144_146.out _; (with_reducible repeat (first | refine bkn ?_ _ | refine bkd ?_ | refine bka ?_ _)); refine blk_far ?_ NB144_146.out _; (with_reducible repeat (first | refine bkn ?_ _ | refine bkd ?_ | refine bka ?_ _)); exact BK144.out⟩, ⟨by repeat (first | (with_reducible first | exact HB.out | apply bal | apply pbN | apply bd1 | refine bst ?_ GE144.out | refine bst ?_ GE146.out) | exact HB.out)⟩⟩
     ·rw [if_neg c6] at H
      exact absurd H (by simp)
    ·rw [if_neg c5] at H
     exact absurd H (by simp)
   ·rw [if_neg c4] at H
    have c4b0 : decide (x12_1 < (l1.length : Int)) = false := decide_eq_false c4
    clear c4
    obtain rfl := Option.some.inj H
    go_wp2
    go_ret
    exact ⟨_, by first | rfl | (simp [errW_none, errW_some] <;> rfl) | (simp [*, errW_none, errW_some] <;> rfl), by (with_reducible repeat (first | apply Kd.R_alloc | apply Kd.R_drewN | apply Kd.R_drew)); exact HO_5.out, by repeat (first | (with_reducible first | exact HB.out | apply bal | apply pbN | apply bd1 | refine bst ?_ GE144.out) | exact HB.out)⟩

end Go.Proofs.YtdfkbiffdcfnpaaGreatDoor.H
/- DeleteFunc on a slice of orders, also on nil. -/
namespace Go.Proofs.YtdfkbiffdcfnpaaGreatDoor.H
open Go.RowKit Go.HK Go.Lib Go.WideShapes Go.ChangeShapes Go.Proofs.YtdfkbiffdcfnpaaGreatDoorW.PrintWords Go.Proofs.YtdfkbiffdcfnpaaGreatDoorW.PrintLast Go.Proofs.YtdfkbiffdcfnpaaGreatDoorW.PrintMore
set_option linter.unusedVariables false
set_option linter.unusedSimpArgs false
set_option maxRecDepth 100000 in
set_option maxHeartbeats 4000000 in
theorem index_nil {w : World} {q : Nat} : Calls Tryz.prog 120 #[.slice none 0 0, .func (.func 72) #[] #[.pointer (some ⟨q, 0, none⟩)]] w fun e w' => e = .returned (.int .i64 (-1)) ∧ w' = w := by
  go_enter Tryz.func120, Tryz.ntmps120
  go_wp2
  refine wp_loop_rounds 1 ?_
  rw [rounds_succ]
  go_wp2
  go_ret
  exact ⟨rfl, rfl⟩
set_option maxRecDepth 100000 in
set_option maxHeartbeats 4000000 in
theorem delete_nil {w : World} {q : Nat} : Calls Tryz.prog 71 #[.slice none 0 0, .func (.func 72) #[] #[.pointer (some ⟨q, 0, none⟩)]] w fun e w' => e = .returned (.slice none 0 0) ∧ w' = w := by
  go_enter Tryz.func71, Tryz.ntmps71
  go_wp2_with (go_at_call 120; refine index_nil.mono ?_; rintro e w1 ⟨rfl, rfl⟩)
  go_ret
  exact ⟨rfl, rfl⟩
theorem odel_calls {w : World} {q base : Nat} {v : Value} {l : List O5} {tok : Int} (HQ : w.cell? ⟨q, 1, none⟩ = some (.int .i64 tok)) (R : RowQ w base v l) (hq : ∀ k, v.ownBlock = some k → q ≠ k) (hl : l.length ≤ 1000) :
    Calls Tryz.prog 71 #[v, .func (.func 72) #[] #[.pointer (some ⟨q, 0, none⟩)]] w fun e w' => ∃ r, e = .returned r ∧ RowQ w' base r (l.filter (stays tok)) ∧ w.grownBy w' v.ownBlock := by
  rcases R.fn with ⟨rfl, rfl⟩ | ⟨g, cap, rfl, hB, hc, hm, hF, hL⟩
  · refine delete_nil.mono ?_
    rintro e w' ⟨rfl, rfl⟩
    exact ⟨_, rfl, R, ⟨rfl, rfl, rfl, Nat.le_refl _, fun _ _ _ => rfl⟩⟩
  · refine (delete_calls HQ hF (hq g rfl) (by omega) hc).mono ?_
    rintro e w' ⟨i, h, rfl, hi, hr, hg, hh⟩
    refine ⟨_, rfl, ?_, hg⟩
    rw [hL] at hh
    rw [← hh]
    exact RowQ.mk' hr hB (by omega) hm
end Go.Proofs.YtdfkbiffdcfnpaaGreatDoor.H
/- kept: rounds of its loop. -/
namespace Go.Proofs.YtdfkbiffdcfnpaaGreatDoor.H
open Go.RowKit Go.HK Go.Lib Go.WideShapes Go.ChangeShapes Go.Proofs.YtdfkbiffdcfnpaaGreatDoorW.PrintWords Go.Proofs.YtdfkbiffdcfnpaaGreatDoorW.PrintLast Go.Proofs.YtdfkbiffdcfnpaaGreatDoorW.PrintMore
set_option linter.unusedVariables false
set_option linter.unusedSimpArgs false
theorem kept_body {c0 c1 c2 c3 body : Code} {z0 : Nat}  {c0' c1' c2' c3' body' : Code} {z0' : Nat}  (h : Tryz.f42.body = some (.seq c0 (.seq c1 (.seq (.seq c2 (.block z0 (.loop body))) c3)))) (h' : Tryz.f42.body = some (.seq c0' (.seq c1' (.seq (.seq c2' (.block z0' (.loop body'))) c3')))) : body' = body := by
  rw [h] at h'
  simp only [Option.some.injEq, Code.seq.injEq, Code.cond.injEq, Code.block.injEq, Code.loop.injEq] at h'
  simp only [h']
set_option maxRecDepth 100000 in
set_option maxHeartbeats 4000000 in
theorem kept_add {w0 w : World} {a : Addr} {n cap i : Nat} {kd : Int} {x : O5} {v : Value} {out : List O5} {Q : Exit → Act → World → Prop} {N : Nat} {c0 c1 c2 c3 body : Code} {z0 : Nat}  {x2 x3 x6 x7 x11 x12 x13 x14 x15 x16 x17 x18 x19 x20 x21 x22 x23 x24 x25 x26 x27 x28 x29 : Value}
    (hB : Tryz.f42.body = some (.seq c0 (.seq c1 (.seq (.seq c2 (.block z0 (.loop body))) c3)))) (HX : Aside0 (∀ r, r < 5 → w.cell? (a.add (i * 5 + r)) = (c5 x)[r]?)) (HR : Aside0 (RowQ w w0.heap.size v out)) (HB : Aside0 (Below w0.heap.size w0 w)) (hi : i < n) (hn : n ≤ 100) (ho : out.length ≤ 100) (hc : x.1 = kd)
    (cont : ∀ (w' : World) (v' : Value) (y2 y3 y6 y7 y11 y12 y13 y14 y15 y16 y17 y18 y19 y20 y21 y22 y23 y24 y25 y26 y27 y28 y29 : Value), RowQ w' w0.heap.size v' (out ++ [x]) → Below w0.heap.size w0 w' → Code.rounds Tryz.prog body Q N ⟨#[.slice (some a) n cap, .int .i64 kd, y2, y3, .slice none 0 0, v', y6, y7, .slice (some a) n cap, .int .i64 n, .int .i64 (i + 1), y11, y12, y13, y14, y15, y16, y17, y18, y19, y20, y21, y22, y23, y24, y25, y26, y27, y28, y29], []⟩ w') :
    Code.rounds Tryz.prog body Q (N + 1) ⟨#[.slice (some a) n cap, .int .i64 kd, x2, x3, .slice none 0 0, v, x6, x7, .slice (some a) n cap, .int .i64 n, .int .i64 i, x11, x12, x13, x14, x15, x16, x17, x18, x19, x20, x21, x22, x23, x24, x25, x26, x27, x28, x29], []⟩ w := by
  have hbody := kept_body rfl hB
  clear hB
  subst hbody
  have hcont := Aside0.mk cont
  clear cont
  obtain ⟨k', tok, b, c, d, hx⟩ : ∃ k' tok b c d, x = (k', tok, b, c, d) := ⟨_, _, _, _, _, rfl⟩
  subst hx
  have IJ := Aside0.mk (fun (v : World) => arg_index (w := v) (a := a) (cap := cap) hi)
  have LD := Aside0.mk (show (Instr.loadAt 76 (.pointer (some (a.add (i * 5))))).run Tryz.prog w = .ok (ov k' tok b c d) w from arg_load HX.out)
  have BA := Aside0.mk (HB.out.trans (((Below.refl w.heap.size w).alloc (Nat.le_refl _) (.cells (ocs k' tok b c d) 76)).mono HB.out.size))
  have XA := Aside0.mk (heap_alloc_last w (.cells (ocs k' tok b c d) 76))
  have RA := Aside0.mk (HR.out.keep ((Below.refl w.heap.size w).alloc (Nat.le_refl _) (.cells (ocs k' tok b c d) 76)))
  have DD : (k' == kd) = true := by simpa using hc
  have B2 := BA.out.trans (((Below.refl _ _).alloc (Nat.le_refl _) (.cells (ocs k' tok b c d) 76)).mono BA.out.size)
  have R2 := RA.out.keep ((Below.refl _ _).alloc (Nat.le_refl _) (.cells (ocs k' tok b c d) 76))
  obtain ⟨v', w3, m1, m2, m3⟩ := omore (w := ((w.alloc (.cells (ocs k' tok b c d) 76)).alloc (.cells (ocs k' tok b c d) 76))) (x := (k', tok, b, c, d)) (gx := (w.alloc (.cells (ocs k' tok b c d) 76)).heap.size) (heap_alloc_last (w.alloc (.cells (ocs k' tok b c d) 76)) _) R2 B2.size (by omega)
  have B3 := Aside0.mk (B2.grown m3 B2.size (fun k e => R2.own k e))
  have R3 := Aside0.mk m2
  have M1 := Aside0.mk (show (Builtin.append_ #[27, 27] 27 #[v, .slice (some ⟨w.heap.size + 1, 0, none⟩) 1 1]).run Tryz.prog ((w.alloc (.cells (ocs k' tok b c d) 76)).alloc (.cells (ocs k' tok b c d) 76)) = .ok v' w3 from by rw [World.size_alloc] at m1; exact m1)
  clear m1 m2 m3 B2 R2 hc
  rw [rounds_succ]
  go_wp2_with (first
    | (refine Great.wpList_runTo rfl (some 22) rfl v' w3 (exec_append rfl M1.out) ?_)
    | (refine Great.wpList_readTo rfl (some 12) rfl (.pointer (some (a.add (i * 5)))) (exec_indexAddr rfl (IJ.out _)) ?_)
    | (refine Great.wpList_readTo rfl (some 13) rfl (ov k' tok b c d) (exec_load rfl LD.out) ?_))
  exact hcont.out _ _ _ _ _ _ _ _ _ _ _ _ _ _ _ _ _ _ _ _ _ _ _ _ _ R3.out B3.out
set_option maxRecDepth 100000 in
set_option maxHeartbeats 4000000 in
theorem kept_away {w0 w : World} {a : Addr} {n cap i : Nat} {kd : Int} {x : O5} {v : Value} {out : List O5} {Q : Exit → Act → World → Prop} {N : Nat} {c0 c1 c2 c3 body : Code} {z0 : Nat}  {x2 x3 x6 x7 x11 x12 x13 x14 x15 x16 x17 x18 x19 x20 x21 x22 x23 x24 x25 x26 x27 x28 x29 : Value}
    (hB : Tryz.f42.body = some (.seq c0 (.seq c1 (.seq (.seq c2 (.block z0 (.loop body))) c3)))) (HX : Aside0 (∀ r, r < 5 → w.cell? (a.add (i * 5 + r)) = (c5 x)[r]?)) (HR : Aside0 (RowQ w w0.heap.size v out)) (HB : Aside0 (Below w0.heap.size w0 w)) (hi : i < n) (hn : n ≤ 100) (ho : out.length ≤ 100) (hc : x.1 ≠ kd) (h3 : x.1 = 3)
    (cont : ∀ (w' : World) (v' : Value) (y2 y3 y6 y7 y11 y12 y13 y14 y15 y16 y17 y18 y19 y20 y21 y22 y23 y24 y25 y26 y27 y28 y29 : Value), RowQ w' w0.heap.size v' (out.filter (stays x.2.1)) → Below w0.heap.size w0 w' → Code.rounds Tryz.prog body Q N ⟨#[.slice (some a) n cap, .int .i64 kd, y2, y3, .slice none 0 0, v', y6, y7, .slice (some a) n cap, .int .i64 n, .int .i64 (i + 1), y11, y12, y13, y14, y15, y16, y17, y18, y19, y20, y21, y22, y23, y24, y25, y26, y27, y28, y29], []⟩ w') :
    Code.rounds Tryz.prog body Q (N + 1) ⟨#[.slice (some a) n cap, .int .i64 kd, x2, x3, .slice none 0 0, v, x6, x7, .slice (some a) n cap, .int .i64 n, .int .i64 i, x11, x12, x13, x14, x15, x16, x17, x18, x19, x20, x21, x22, x23, x24, x25, x26, x27, x28, x29], []⟩ w := by
  have hbody := kept_body rfl hB
  clear hB
  subst hbody
  have hcont := Aside0.mk cont
  clear cont
  obtain ⟨k', tok, b, c, d, hx⟩ : ∃ k' tok b c d, x = (k', tok, b, c, d) := ⟨_, _, _, _, _, rfl⟩
  subst hx
  have IJ := Aside0.mk (fun (v : World) => arg_index (w := v) (a := a) (cap := cap) hi)
  have LD := Aside0.mk (show (Instr.loadAt 76 (.pointer (some (a.add (i * 5))))).run Tryz.prog w = .ok (ov k' tok b c d) w from arg_load HX.out)
  have BA := Aside0.mk (HB.out.trans (((Below.refl w.heap.size w).alloc (Nat.le_refl _) (.cells (ocs k' tok b c d) 76)).mono HB.out.size))
  have XA := Aside0.mk (heap_alloc_last w (.cells (ocs k' tok b c d) 76))
  have RA := Aside0.mk (HR.out.keep ((Below.refl w.heap.size w).alloc (Nat.le_refl _) (.cells (ocs k' tok b c d) 76)))
  have DD : (k' == kd) = false := by simpa using hc
  have D3 : (k' == 3) = true := by simpa using h3
  have QA : (w.alloc (.cells (ocs k' tok b c d) 76)).cell? ⟨w.heap.size, 1, none⟩ = some (.int .i64 tok) := by rw [bce XA.out]; rfl
  have CA := Aside0.mk (odel_calls QA RA.out (fun k e h => absurd (HR.out.lt k e) (by omega)) (by omega))
  have OW := Aside0.mk (fun k e => RA.out.own k e)
  clear hc h3 QA
  rw [rounds_succ]
  go_wp2_with (first
    | (go_at_call 71; refine CA.out.mono ?_; rintro e w2 ⟨v', rfl, m2, m3⟩; have B3 := Aside0.mk (BA.out.grown m3 BA.out.size (fun k e => OW.out k e)); have R3 := Aside0.mk m2; clear m2 m3)
    | (refine Great.wpList_readTo rfl (some 12) rfl (.pointer (some (a.add (i * 5)))) (exec_indexAddr rfl (IJ.out _)) ?_)
    | (refine Great.wpList_readTo rfl (some 13) rfl (ov k' tok b c d) (exec_load rfl LD.out) ?_))
  exact hcont.out _ _ _ _ _ _ _ _ _ _ _ _ _ _ _ _ _ _ _ _ _ _ _ _ _ R3.out B3.out
set_option maxRecDepth 100000 in
set_option maxHeartbeats 4000000 in
theorem kept_skip {w0 w : World} {a : Addr} {n cap i : Nat} {kd : Int} {x : O5} {v : Value} {out : List O5} {Q : Exit → Act → World → Prop} {N : Nat} {c0 c1 c2 c3 body : Code} {z0 : Nat}  {x2 x3 x6 x7 x11 x12 x13 x14 x15 x16 x17 x18 x19 x20 x21 x22 x23 x24 x25 x26 x27 x28 x29 : Value}
    (hB : Tryz.f42.body = some (.seq c0 (.seq c1 (.seq (.seq c2 (.block z0 (.loop body))) c3)))) (HX : Aside0 (∀ r, r < 5 → w.cell? (a.add (i * 5 + r)) = (c5 x)[r]?)) (HR : Aside0 (RowQ w w0.heap.size v out)) (HB : Aside0 (Below w0.heap.size w0 w)) (hi : i < n) (hn : n ≤ 100) (ho : out.length ≤ 100) (hc : x.1 ≠ kd) (h3 : x.1 ≠ 3)
    (cont : ∀ (w' : World) (v' : Value) (y2 y3 y6 y7 y11 y12 y13 y14 y15 y16 y17 y18 y19 y20 y21 y22 y23 y24 y25 y26 y27 y28 y29 : Value), RowQ w' w0.heap.size v' out → Below w0.heap.size w0 w' → Code.rounds Tryz.prog body Q N ⟨#[.slice (some a) n cap, .int .i64 kd, y2, y3, .slice none 0 0, v', y6, y7, .slice (some a) n cap, .int .i64 n, .int .i64 (i + 1), y11, y12, y13, y14, y15, y16, y17, y18, y19, y20, y21, y22, y23, y24, y25, y26, y27, y28, y29], []⟩ w') :
    Code.rounds Tryz.prog body Q (N + 1) ⟨#[.slice (some a) n cap, .int .i64 kd, x2, x3, .slice none 0 0, v, x6, x7, .slice (some a) n cap, .int .i64 n, .int .i64 i, x11, x12, x13, x14, x15, x16, x17, x18, x19, x20, x21, x22, x23, x24, x25, x26, x27, x28, x29], []⟩ w := by
  have hbody := kept_body rfl hB
  clear hB
  subst hbody
  have hcont := Aside0.mk cont
  clear cont
  obtain ⟨k', tok, b, c, d, hx⟩ : ∃ k' tok b c d, x = (k', tok, b, c, d) := ⟨_, _, _, _, _, rfl⟩
  subst hx
  have IJ := Aside0.mk (fun (v : World) => arg_index (w := v) (a := a) (cap := cap) hi)
  have LD := Aside0.mk (show (Instr.loadAt 76 (.pointer (some (a.add (i * 5))))).run Tryz.prog w = .ok (ov k' tok b c d) w from arg_load HX.out)
  have BA := Aside0.mk (HB.out.trans (((Below.refl w.heap.size w).alloc (Nat.le_refl _) (.cells (ocs k' tok b c d) 76)).mono HB.out.size))
  have XA := Aside0.mk (heap_alloc_last w (.cells (ocs k' tok b c d) 76))
  have RA := Aside0.mk (HR.out.keep ((Below.refl w.heap.size w).alloc (Nat.le_refl _) (.cells (ocs k' tok b c d) 76)))
  have DD : (k' == kd) = false := by simpa using hc
  have D3 : (k' == 3) = false := by simpa using h3
  clear hc h3
  rw [rounds_succ]
  go_wp2_with (first
    | (refine Great.wpList_readTo rfl (some 12) rfl (.pointer (some (a.add (i * 5)))) (exec_indexAddr rfl (IJ.out _)) ?_)
    | (refine Great.wpList_readTo rfl (some 13) rfl (ov k' tok b c d) (exec_load rfl LD.out) ?_))
  exact hcont.out _ _ _ _ _ _ _ _ _ _ _ _ _ _ _ _ _ _ _ _ _ _ _ _ _ RA.out BA.out
set_option maxRecDepth 100000 in
set_option maxHeartbeats 4000000 in
theorem kept_end {w : World} {n cap : Nat} {kd : Int} {A : Option Addr} {v : Value} {Q : Exit → Act → World → Prop} {N : Nat} {c0 c1 c2 c3 body : Code} {z0 : Nat}  {x2 x3 x6 x7 x11 x12 x13 x14 x15 x16 x17 x18 x19 x20 x21 x22 x23 x24 x25 x26 x27 x28 x29 : Value} (hB : Tryz.f42.body = some (.seq c0 (.seq c1 (.seq (.seq c2 (.block z0 (.loop body))) c3)))) (hn : n ≤ 100)
    (cont : ∀ (y2 y3 y6 y7 y11 y12 y13 y14 y15 y16 y17 y18 y19 y20 y21 y22 y23 y24 y25 y26 y27 y28 y29 : Value), Q (.exit 0) ⟨#[.slice A n cap, .int .i64 kd, y2, y3, .slice none 0 0, v, y6, y7, .slice A n cap, .int .i64 n, .int .i64 n, y11, y12, y13, y14, y15, y16, y17, y18, y19, y20, y21, y22, y23, y24, y25, y26, y27, y28, y29], []⟩ w) : Code.rounds Tryz.prog body Q (N + 1) ⟨#[.slice A n cap, .int .i64 kd, x2, x3, .slice none 0 0, v, x6, x7, .slice A n cap, .int .i64 n, .int .i64 n, x11, x12, x13, x14, x15, x16, x17, x18, x19, x20, x21, x22, x23, x24, x25, x26, x27, x28, x29], []⟩ w := by
  have hbody := kept_body rfl hB
  clear hB
  subst hbody
  have hcont := Aside0.mk cont
  clear cont
  rw [rounds_succ]
  go_wp2
  exact hcont.out _ _ _ _ _ _ _ _ _ _ _ _ _ _ _ _ _ _ _ _ _ _ _
end Go.Proofs.YtdfkbiffdcfnpaaGreatDoor.H
/- kept; Timers. -/
namespace Go.Proofs.YtdfkbiffdcfnpaaGreatDoor.H
open Go.RowKit Go.HK Go.Lib Go.WideShapes Go.ChangeShapes Go.Proofs.YtdfkbiffdcfnpaaGreatDoorW.PrintWords Go.Proofs.YtdfkbiffdcfnpaaGreatDoorW.PrintLast Go.Proofs.YtdfkbiffdcfnpaaGreatDoorW.PrintMore
set_option linter.unusedVariables false
set_option linter.unusedSimpArgs false
set_option maxRecDepth 100000 in
set_option maxHeartbeats 4000000 in
theorem kept_loop {w0 : World} {A : Option Addr} {cap : Nat} {kd : Int} {l : List O5} {Q : Exit → Act → World → Prop} {c0 c1 c2 c3 body : Code} {z0 : Nat}  (hB : Tryz.f42.body = some (.seq c0 (.seq c1 (.seq (.seq c2 (.block z0 (.loop body))) c3)))) (HA : ArgO w0 (.slice A l.length cap) l) (hn : l.length ≤ 100)
  (hK : ∀ (w' : World) (v : Value) (y2 y3 y6 y7 y11 y12 y13 y14 y15 y16 y17 y18 y19 y20 y21 y22 y23 y24 y25 y26 y27 y28 y29 : Value), RowQ w' w0.heap.size v (keptL kd l) → Below w0.heap.size w0 w' → Q (.exit 0) ⟨#[.slice A l.length cap, .int .i64 kd, y2, y3, .slice none 0 0, v, y6, y7, .slice A l.length cap, .int .i64 l.length, .int .i64 l.length, y11, y12, y13, y14, y15, y16, y17, y18, y19, y20, y21, y22, y23, y24, y25, y26, y27, y28, y29], []⟩ w') :
  ∀ (d i : Nat) (w : World) (v : Value) {y2 y3 y6 y7 y11 y12 y13 y14 y15 y16 y17 y18 y19 y20 y21 y22 y23 y24 y25 y26 y27 y28 y29 : Value}, i + d = l.length → RowQ w w0.heap.size v (keptL kd (l.take i)) → Below w0.heap.size w0 w → Code.rounds Tryz.prog body Q (d + 1) ⟨#[.slice A l.length cap, .int .i64 kd, y2, y3, .slice none 0 0, v, y6, y7, .slice A l.length cap, .int .i64 l.length, .int .i64 i, y11, y12, y13, y14, y15, y16, y17, y18, y19, y20, y21, y22, y23, y24, y25, y26, y27, y28, y29], []⟩ w := by
 intro d
 induction d with
 | zero =>
  intro i w v y2 y3 y6 y7 y11 y12 y13 y14 y15 y16 y17 y18 y19 y20 y21 y22 y23 y24 y25 y26 y27 y28 y29 hd HR HB
  obtain rfl : i = l.length := by omega
  rw [List.take_length] at HR
  exact kept_end hB hn (fun y2 y3 y6 y7 y11 y12 y13 y14 y15 y16 y17 y18 y19 y20 y21 y22 y23 y24 y25 y26 y27 y28 y29 => hK w v y2 y3 y6 y7 y11 y12 y13 y14 y15 y16 y17 y18 y19 y20 y21 y22 y23 y24 y25 y26 y27 y28 y29 HR HB)
 | succ d ih =>
  intro i w v y2 y3 y6 y7 y11 y12 y13 y14 y15 y16 y17 y18 y19 y20 y21 y22 y23 y24 y25 y26 y27 y28 y29 hd HR HB
  have hi : i < l.length := by omega
  obtain ⟨A', cap', e, ha⟩ := HA.keep HB
  injection e with e1 e2 e3
  subst e1 e3
  obtain ⟨a, rfl, hx⟩ := ha i hi
  have hL := keptL_len kd l i (by omega)
  have hs := keptL_take (kd := kd) hi
  by_cases c : (l.getD i o0).1 = kd
  ·refine kept_add hB ⟨hx⟩ ⟨HR⟩ ⟨HB⟩ hi hn (by omega) c (fun w' v' y2 y3 y6 y7 y11 y12 y13 y14 y15 y16 y17 y18 y19 y20 y21 y22 y23 y24 y25 y26 y27 y28 y29 hr hb => ih (i + 1) w' v' (by omega) ?_ hb)
   rw [hs]; unfold keptStep; rw [if_pos c]; exact hr
  ·by_cases c3 : (l.getD i o0).1 = 3
   ·refine kept_away hB ⟨hx⟩ ⟨HR⟩ ⟨HB⟩ hi hn (by omega) c c3 (fun w' v' y2 y3 y6 y7 y11 y12 y13 y14 y15 y16 y17 y18 y19 y20 y21 y22 y23 y24 y25 y26 y27 y28 y29 hr hb => ih (i + 1) w' v' (by omega) ?_ hb)
    rw [hs]; unfold keptStep; rw [if_neg c, if_pos c3]; exact hr
   ·refine kept_skip hB ⟨hx⟩ ⟨HR⟩ ⟨HB⟩ hi hn (by omega) c c3 (fun w' v' y2 y3 y6 y7 y11 y12 y13 y14 y15 y16 y17 y18 y19 y20 y21 y22 y23 y24 y25 y26 y27 y28 y29 hr hb => ih (i + 1) w' v' (by omega) ?_ hb)
    rw [hs]; unfold keptStep; rw [if_neg c, if_neg c3]; exact hr
set_option maxRecDepth 100000 in
set_option maxHeartbeats 4000000 in
theorem kept_calls {w : World} {v : Value} {l : List O5} {kd : Int} (HA : ArgO w v l) (hn : l.length ≤ 100) :
    Calls Tryz.prog 42 #[v, .int .i64 kd] w fun e w' => ∃ r, e = .returned r ∧ RowQ w' w.heap.size r (keptL kd l) ∧ Below w.heap.size w w' := by
  have HA' := HA
  obtain ⟨A, cap, rfl, _⟩ := HA'
  have H := Aside0.mk HA
  clear HA
  go_enter Tryz.func42, Tryz.ntmps42
  go_wp2
  refine wp_loop_rounds (l.length + 1) ?_
  refine kept_loop (kd := kd) (l := l) (A := A) (cap := cap) rfl H.out hn ?_ l.length 0 w (.slice none 0 0) (by omega) (RowQ.nil _ _) (Below.refl _ _)
  intro w' r y2 y3 y6 y7 y11 y12 y13 y14 y15 y16 y17 y18 y19 y20 y21 y22 y23 y24 y25 y26 y27 y28 y29 hr hb
  have HR := Aside0.mk hr
  have HB := Aside0.mk hb
  clear hr hb
  go_wp2
  go_ret
  exact ⟨r, rfl, HR.out, HB.out⟩
set_option maxRecDepth 100000 in
theorem timers_calls {w : World} {v : Value} {l : List O5} (HA : ArgO w v l) (hn : l.length ≤ 100) :
    Calls Tryz.prog 18 #[v] w fun e w' => ∃ r, e = .returned r ∧ RowQ w' w.heap.size r (keptL 2 l) ∧ Below w.heap.size w w' := by
  have H := Aside0.mk HA
  clear HA
  generalize v = u at *
  go_enter Tryz.func18, Tryz.ntmps18
  go_wp2_with (go_at_call 42; refine (kept_calls H.out hn).mono ?_; rintro e w1 ⟨r, rfl, h1, h2⟩; have R1 := Aside0.mk h1; have B1 := Aside0.mk h2; clear h1 h2)
  go_ret
  exact ⟨r, rfl, R1.out, B1.out⟩
end Go.Proofs.YtdfkbiffdcfnpaaGreatDoor.H
