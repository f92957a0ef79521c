/- Parts of the proof of LawGuardPrints: words, contracts of the functions, plain laws. -/
import Derived.Test.YtikbgoppmailjaaGreatDoorBA02
import Derived.Test.YtikbgoppmailjaaGreatDoorBA05
import Derived.Test.YtikbgoppmailjaaGreatDoorBA06
import Derived.Test.YtikbgoppmailjaaGreatDoorProg
import Derived.Test.YtikbgoppmailjaaGreatDoorBA01
import Derived.WalkKit
import Derived.Below
import Derived.OwnWalk
import Derived.LoopN
import Derived.Deep.WholeRow
import Derived.Deep.MidRow
import Derived.Deep.Slices
import Derived.Maps.AppendAt
import Derived.Carry
import Derived.KernelRfl
import Derived.Sort.OwnSortedInts
import Derived.Lib.OwnBridge
import Derived.Test.YtikbgoppmailjaaGreatDoorBA04
-- Written by hp.py (a program of this session, over the kit's print.py), with hand-made contracts beside it.
namespace Go.Proofs.YtikbgoppmailjaaGreatDoor.H
open Go.RowKit Go.Proofs.YtikbgoppmailjaaGreatDoorW.PrintWords Go.Proofs.YtikbgoppmailjaaGreatDoorW.PrintLast Go.Proofs.YtikbgoppmailjaaGreatDoorW.PrintMore
attribute [local go_sem] max2_int min2_int max_two min_two max_three min_three max_four min_four   -- for this text's walks alone
set_option linter.unusedVariables false
set_option linter.unusedSimpArgs false

/-! ### remontoirref13_Text: function 46 -/
def remontoirref13_Text.f (k : Nat) (a0_0 : Int) (a0_1 : Int) : Option (ByteArray) := (remontoirref13_Good.f a0_0 a0_1).bind fun t210 => (if t210 = true then (if a0_0 = 1 then ((remontoirref02_Digits.f k (IntKind.u64.wrap (a0_1))).bind fun t211 => (some t211)) else (if a0_0 = 2 then (some (strOfNums (([(wrap64 (97 + a0_1)) % 256] : List Int)))) else ((remontoirref13_of.f a0_0).bind fun t215 => (some t215)))) else (some (⟨#[]⟩ : ByteArray)))
theorem remontoirref13_Text.mono : ∀ a0 a1 k, LeO (remontoirref13_Text.f k a0 a1) (remontoirref13_Text.f (k + 1) a0 a1) := by
  intro a0 a1 k
  unfold remontoirref13_Text.f
  repeat' first
      | (with_reducible exact remontoirref02_Digits.mono _ _)
      | (with_reducible exact LeO.refl _)
      | (with_reducible exact LeO.none _)
      | (with_reducible refine LeO.ite ?_ ?_)
      | (with_reducible refine LeO.bind ?_ (fun _ => ?_))
      | exact remontoirref02_Digits.mono _ _
      | exact LeO.none _
      | refine LeO.ite ?_ ?_
      | refine LeO.bind ?_ (fun _ => ?_)
set_option maxHeartbeats 8000000 in
set_option maxRecDepth 100000 in
theorem remontoirref13_Text.calls (k : Nat) (a0_0 : Int) (a0_1 : Int) (r : ByteArray) (w : World) (h : remontoirref13_Text.f k a0_0 a0_1 = some r) :
  Calls Tryz.prog 46 #[.agg #[.int .i64 a0_0, .int .i64 a0_1]] w fun e w' => e = .returned (.string r) ∧ Below w.heap.size w w' := by
 have hu39 := Tryz.underlying39
 have HB := Aside0.mk (Below.refl w.heap.size w)
 have H : ((remontoirref13_Good.f a0_0 a0_1).bind fun t210 => (if t210 = true then (if a0_0 = 1 then ((remontoirref02_Digits.f k (IntKind.u64.wrap (a0_1))).bind fun t211 => (some t211)) else (if a0_0 = 2 then (some (strOfNums (([(wrap64 (97 + a0_1)) % 256] : List Int)))) else ((remontoirref13_of.f a0_0).bind fun t215 => (some t215)))) else (some (⟨#[]⟩ : ByteArray)))) = some r := h
 clear h
 replace H := Option.bind_eq_some_iff.mp H
 obtain ⟨t210, A20, H⟩ := H
 replace H : (if t210 = true then (if a0_0 = 1 then ((remontoirref02_Digits.f k (IntKind.u64.wrap (a0_1))).bind fun t211 => (some t211)) else (if a0_0 = 2 then (some (strOfNums (([(wrap64 (97 + a0_1)) % 256] : List Int)))) else ((remontoirref13_of.f a0_0).bind fun t215 => (some t215)))) else (some (⟨#[]⟩ : ByteArray))) = some r := H
 have A2 := Aside0.mk A20
 clear A20
 by_cases c3 : t210 = true
 ·subst c3
  have H1 : (if a0_0 = 1 then ((remontoirref02_Digits.f k (IntKind.u64.wrap (a0_1))).bind fun t211 => (some t211)) else (if a0_0 = 2 then (some (strOfNums (([(wrap64 (97 + a0_1)) % 256] : List Int)))) else ((remontoirref13_of.f a0_0).bind fun t215 => (some t215)))) = some r := by rw [if_pos rfl] at H; exact H
  clear H
  have H := H1
  clear H1
  by_cases c4 : a0_0 = 1
  ·rw [if_pos c4] at H
   have c4b0 : (a0_0 == 1) = true := beq_iff_eq.mpr c4
   have c4b1 : (a0_0 != 1) = false := bne_eq_false_iff_eq.mpr c4
   clear c4
   replace H := Option.bind_eq_some_iff.mp H
   obtain ⟨t211, A50, H⟩ := H
   replace H : (some t211) = some r := H
   have A5 := Aside0.mk A50
   clear A50
   obtain rfl := Option.some.inj H
   go_enter Tryz.func46, Tryz.ntmps46
   go_wp2_with (first | ((with_reducible refine gate_dst (N := 1) rfl ?_); refine box_event ?hg (N := 1) ?hd (cs := #[.int .i64 a0_0, .int .i64 a0_1]) (t := 39) ?hr ?_; (case hd => rfl); (case hg => rfl); (case hr => first | (go_simp; done) | (go_simp; rfl)); intro gb209 hg w6 hbox hb; have n0_ := Aside0.mk (bsp (by repeat (first | (with_reducible first | exact HB.out | apply bal | apply pbN | apply bd1) | exact HB.out)) hb); have n1_ := Aside0.mk (hbox); have n2_ := Aside0.mk ((by rw [hg]; exact (bsz (by repeat (first | (with_reducible first | exact HB.out | apply bal | apply pbN | apply bd1) | exact HB.out))) : w.heap.size ≤ gb209)); have n3_ := Aside0.mk ((by rw [hg]; exact (bsz (by repeat (first | (with_reducible first | exact HB.out | apply bal | apply pbN | apply bd1) | exact HB.out))) : w.heap.size ≤ gb209)); clear HB; have HB := n0_; have BK209 := n1_; have GW209 := n2_; have GE209 := n3_; clear n0_ n1_ n2_ n3_; clear hb hbox hg; have hcz7_0 : w6.cell? ⟨gb209, 0, none⟩ = some (.int .i64 a0_0) := (bce BK209.out 0).trans rfl; have hcz7_1 : w6.cell? ⟨gb209, 1, none⟩ = some (.int .i64 a0_1) := (bce BK209.out 1).trans rfl; have hfz7_0 := bfz BK209.out 0; have hfz7_1 := bfz BK209.out 1) | ((with_reducible refine gate_callee (f := 27) rfl ?_); refine goesL_ (some 5) rfl rfl Tryz.func27 (by kernel_rfl) rfl #[.agg #[.int .i64 a0_0, .int .i64 a0_1]] rfl (by (try simp only [List.map_toArray, List.map_cons, List.map_nil]); first | done | rfl | (simp only [List.length_drop, List.length_take]; rfl)) ?_; (with_reducible refine (remontoirref13_Good.calls a0_0 a0_1 true _ A2.out).mono ?_); rintro e w8 ⟨rfl, hb⟩; refine ⟨_, rfl, ?_⟩; have n0_ := Aside0.mk (bbe (g := gb209) (o := .cells #[.int .i64 a0_0, .int .i64 a0_1] 39 (0, 0)) (by (with_reducible repeat (first | refine bkn ?_ _ | refine bkd ?_ | refine bka ?_ _)); exact BK209.out) hb); have n1_ := Aside0.mk (bsp (by repeat (first | (with_reducible first | exact HB.out | apply bal | apply pbN | apply bd1 | refine bst ?_ GE209.out) | exact HB.out)) hb); clear BK209; clear HB; have BK209 := n0_; have HB := n1_; clear n0_ n1_; (try clear hb); (try clear hb2); (try clear hk); (try clear hi); have hcz9_0 : w8.cell? ⟨gb209, 0, none⟩ = some (.int .i64 a0_0) := (bce BK209.out 0).trans rfl; have hcz9_1 : w8.cell? ⟨gb209, 1, none⟩ = some (.int .i64 a0_1) := (bce BK209.out 1).trans rfl; have hfz9_0 := bfz BK209.out 0; have hfz9_1 := bfz BK209.out 1) | ((with_reducible refine gate_callee (f := 70) rfl ?_); refine goesL_ (some 14) rfl rfl Tryz.func70 (by kernel_rfl) rfl #[.int .u64 (IntKind.u64.wrap (a0_1))] rfl (by (try simp only [List.map_toArray, List.map_cons, List.map_nil]); first | done | rfl | (simp only [List.length_drop, List.length_take]; rfl)) ?_; (with_reducible refine (remontoirref02_Digits.calls k (IntKind.u64.wrap (a0_1)) t211 _ A5.out).mono ?_); rintro e w10 ⟨rfl, hb⟩; refine ⟨_, rfl, ?_⟩; have n0_ := Aside0.mk (bbe (g := gb209) (o := .cells #[.int .i64 a0_0, .int .i64 a0_1] 39 (0, 0)) (by (with_reducible repeat (first | refine bkn ?_ _ | refine bkd ?_ | refine bka ?_ _)); exact BK209.out) hb); have n1_ := Aside0.mk (bsp (by repeat (first | (with_reducible first | exact HB.out | apply bal | apply pbN | apply bd1 | refine bst ?_ GE209.out) | exact HB.out)) hb); clear BK209; clear HB; have BK209 := n0_; have HB := n1_; clear n0_ n1_; (try clear hb); (try clear hb2); (try clear hk); (try clear hi)))
   go_ret
   exact ⟨by first | rfl | (simp [errW_none, errW_some] <;> rfl) | (simp [*, errW_none, errW_some] <;> rfl), by repeat (first | (with_reducible first | exact HB.out | apply bal | apply pbN | apply bd1 | refine bst ?_ GE209.out) | exact HB.out)⟩
  ·rw [if_neg c4] at H
   have c4b0 : (a0_0 == 1) = false := beq_eq_false_iff_ne.mpr c4
   have c4b1 : (a0_0 != 1) = true := bne_iff_ne.mpr c4
   by_cases c11 : a0_0 = 2
   ·rw [if_pos c11] at H
    have c11b0 : (a0_0 == 2) = true := beq_iff_eq.mpr c11
    have c11b1 : (a0_0 != 2) = false := bne_eq_false_iff_eq.mpr c11
    clear c11
    obtain ⟨y212, hy212⟩ : ∃ y_ : List Int, y_ = (([(wrap64 (97 + a0_1)) % 256] : List Int)) := ⟨_, rfl⟩
    replace H : (some (strOfNums y212)) = some r := by first | (rw [hy212]; with_reducible exact H) | (have H2_ := (Option.bind_some _ _).symm.trans H; rw [hy212]; with_reducible exact H2_) | (have H2_ := (Option.bind_some _ _).symm.trans H; with_reducible exact H2_) | with_reducible exact H | (rw [hy212]; exact H) | exact H
    have Ny212 := Aside0.mk hy212
    clear hy212
    obtain rfl := Option.some.inj H
    go_enter Tryz.func46, Tryz.ntmps46
    go_wp2_with (first | ((with_reducible refine gate_dst (N := 1) rfl ?_); refine box_event ?hg (N := 1) ?hd (cs := #[.int .i64 a0_0, .int .i64 a0_1]) (t := 39) ?hr ?_; (case hd => rfl); (case hg => rfl); (case hr => first | (go_simp; done) | (go_simp; rfl)); intro gb209 hg w12 hbox hb; have n0_ := Aside0.mk (bsp (by repeat (first | (with_reducible first | exact HB.out | apply bal | apply pbN | apply bd1) | exact HB.out)) hb); have n1_ := Aside0.mk (hbox); have n2_ := Aside0.mk ((by rw [hg]; exact (bsz (by repeat (first | (with_reducible first | exact HB.out | apply bal | apply pbN | apply bd1) | exact HB.out))) : w.heap.size ≤ gb209)); have n3_ := Aside0.mk ((by rw [hg]; exact (bsz (by repeat (first | (with_reducible first | exact HB.out | apply bal | apply pbN | apply bd1) | exact HB.out))) : w.heap.size ≤ gb209)); clear HB; have HB := n0_; have BK209 := n1_; have GW209 := n2_; have GE209 := n3_; clear n0_ n1_ n2_ n3_; clear hb hbox hg; have hcz13_0 : w12.cell? ⟨gb209, 0, none⟩ = some (.int .i64 a0_0) := (bce BK209.out 0).trans rfl; have hcz13_1 : w12.cell? ⟨gb209, 1, none⟩ = some (.int .i64 a0_1) := (bce BK209.out 1).trans rfl; have hfz13_0 := bfz BK209.out 0; have hfz13_1 := bfz BK209.out 1) | ((with_reducible refine gate_callee (f := 27) rfl ?_); refine goesL_ (some 5) rfl rfl Tryz.func27 (by kernel_rfl) rfl #[.agg #[.int .i64 a0_0, .int .i64 a0_1]] rfl (by (try simp only [List.map_toArray, List.map_cons, List.map_nil]); first | done | rfl | (simp only [List.length_drop, List.length_take]; rfl)) ?_; (with_reducible refine (remontoirref13_Good.calls a0_0 a0_1 true _ A2.out).mono ?_); rintro e w14 ⟨rfl, hb⟩; refine ⟨_, rfl, ?_⟩; have n0_ := Aside0.mk (bbe (g := gb209) (o := .cells #[.int .i64 a0_0, .int .i64 a0_1] 39 (0, 0)) (by (with_reducible repeat (first | refine bkn ?_ _ | refine bkd ?_ | refine bka ?_ _)); exact BK209.out) hb); have n1_ := Aside0.mk (bsp (by repeat (first | (with_reducible first | exact HB.out | apply bal | apply pbN | apply bd1 | refine bst ?_ GE209.out) | exact HB.out)) hb); clear BK209; clear HB; have BK209 := n0_; have HB := n1_; clear n0_ n1_; (try clear hb); (try clear hb2); (try clear hk); (try clear hi); have hcz15_0 : w14.cell? ⟨gb209, 0, none⟩ = some (.int .i64 a0_0) := (bce BK209.out 0).trans rfl; have hcz15_1 : w14.cell? ⟨gb209, 1, none⟩ = some (.int .i64 a0_1) := (bce BK209.out 1).trans rfl; have hfz15_0 := bfz BK209.out 0; have hfz15_1 := bfz BK209.out 1) | ((with_reducible refine gate_dst (N := 23) rfl ?_); refine Kd.R_lit (Kd.int .u8) _ 5 ?hg (N := 23) ?hd (xs := ([(wrap64 (97 + a0_1)) % 256] : List Int)) (inner := [.int .u8 ((wrap64 (97 + a0_1)) % 256)]) (ok := fun _ => True) (okp := fun _ => True) ?hr ?hp (fun _ hk => hk) trivial (Below.refl _ _) (Nat.le_refl _) (by simp) ?_; (case hd => rfl); (case hg => rfl); (case hr => first | (go_simp; done) | (go_simp; rfl)); (case hp => exact (Reps.one (show Kd.M (Kd.int .u8) _ _ _ ((wrap64 (97 + a0_1)) % 256) [.int .u8 ((wrap64 (97 + a0_1)) % 256)] from rfl) (Reps.none _ _))); intro v213 w16 ho17 hb hg_ hnew_; clear hg_ hnew_; (first | rw [← Ny212.out] at ho17 | (simp only [Int.reduceToNat] at ho17; rw [← Ny212.out] at ho17)); have n0_ := Aside0.mk (Kd.R_lower ho17 (bsz (by repeat (first | (with_reducible first | exact HB.out | apply bal | apply pbN | apply bd1 | refine bst ?_ GE209.out) | exact HB.out)))); have n1_ := Aside0.mk (bbe (g := gb209) (o := .cells #[.int .i64 a0_0, .int .i64 a0_1] 39 (0, 0)) (by (with_reducible repeat (first | refine bkn ?_ _ | refine bkd ?_ | refine bka ?_ _)); exact BK209.out) hb); have n2_ := Aside0.mk (bsp (by repeat (first | (with_reducible first | exact HB.out | apply bal | apply pbN | apply bd1 | refine bst ?_ GE209.out) | exact HB.out)) hb); clear BK209; clear HB; have HO214 := n0_; have BK209 := n1_; have HB := n2_; clear n0_ n1_ n2_; clear hb ho17; have hcv18 := own_string (P := Tryz.prog) Tryz.underlying97 Tryz.underlying5 Tryz.underlying9 (Kd.own_of_R HO214.out)))
    go_ret
    exact ⟨by first | rfl | (simp [errW_none, errW_some] <;> rfl) | (simp [*, errW_none, errW_some] <;> rfl), by repeat (first | (with_reducible first | exact HB.out | apply bal | apply pbN | apply bd1 | refine bst ?_ GE209.out) | exact HB.out)⟩
   ·rw [if_neg c11] at H
    have c11b0 : (a0_0 == 2) = false := beq_eq_false_iff_ne.mpr c11
    have c11b1 : (a0_0 != 2) = true := bne_iff_ne.mpr c11
    replace H := Option.bind_eq_some_iff.mp H
    obtain ⟨t215, A190, H⟩ := H
    replace H : (some t215) = some r := H
    have A19 := Aside0.mk A190
    clear A190
    obtain rfl := Option.some.inj H
    go_enter Tryz.func46, Tryz.ntmps46
    go_wp2_with (first | ((with_reducible refine gate_dst (N := 1) rfl ?_); refine box_event ?hg (N := 1) ?hd (cs := #[.int .i64 a0_0, .int .i64 a0_1]) (t := 39) ?hr ?_; (case hd => rfl); (case hg => rfl); (case hr => first | (go_simp; done) | (go_simp; rfl)); intro gb209 hg w20 hbox hb; have n0_ := Aside0.mk (bsp (by repeat (first | (with_reducible first | exact HB.out | apply bal | apply pbN | apply bd1) | exact HB.out)) hb); have n1_ := Aside0.mk (hbox); have n2_ := Aside0.mk ((by rw [hg]; exact (bsz (by repeat (first | (with_reducible first | exact HB.out | apply bal | apply pbN | apply bd1) | exact HB.out))) : w.heap.size ≤ gb209)); have n3_ := Aside0.mk ((by rw [hg]; exact (bsz (by repeat (first | (with_reducible first | exact HB.out | apply bal | apply pbN | apply bd1) | exact HB.out))) : w.heap.size ≤ gb209)); clear HB; have HB := n0_; have BK209 := n1_; have GW209 := n2_; have GE209 := n3_; clear n0_ n1_ n2_ n3_; clear hb hbox hg; have hcz21_0 : w20.cell? ⟨gb209, 0, none⟩ = some (.int .i64 a0_0) := (bce BK209.out 0).trans rfl; have hcz21_1 : w20.cell? ⟨gb209, 1, none⟩ = some (.int .i64 a0_1) := (bce BK209.out 1).trans rfl; have hfz21_0 := bfz BK209.out 0; have hfz21_1 := bfz BK209.out 1) | ((with_reducible refine gate_callee (f := 27) rfl ?_); refine goesL_ (some 5) rfl rfl Tryz.func27 (by kernel_rfl) rfl #[.agg #[.int .i64 a0_0, .int .i64 a0_1]] rfl (by (try simp only [List.map_toArray, List.map_cons, List.map_nil]); first | done | rfl | (simp only [List.length_drop, List.length_take]; rfl)) ?_; (with_reducible refine (remontoirref13_Good.calls a0_0 a0_1 true _ A2.out).mono ?_); rintro e w22 ⟨rfl, hb⟩; refine ⟨_, rfl, ?_⟩; have n0_ := Aside0.mk (bbe (g := gb209) (o := .cells #[.int .i64 a0_0, .int .i64 a0_1] 39 (0, 0)) (by (with_reducible repeat (first | refine bkn ?_ _ | refine bkd ?_ | refine bka ?_ _)); exact BK209.out) hb); have n1_ := Aside0.mk (bsp (by repeat (first | (with_reducible first | exact HB.out | apply bal | apply pbN | apply bd1 | refine bst ?_ GE209.out) | exact HB.out)) hb); clear BK209; clear HB; have BK209 := n0_; have HB := n1_; clear n0_ n1_; (try clear hb); (try clear hb2); (try clear hk); (try clear hi); have hcz23_0 : w22.cell? ⟨gb209, 0, none⟩ = some (.int .i64 a0_0) := (bce BK209.out 0).trans rfl; have hcz23_1 : w22.cell? ⟨gb209, 1, none⟩ = some (.int .i64 a0_1) := (bce BK209.out 1).trans rfl; have hfz23_0 := bfz BK209.out 0; have hfz23_1 := bfz BK209.out 1) | ((with_reducible refine gate_callee (f := 36) rfl ?_); refine goesL_ (some 27) rfl rfl Tryz.func36 (by kernel_rfl) rfl #[.int .i64 a0_0] rfl (by (try simp only [List.map_toArray, List.map_cons, List.map_nil]); first | done | rfl | (simp only [List.length_drop, List.length_take]; rfl)) ?_; (with_reducible refine (remontoirref13_of.calls a0_0 t215 _ A19.out).mono ?_); rintro e w24 ⟨rfl, hb⟩; refine ⟨_, rfl, ?_⟩; have n0_ := Aside0.mk (bbe (g := gb209) (o := .cells #[.int .i64 a0_0, .int .i64 a0_1] 39 (0, 0)) (by (with_reducible repeat (first | refine bkn ?_ _ | refine bkd ?_ | refine bka ?_ _)); exact BK209.out) hb); have n1_ := Aside0.mk (bsp (by repeat (first | (with_reducible first | exact HB.out | apply bal | apply pbN | apply bd1 | refine bst ?_ GE209.out) | exact HB.out)) hb); clear BK209; clear HB; have BK209 := n0_; have HB := n1_; clear n0_ n1_; (try clear hb); (try clear hb2); (try clear hk); (try clear hi)))
    go_ret
    exact ⟨by first | rfl | (simp [errW_none, errW_some] <;> rfl) | (simp [*, errW_none, errW_some] <;> rfl), by repeat (first | (with_reducible first | exact HB.out | apply bal | apply pbN | apply bd1 | refine bst ?_ GE209.out) | exact HB.out)⟩
 ·replace c3 := Bool.eq_false_iff.mpr c3
  subst c3
  have H1 : (some (⟨#[]⟩ : ByteArray)) = some r := by rw [if_neg (show ¬ (false = true) by decide)] at H; exact H
  clear H
  have H := H1
  clear H1
  obtain rfl := Option.some.inj H
  go_enter Tryz.func46, Tryz.ntmps46
  go_wp2_with (first | ((with_reducible refine gate_dst (N := 1) rfl ?_); refine box_event ?hg (N := 1) ?hd (cs := #[.int .i64 a0_0, .int .i64 a0_1]) (t := 39) ?hr ?_; (case hd => rfl); (case hg => rfl); (case hr => first | (go_simp; done) | (go_simp; rfl)); intro gb209 hg w25 hbox hb; have n0_ := Aside0.mk (bsp (by repeat (first | (with_reducible first | exact HB.out | apply bal | apply pbN | apply bd1) | exact HB.out)) hb); have n1_ := Aside0.mk (hbox); have n2_ := Aside0.mk ((by rw [hg]; exact (bsz (by repeat (first | (with_reducible first | exact HB.out | apply bal | apply pbN | apply bd1) | exact HB.out))) : w.heap.size ≤ gb209)); have n3_ := Aside0.mk ((by rw [hg]; exact (bsz (by repeat (first | (with_reducible first | exact HB.out | apply bal | apply pbN | apply bd1) | exact HB.out))) : w.heap.size ≤ gb209)); clear HB; have HB := n0_; have BK209 := n1_; have GW209 := n2_; have GE209 := n3_; clear n0_ n1_ n2_ n3_; clear hb hbox hg; have hcz26_0 : w25.cell? ⟨gb209, 0, none⟩ = some (.int .i64 a0_0) := (bce BK209.out 0).trans rfl; have hcz26_1 : w25.cell? ⟨gb209, 1, none⟩ = some (.int .i64 a0_1) := (bce BK209.out 1).trans rfl; have hfz26_0 := bfz BK209.out 0; have hfz26_1 := bfz BK209.out 1) | ((with_reducible refine gate_callee (f := 27) rfl ?_); refine goesL_ (some 5) rfl rfl Tryz.func27 (by kernel_rfl) rfl #[.agg #[.int .i64 a0_0, .int .i64 a0_1]] rfl (by (try simp only [List.map_toArray, List.map_cons, List.map_nil]); first | done | rfl | (simp only [List.length_drop, List.length_take]; rfl)) ?_; (with_reducible refine (remontoirref13_Good.calls a0_0 a0_1 false _ A2.out).mono ?_); rintro e w27 ⟨rfl, hb⟩; refine ⟨_, rfl, ?_⟩; have n0_ := Aside0.mk (bbe (g := gb209) (o := .cells #[.int .i64 a0_0, .int .i64 a0_1] 39 (0, 0)) (by (with_reducible repeat (first | refine bkn ?_ _ | refine bkd ?_ | refine bka ?_ _)); exact BK209.out) hb); have n1_ := Aside0.mk (bsp (by repeat (first | (with_reducible first | exact HB.out | apply bal | apply pbN | apply bd1 | refine bst ?_ GE209.out) | exact HB.out)) hb); clear BK209; clear HB; have BK209 := n0_; have HB := n1_; clear n0_ n1_; (try clear hb); (try clear hb2); (try clear hk); (try clear hi)))
  go_ret
  exact ⟨by first | rfl | (simp [errW_none, errW_some] <;> rfl) | (simp [*, errW_none, errW_some] <;> rfl), by repeat (first | (with_reducible first | exact HB.out | apply bal | apply pbN | apply bd1 | refine bst ?_ GE209.out) | exact HB.out)⟩

/-! ### remontoirref13_Print: function 24 -/
def remontoirref13_Print.l0 : Nat → List (S39) → ByteArray → Int → Option (ByteArray × Bool)
  | 0, _, _, _ => none
  | k + 1, x0, x3, x4 => if x4 < (x0.length : Int) then (if 0 ≤ x4 then ((remontoirref13_Good.f ((rd_T39 x0 x4).f0) ((rd_T39 x0 x4).f1)).bind fun t218 => (if t218 = true then (if x4 > 0 then (if x3.size + 1 ≤ 9223372036854775807 then ((remontoirref13_Text.f k ((rd_T39 x0 x4).f0) ((rd_T39 x0 x4).f1)).bind fun t220 => (if (x3 ++ (⟨#[32]⟩ : ByteArray)).size + t220.size ≤ 9223372036854775807 then (remontoirref13_Print.l0 k x0 ((x3 ++ (⟨#[32]⟩ : ByteArray)) ++ t220) (wrap64 (x4 + 1))) else (none))) else (none)) else ((remontoirref13_Text.f k ((rd_T39 x0 x4).f0) ((rd_T39 x0 x4).f1)).bind fun t222 => (if x3.size + t222.size ≤ 9223372036854775807 then (remontoirref13_Print.l0 k x0 (x3 ++ t222) (wrap64 (x4 + 1))) else (none)))) else (some ((⟨#[]⟩ : ByteArray), false)))) else (none)) else (some (x3, true))
def remontoirref13_Print.f (k : Nat) (l0 : List (S39)) : Option (ByteArray × Bool) := remontoirref13_Print.l0 k l0 (⟨#[]⟩ : ByteArray) 0
theorem remontoirref13_Print.mono_l : ∀ k, (∀ y0 y1 y2, LeO (remontoirref13_Print.l0 k y0 y1 y2) (remontoirref13_Print.l0 (k + 1) y0 y1 y2))
  | 0 => fun _ _ _ r h => by simp [remontoirref13_Print.l0] at h
  | k + 1 => by
    have ih0 := remontoirref13_Print.mono_l k
    · intro y0 y1 y2
      unfold remontoirref13_Print.l0
      repeat' first
      | (with_reducible exact ih0 _ _ _)
      | (with_reducible exact remontoirref13_Text.mono _ _ _)
      | (with_reducible exact LeO.refl _)
      | (with_reducible exact LeO.none _)
      | (with_reducible refine LeO.ite ?_ ?_)
      | (with_reducible refine LeO.bind ?_ (fun _ => ?_))
      | exact ih0 _ _ _
      | exact remontoirref13_Text.mono _ _ _
      | exact LeO.none _
      | refine LeO.ite ?_ ?_
      | refine LeO.bind ?_ (fun _ => ?_)
theorem remontoirref13_Print.mono : ∀ a0 k, LeO (remontoirref13_Print.f k a0) (remontoirref13_Print.f (k + 1) a0) := by
  intro a0 k
  have ih0 := remontoirref13_Print.mono_l k
  unfold remontoirref13_Print.f
  repeat' first
      | (with_reducible exact ih0 _ _ _)
      | (with_reducible exact remontoirref13_Text.mono _ _ _)
      | (with_reducible exact LeO.refl _)
      | (with_reducible exact LeO.none _)
      | (with_reducible refine LeO.ite ?_ ?_)
      | (with_reducible refine LeO.bind ?_ (fun _ => ?_))
      | exact ih0 _ _ _
      | exact remontoirref13_Text.mono _ _ _
      | exact LeO.none _
      | refine LeO.ite ?_ ?_
      | refine LeO.bind ?_ (fun _ => ?_)
set_option maxHeartbeats 8000000 in
set_option maxRecDepth 100000 in
theorem remontoirref13_Print.calls (k : Nat) (A0 : Option Addr) (c0 : Nat) (l0 : List (S39)) (r1 : ByteArray) (r2 : Bool) (w : World) (hr0 : Kd.C k39 w A0 l0.length l0) (hc0 : l0.length ≤ c0) (h : remontoirref13_Print.f k l0 = some (r1, r2)) :
  Calls Tryz.prog 24 #[.slice A0 l0.length c0] w fun e w' => e = .returned (.agg #[.string r1, .bool r2]) ∧ Below w.heap.size w w' := by
 have hu32 := Tryz.underlying32
 have hu39 := Tryz.underlying39
 have HR0 := Aside0.mk hr0
 have HC0 := Aside0.mk hc0
 clear hr0 hc0
 have HB := Aside0.mk (Below.refl w.heap.size w)
 have H : (remontoirref13_Print.l0 k l0 (⟨#[]⟩ : ByteArray) 0) = some (r1, r2) := h
 clear h
 have H' := Aside0.mk H
 clear H
 go_enter Tryz.func24, Tryz.ntmps24
 go_wp2_with (first | ((with_reducible refine gate_dst (N := 2) rfl ?_); refine box_event ?hg (N := 2) ?hd (cs := #[.string (⟨#[]⟩ : ByteArray), .bool false]) (t := 32) ?hr ?_; (case hd => rfl); (case hg => rfl); (case hr => first | (go_simp; done) | (go_simp; rfl)); intro gb216 hg w2 hbox hb; have n0_ := Aside0.mk (bsp (by repeat (first | (with_reducible first | exact HB.out | apply bal | apply pbN | apply bd1) | exact HB.out)) hb); have n1_ := Aside0.mk (hbox); have n2_ := Aside0.mk ((by rw [hg]; exact (bsz (by repeat (first | (with_reducible first | exact HB.out | apply bal | apply pbN | apply bd1) | exact HB.out))) : w.heap.size ≤ gb216)); have n3_ := Aside0.mk ((by rw [hg]; exact (bsz (by repeat (first | (with_reducible first | exact HB.out | apply bal | apply pbN | apply bd1) | exact HB.out))) : w.heap.size ≤ gb216)); clear HB; have HB := n0_; have BK216 := n1_; have GW216 := n2_; have GE216 := n3_; clear n0_ n1_ n2_ n3_; clear hb hbox hg))
 go_loopg [3, 4] k (fun kq v3 v4 w' => ∃ (x3_1 : ByteArray) (x4_1 : Int) (x217000_1 : ByteArray) (x217001_1 : Bool), v3 = .string x3_1 ∧ v4 = .int .i64 x4_1 ∧ Aside0 (remontoirref13_Print.l0 kq l0 x3_1 x4_1 = some (r1, r2)) ∧ Aside0 (kq ≤ k) ∧ Aside0 (w'.heap[gb216]? = some (.cells #[.string x217000_1, .bool x217001_1] 32 (0, 0))) ∧ Aside0 (Below w.heap.size w w'))
 case atStart => exact ⟨((⟨#[]⟩ : ByteArray)), (0), ((⟨#[]⟩ : ByteArray)), (false), (by first | rfl | (simp; done) | (simp [*]; done)), (by first | rfl | (simp; done) | (simp [*]; done)), H', ⟨Nat.le_refl _⟩, ⟨by (with_reducible repeat (first | refine bkn ?_ _ | refine bkd ?_ | refine bka ?_ _)); exact BK216.out⟩, ⟨by repeat (first | (with_reducible first | exact HB.out | apply bal | apply pbN | apply bd1 | refine bst ?_ GE216.out) | exact HB.out)⟩⟩
 case round =>
  clear H'
  try clear c2
  try clear p2
  obtain ⟨x3_1, x4_1, x217000_1, x217001_1, rfl, rfl, HA, HK1, BK216, HB⟩ := hrel
  cases gk with
  | zero => exact absurd HA.out (by simp [remontoirref13_Print.l0])
  | succ k1 =>
   have H := HA.out
   clear HA
   simp only [remontoirref13_Print.l0] at H
   by_cases c3 : x4_1 < (l0.length : Int)
   ·rw [if_pos c3] at H
    have c3b0 : decide (x4_1 < (l0.length : Int)) = true := decide_eq_true c3
    clear c3
    by_cases c4 : 0 ≤ x4_1
    ·rw [if_pos c4] at H
     have c4b0 : decide (0 ≤ x4_1) = true := decide_eq_true c4
     clear c4
     replace H := Option.bind_eq_some_iff.mp H
     obtain ⟨t218, A50, H⟩ := H
     replace H : (if t218 = true then (if x4_1 > 0 then (if x3_1.size + 1 ≤ 9223372036854775807 then ((remontoirref13_Text.f k1 ((rd_T39 l0 x4_1).f0) ((rd_T39 l0 x4_1).f1)).bind fun t220 => (if (x3_1 ++ (⟨#[32]⟩ : ByteArray)).size + t220.size ≤ 9223372036854775807 then (remontoirref13_Print.l0 k1 l0 ((x3_1 ++ (⟨#[32]⟩ : ByteArray)) ++ t220) (wrap64 (x4_1 + 1))) else (none))) else (none)) else ((remontoirref13_Text.f k1 ((rd_T39 l0 x4_1).f0) ((rd_T39 l0 x4_1).f1)).bind fun t222 => (if x3_1.size + t222.size ≤ 9223372036854775807 then (remontoirref13_Print.l0 k1 l0 (x3_1 ++ t222) (wrap64 (x4_1 + 1))) else (none)))) else (some ((⟨#[]⟩ : ByteArray), false))) = some (r1, r2) := H
     have A5 := Aside0.mk A50
     clear A50
     by_cases c6 : t218 = true
     ·subst c6
      have H1 : (if x4_1 > 0 then (if x3_1.size + 1 ≤ 9223372036854775807 then ((remontoirref13_Text.f k1 ((rd_T39 l0 x4_1).f0) ((rd_T39 l0 x4_1).f1)).bind fun t220 => (if (x3_1 ++ (⟨#[32]⟩ : ByteArray)).size + t220.size ≤ 9223372036854775807 then (remontoirref13_Print.l0 k1 l0 ((x3_1 ++ (⟨#[32]⟩ : ByteArray)) ++ t220) (wrap64 (x4_1 + 1))) else (none))) else (none)) else ((remontoirref13_Text.f k1 ((rd_T39 l0 x4_1).f0) ((rd_T39 l0 x4_1).f1)).bind fun t222 => (if x3_1.size + t222.size ≤ 9223372036854775807 then (remontoirref13_Print.l0 k1 l0 (x3_1 ++ t222) (wrap64 (x4_1 + 1))) else (none)))) = some (r1, r2) := by rw [if_pos rfl] at H; exact H
      clear H
      have H := H1
      clear H1
      by_cases c7 : x4_1 > 0
      ·rw [if_pos c7] at H
       have c7b0 : decide (0 < x4_1) = true := decide_eq_true c7
       clear c7
       by_cases c8 : x3_1.size + 1 ≤ 9223372036854775807
       ·rw [if_pos c8] at H
        have c8b0 := eq_true c8
        have c8b1 : decide (x3_1.size + 1 ≤ 9223372036854775807) = true := decide_eq_true c8
        try have c8b2 : (9223372036854775807 < x3_1.size + 1) = False := eq_false (Nat.not_lt.2 c8)
        replace H := Option.bind_eq_some_iff.mp H
        obtain ⟨t220, A90, H⟩ := H
        replace H : (if (x3_1 ++ (⟨#[32]⟩ : ByteArray)).size + t220.size ≤ 9223372036854775807 then (remontoirref13_Print.l0 k1 l0 ((x3_1 ++ (⟨#[32]⟩ : ByteArray)) ++ t220) (wrap64 (x4_1 + 1))) else (none)) = some (r1, r2) := H
        have A9 := Aside0.mk A90
        clear A90
        by_cases c10 : (x3_1 ++ (⟨#[32]⟩ : ByteArray)).size + t220.size ≤ 9223372036854775807
        ·rw [if_pos c10] at H
         have c10b0 := eq_true c10
         have c10b1 : decide ((x3_1 ++ (⟨#[32]⟩ : ByteArray)).size + t220.size ≤ 9223372036854775807) = true := decide_eq_true c10
         try (have sz0_ : (⟨#[32]⟩ : ByteArray).size = 1 := rfl; have c10b4 := c10; simp only [ByteArray.size_append, sz0_] at c10b4; have c10b5 := eq_false (Nat.not_lt.2 c10b4); clear sz0_)
         try have c10b2 : (9223372036854775807 < (x3_1 ++ (⟨#[32]⟩ : ByteArray)).size + t220.size) = False := eq_false (Nat.not_lt.2 c10)
         have H' := Aside0.mk H
         clear H
         have p217 : 0 ≤ (x4_1 : Int) := of_decide_eq_true (by first | (with_reducible assumption) | assumption)
         have q217 : x4_1 < (l0.length : Int) := of_decide_eq_true (by first | (with_reducible assumption) | assumption)
         obtain ⟨ad217, e217, hx217_0, hx217_1⟩ := at_T39 HR0.out x4_1 p217 q217
         cases e217
         replace hx217_0 := (HB.out.cell (World.block_lt_of_cell? w _ hx217_0)).trans hx217_0
         replace hx217_1 := (HB.out.cell (World.block_lt_of_cell? w _ hx217_1)).trans hx217_1
         replace p217 := eq_true p217
         replace q217 := eq_true q217
         go_wp2_with (first | ((with_reducible refine gate_callee (f := 27) rfl ?_); refine goesL_ (some 15) rfl rfl Tryz.func27 (by kernel_rfl) rfl #[.agg #[.int .i64 ((rd_T39 l0 x4_1).f0), .int .i64 ((rd_T39 l0 x4_1).f1)]] rfl (by (try simp only [List.map_toArray, List.map_cons, List.map_nil]); first | done | rfl | (simp only [List.length_drop, List.length_take]; rfl)) ?_; (with_reducible refine (remontoirref13_Good.calls ((rd_T39 l0 x4_1).f0) ((rd_T39 l0 x4_1).f1) true _ A5.out).mono ?_); rintro e w11 ⟨rfl, hb⟩; refine ⟨_, rfl, ?_⟩; have n0_ := Aside0.mk (bbe (g := gb216) (o := .cells #[.string x217000_1, .bool x217001_1] 32 (0, 0)) (by (with_reducible repeat (first | refine bkn ?_ _ | refine bkd ?_ | refine bka ?_ _)); exact BK216.out) hb); have n1_ := Aside0.mk (bsp (by repeat (first | (with_reducible first | exact HB.out | apply bal | apply pbN | apply bd1 | refine bst ?_ GE216.out) | exact HB.out)) hb); clear BK216; clear HB; have BK216 := n0_; have HB := n1_; clear n0_ n1_; (try clear hb); (try clear hb2); (try clear hk); (try clear hi); have p219 : 0 ≤ (x4_1 : Int) := of_decide_eq_true (by first | (with_reducible assumption) | assumption); have q219 : x4_1 < (l0.length : Int) := of_decide_eq_true (by first | (with_reducible assumption) | assumption); obtain ⟨ad219, e219, hx219_0, hx219_1⟩ := at_T39 HR0.out x4_1 p219 q219; obtain rfl : ad217 = ad219 := (by injection e219); replace hx219_0 := (HB.out.cell (World.block_lt_of_cell? w _ hx219_0)).trans hx219_0; replace hx219_1 := (HB.out.cell (World.block_lt_of_cell? w _ hx219_1)).trans hx219_1; replace p219 := eq_true p219; replace q219 := eq_true q219) | ((with_reducible refine gate_callee (f := 46) rfl ?_); refine goesL_ (some 27) rfl rfl Tryz.func46 (by kernel_rfl) rfl #[.agg #[.int .i64 ((rd_T39 l0 x4_1).f0), .int .i64 ((rd_T39 l0 x4_1).f1)]] rfl (by (try simp only [List.map_toArray, List.map_cons, List.map_nil]); first | done | rfl | (simp only [List.length_drop, List.length_take]; rfl)) ?_; (with_reducible refine (remontoirref13_Text.calls k1 ((rd_T39 l0 x4_1).f0) ((rd_T39 l0 x4_1).f1) t220 _ A9.out).mono ?_); rintro e w12 ⟨rfl, hb⟩; refine ⟨_, rfl, ?_⟩; have n0_ := Aside0.mk (bbe (g := gb216) (o := .cells #[.string x217000_1, .bool x217001_1] 32 (0, 0)) (by (with_reducible repeat (first | refine bkn ?_ _ | refine bkd ?_ | refine bka ?_ _)); exact BK216.out) hb); have n1_ := Aside0.mk (bsp (by repeat (first | (with_reducible first | exact HB.out | apply bal | apply pbN | apply bd1 | refine bst ?_ GE216.out) | exact HB.out)) hb); clear BK216; clear HB; have BK216 := n0_; have HB := n1_; clear n0_ n1_; (try clear hb); (try clear hb2); (try clear hk); (try clear hi)))
         go_roundg k1
         case measure => have := HK1.out; omega
         case rel => exact ⟨((x3_1 ++ (⟨#[32]⟩ : ByteArray)) ++ t220), (wrap64 (x4_1 + 1)), (x217000_1), (x217001_1), (by first | rfl | (simp; done) | (simp [*]; done)), (by first | rfl | (simp; done) | (simp [*]; done)), H', ⟨by have := HK1.out; omega⟩, ⟨by (with_reducible repeat (first | refine bkn ?_ _ | refine bkd ?_ | refine bka ?_ _)); exact BK216.out⟩, ⟨by repeat (first | (with_reducible first | exact HB.out | apply bal | apply pbN | apply bd1 | refine bst ?_ GE216.out) | exact HB.out)⟩⟩
        ·rw [if_neg c10] at H
         exact absurd H (by simp)
       ·rw [if_neg c8] at H
        exact absurd H (by simp)
      ·rw [if_neg c7] at H
       have c7b0 : decide (0 < x4_1) = false := decide_eq_false c7
       clear c7
       replace H := Option.bind_eq_some_iff.mp H
       obtain ⟨t222, A130, H⟩ := H
       replace H : (if x3_1.size + t222.size ≤ 9223372036854775807 then (remontoirref13_Print.l0 k1 l0 (x3_1 ++ t222) (wrap64 (x4_1 + 1))) else (none)) = some (r1, r2) := H
       have A13 := Aside0.mk A130
       clear A130
       by_cases c14 : x3_1.size + t222.size ≤ 9223372036854775807
       ·rw [if_pos c14] at H
        have c14b0 := eq_true c14
        have c14b1 : decide (x3_1.size + t222.size ≤ 9223372036854775807) = true := decide_eq_true c14
        try have c14b2 : (9223372036854775807 < x3_1.size + t222.size) = False := eq_false (Nat.not_lt.2 c14)
        have H' := Aside0.mk H
        clear H
        have p217 : 0 ≤ (x4_1 : Int) := of_decide_eq_true (by first | (with_reducible assumption) | assumption)
        have q217 : x4_1 < (l0.length : Int) := of_decide_eq_true (by first | (with_reducible assumption) | assumption)
        obtain ⟨ad217, e217, hx217_0, hx217_1⟩ := at_T39 HR0.out x4_1 p217 q217
        cases e217
        replace hx217_0 := (HB.out.cell (World.block_lt_of_cell? w _ hx217_0)).trans hx217_0
        replace hx217_1 := (HB.out.cell (World.block_lt_of_cell? w _ hx217_1)).trans hx217_1
        replace p217 := eq_true p217
        replace q217 := eq_true q217
        go_wp2_with (first | ((with_reducible refine gate_callee (f := 27) rfl ?_); refine goesL_ (some 15) rfl rfl Tryz.func27 (by kernel_rfl) rfl #[.agg #[.int .i64 ((rd_T39 l0 x4_1).f0), .int .i64 ((rd_T39 l0 x4_1).f1)]] rfl (by (try simp only [List.map_toArray, List.map_cons, List.map_nil]); first | done | rfl | (simp only [List.length_drop, List.length_take]; rfl)) ?_; (with_reducible refine (remontoirref13_Good.calls ((rd_T39 l0 x4_1).f0) ((rd_T39 l0 x4_1).f1) true _ A5.out).mono ?_); rintro e w15 ⟨rfl, hb⟩; refine ⟨_, rfl, ?_⟩; have n0_ := Aside0.mk (bbe (g := gb216) (o := .cells #[.string x217000_1, .bool x217001_1] 32 (0, 0)) (by (with_reducible repeat (first | refine bkn ?_ _ | refine bkd ?_ | refine bka ?_ _)); exact BK216.out) hb); have n1_ := Aside0.mk (bsp (by repeat (first | (with_reducible first | exact HB.out | apply bal | apply pbN | apply bd1 | refine bst ?_ GE216.out) | exact HB.out)) hb); clear BK216; clear HB; have BK216 := n0_; have HB := n1_; clear n0_ n1_; (try clear hb); (try clear hb2); (try clear hk); (try clear hi); have p221 : 0 ≤ (x4_1 : Int) := of_decide_eq_true (by first | (with_reducible assumption) | assumption); have q221 : x4_1 < (l0.length : Int) := of_decide_eq_true (by first | (with_reducible assumption) | assumption); obtain ⟨ad221, e221, hx221_0, hx221_1⟩ := at_T39 HR0.out x4_1 p221 q221; obtain rfl : ad217 = ad221 := (by injection e221); replace hx221_0 := (HB.out.cell (World.block_lt_of_cell? w _ hx221_0)).trans hx221_0; replace hx221_1 := (HB.out.cell (World.block_lt_of_cell? w _ hx221_1)).trans hx221_1; replace p221 := eq_true p221; replace q221 := eq_true q221) | ((with_reducible refine gate_callee (f := 46) rfl ?_); refine goesL_ (some 27) rfl rfl Tryz.func46 (by kernel_rfl) rfl #[.agg #[.int .i64 ((rd_T39 l0 x4_1).f0), .int .i64 ((rd_T39 l0 x4_1).f1)]] rfl (by (try simp only [List.map_toArray, List.map_cons, List.map_nil]); first | done | rfl | (simp only [List.length_drop, List.length_take]; rfl)) ?_; (with_reducible refine (remontoirref13_Text.calls k1 ((rd_T39 l0 x4_1).f0) ((rd_T39 l0 x4_1).f1) t222 _ A13.out).mono ?_); rintro e w16 ⟨rfl, hb⟩; refine ⟨_, rfl, ?_⟩; have n0_ := Aside0.mk (bbe (g := gb216) (o := .cells #[.string x217000_1, .bool x217001_1] 32 (0, 0)) (by (with_reducible repeat (first | refine bkn ?_ _ | refine bkd ?_ | refine bka ?_ _)); exact BK216.out) hb); have n1_ := Aside0.mk (bsp (by repeat (first | (with_reducible first | exact HB.out | apply bal | apply pbN | apply bd1 | refine bst ?_ GE216.out) | exact HB.out)) hb); clear BK216; clear HB; have BK216 := n0_; have HB := n1_; clear n0_ n1_; (try clear hb); (try clear hb2); (try clear hk); (try clear hi)))
        go_roundg k1
        case measure => have := HK1.out; omega
        case rel => exact ⟨(x3_1 ++ t222), (wrap64 (x4_1 + 1)), (x217000_1), (x217001_1), (by first | rfl | (simp; done) | (simp [*]; done)), (by first | rfl | (simp; done) | (simp [*]; done)), H', ⟨by have := HK1.out; omega⟩, ⟨by (with_reducible repeat (first | refine bkn ?_ _ | refine bkd ?_ | refine bka ?_ _)); exact BK216.out⟩, ⟨by repeat (first | (with_reducible first | exact HB.out | apply bal | apply pbN | apply bd1 | refine bst ?_ GE216.out) | exact HB.out)⟩⟩
       ·rw [if_neg c14] at H
        exact absurd H (by simp)
     ·replace c6 := Bool.eq_false_iff.mpr c6
      subst c6
      have H1 : (some ((⟨#[]⟩ : ByteArray), false)) = some (r1, r2) := by rw [if_neg (show ¬ (false = true) by decide)] at H; exact H
      clear H
      have H := H1
      clear H1
      simp only [Option.some.injEq, Prod.mk.injEq] at H
      obtain ⟨rfl, rfl⟩ := H
      have p217 : 0 ≤ (x4_1 : Int) := of_decide_eq_true (by first | (with_reducible assumption) | assumption)
      have q217 : x4_1 < (l0.length : Int) := of_decide_eq_true (by first | (with_reducible assumption) | assumption)
      obtain ⟨ad217, e217, hx217_0, hx217_1⟩ := at_T39 HR0.out x4_1 p217 q217
      cases e217
      replace hx217_0 := (HB.out.cell (World.block_lt_of_cell? w _ hx217_0)).trans hx217_0
      replace hx217_1 := (HB.out.cell (World.block_lt_of_cell? w _ hx217_1)).trans hx217_1
      replace p217 := eq_true p217
      replace q217 := eq_true q217
      go_wp2_with (first | ((with_reducible refine gate_callee (f := 27) rfl ?_); refine goesL_ (some 15) rfl rfl Tryz.func27 (by kernel_rfl) rfl #[.agg #[.int .i64 ((rd_T39 l0 x4_1).f0), .int .i64 ((rd_T39 l0 x4_1).f1)]] rfl (by (try simp only [List.map_toArray, List.map_cons, List.map_nil]); first | done | rfl | (simp only [List.length_drop, List.length_take]; rfl)) ?_; (with_reducible refine (remontoirref13_Good.calls ((rd_T39 l0 x4_1).f0) ((rd_T39 l0 x4_1).f1) false _ A5.out).mono ?_); rintro e w17 ⟨rfl, hb⟩; refine ⟨_, rfl, ?_⟩; have n0_ := Aside0.mk (bbe (g := gb216) (o := .cells #[.string x217000_1, .bool x217001_1] 32 (0, 0)) (by (with_reducible repeat (first | refine bkn ?_ _ | refine bkd ?_ | refine bka ?_ _)); exact BK216.out) hb); have n1_ := Aside0.mk (bsp (by repeat (first | (with_reducible first | exact HB.out | apply bal | apply pbN | apply bd1 | refine bst ?_ GE216.out) | exact HB.out)) hb); clear BK216; clear HB; have BK216 := n0_; have HB := n1_; clear n0_ n1_; (try clear hb); (try clear hb2); (try clear hk); (try clear hi); have hcz18_0 : w17.cell? ⟨gb216, 0, none⟩ = some (.string x217000_1) := (bce BK216.out 0).trans rfl; have hcz18_1 : w17.cell? ⟨gb216, 1, none⟩ = some (.bool x217001_1) := (bce BK216.out 1).trans rfl; have hfz18_0 := bfz BK216.out 0; have hfz18_1 := bfz BK216.out 1))
      refine bodyPost_ret (results_cell_row rfl _ _ gb216 32 #[.string (⟨#[]⟩ : ByteArray), .bool false] (0, 0) _ rfl (by (with_reducible repeat (first | refine bkn ?_ _ | refine bkd ?_ | refine bka ?_ _)); refine blk_put (cs := #[.string (⟨#[]⟩ : ByteArray), .bool x217001_1]) ?_ 1 _ rfl; (with_reducible repeat (first | refine bkn ?_ _ | refine bkd ?_ | refine bka ?_ _)); refine blk_put (cs := #[.string x217000_1, .bool x217001_1]) ?_ 0 _ rfl; (with_reducible repeat (first | refine bkn ?_ _ | refine bkd ?_ | refine bka ?_ _)); exact BK216.out) Tryz.underlying32 rfl (by kernel_rfl)) rfl ?_
      exact ⟨by first | rfl | (simp [errW_none, errW_some] <;> rfl) | (simp [*, errW_none, errW_some] <;> rfl), by repeat (first | (with_reducible first | exact HB.out | apply bal | apply pbN | apply bd1 | refine bst ?_ GE216.out) | exact HB.out)⟩
    ·rw [if_neg c4] at H
     exact absurd H (by simp)
   ·rw [if_neg c3] at H
    have c3b0 : decide (x4_1 < (l0.length : Int)) = false := decide_eq_false c3
    clear c3
    simp only [Option.some.injEq, Prod.mk.injEq] at H
    obtain ⟨rfl, rfl⟩ := H
    have hcz19_0 : wr.cell? ⟨gb216, 0, none⟩ = some (.string x217000_1) := (bce BK216.out 0).trans rfl
    have hcz19_1 : wr.cell? ⟨gb216, 1, none⟩ = some (.bool x217001_1) := (bce BK216.out 1).trans rfl
    have hfz19_0 := bfz BK216.out 0
    have hfz19_1 := bfz BK216.out 1
    go_wp2
    refine bodyPost_ret (results_cell_row rfl _ _ gb216 32 #[.string x3_1, .bool true] (0, 0) _ rfl (by (with_reducible repeat (first | refine bkn ?_ _ | refine bkd ?_ | refine bka ?_ _)); refine blk_put (cs := #[.string x3_1, .bool x217001_1]) ?_ 1 _ rfl; (with_reducible repeat (first | refine bkn ?_ _ | refine bkd ?_ | refine bka ?_ _)); refine blk_put (cs := #[.string x217000_1, .bool x217001_1]) ?_ 0 _ rfl; (with_reducible repeat (first | refine bkn ?_ _ | refine bkd ?_ | refine bka ?_ _)); exact BK216.out) Tryz.underlying32 rfl (by kernel_rfl)) rfl ?_
    exact ⟨by first | rfl | (simp [errW_none, errW_some] <;> rfl) | (simp [*, errW_none, errW_some] <;> rfl), by repeat (first | (with_reducible first | exact HB.out | apply bal | apply pbN | apply bd1 | refine bst ?_ GE216.out) | exact HB.out)⟩

/-! ### remontoirref14_about: function 47 -/
def remontoirref14_about.f (l0 : List (S39)) (a1 : Int) (a2 : Int) : Option ((List (S39))) := (some (([(⟨a1, 0⟩ : S39)] : List (S39)) : List (S39))).bind fun y223 => (if y223.length + l0.length < 8796093022208 then ((some (y223 ++ l0 : List (S39))).bind fun y226 => (if y226.length < 8796093022208 then (some (y226 ++ [(⟨a2, 0⟩ : S39)])) else (none))) else (none))
set_option maxHeartbeats 8000000 in
set_option maxRecDepth 100000 in
theorem remontoirref14_about.calls (A0 : Option Addr) (c0 : Nat) (l0 : List (S39)) (a1 : Int) (a2 : Int) (r : List (S39)) (w : World) (hr0 : Kd.C k39 w A0 l0.length l0) (hc0 : l0.length ≤ c0) (h : remontoirref14_about.f l0 a1 a2 = some r) :
  Calls Tryz.prog 47 #[.slice A0 l0.length c0, .int .i64 a1, .int .i64 a2] w fun e w' => ∃ v0_ : Value, e = .returned (v0_) ∧ Kd.R k39 39 w' w.heap.size (fun _ => True) v0_ r ∧ Below w.heap.size w w' := by
 have hu39 := Tryz.underlying39
 have HR0 := Aside0.mk hr0
 have HC0 := Aside0.mk hc0
 clear hr0 hc0
 have HB := Aside0.mk (Below.refl w.heap.size w)
 have H : ((some (([(⟨a1, 0⟩ : S39)] : List (S39)) : List (S39))).bind fun y223 => (if y223.length + l0.length < 8796093022208 then ((some (y223 ++ l0 : List (S39))).bind fun y226 => (if y226.length < 8796093022208 then (some (y226 ++ [(⟨a2, 0⟩ : S39)])) else (none))) else (none))) = some r := h
 clear h
 obtain ⟨y223, hy223⟩ : ∃ y_ : List (S39), y_ = (([(⟨a1, 0⟩ : S39)] : List (S39))) := ⟨_, rfl⟩
 replace H : (if y223.length + l0.length < 8796093022208 then ((some (y223 ++ l0 : List (S39))).bind fun y226 => (if y226.length < 8796093022208 then (some (y226 ++ [(⟨a2, 0⟩ : S39)])) else (none))) else (none)) = some r := by first | (rw [hy223]; with_reducible exact H) | (have H2_ := (Option.bind_some _ _).symm.trans H; rw [hy223]; with_reducible exact H2_) | (have H2_ := (Option.bind_some _ _).symm.trans H; with_reducible exact H2_) | with_reducible exact H | (rw [hy223]; exact H) | exact H
 have Ny223 := Aside0.mk hy223
 clear hy223
 by_cases c4 : y223.length + l0.length < 8796093022208
 ·rw [if_pos c4] at H
  have LMc4 := Aside0.mk c4
  clear c4
  obtain ⟨y226, hy226⟩ : ∃ y_ : List (S39), y_ = (y223 ++ l0) := ⟨_, rfl⟩
  replace H : (if y226.length < 8796093022208 then (some (y226 ++ [(⟨a2, 0⟩ : S39)])) else (none)) = some r := by first | (rw [hy226]; with_reducible exact H) | (have H2_ := (Option.bind_some _ _).symm.trans H; rw [hy226]; with_reducible exact H2_) | (have H2_ := (Option.bind_some _ _).symm.trans H; with_reducible exact H2_) | with_reducible exact H | (rw [hy226]; exact H) | exact H
  have Ny226 := Aside0.mk hy226
  clear hy226
  by_cases c5 : y226.length < 8796093022208
  ·rw [if_pos c5] at H
   have LMc5 := Aside0.mk c5
   clear c5
   obtain ⟨y229, hy229⟩ : ∃ y_ : List (S39), y_ = (y226 ++ [(⟨a2, 0⟩ : S39)]) := ⟨_, rfl⟩
   replace H : (some y229) = some r := by first | (rw [hy229]; with_reducible exact H) | (have H2_ := (Option.bind_some _ _).symm.trans H; rw [hy229]; with_reducible exact H2_) | (have H2_ := (Option.bind_some _ _).symm.trans H; with_reducible exact H2_) | with_reducible exact H | (rw [hy229]; exact H) | exact H
   have Ny229 := Aside0.mk hy229
   clear hy229
   obtain rfl := Option.some.inj H
   go_enter Tryz.func47, Tryz.ntmps47
   go_wp2_with (first | ((with_reducible refine gate_dst (N := 9) rfl ?_); refine Kd.R_lit k39 _ 39 ?hg (N := 9) ?hd (xs := ([(⟨a1, 0⟩ : S39)] : List (S39))) (inner := [.int .i64 a1, .int .i64 0]) (ok := fun _ => True) (okp := fun _ => True) ?hr ?hp (fun _ hk => hk) trivial (Below.refl _ _) (Nat.le_refl _) (by simp) ?_; (case hd => rfl); (case hg => rfl); (case hr => first | (go_simp; done) | (go_simp; rfl)); (case hp => exact (Reps.c2 (show Kd.M k39 _ _ _ (⟨a1, 0⟩ : S39) [.int .i64 a1, .int .i64 0] from (k39_mkM _ _ _ (⟨a1, 0⟩ : S39) )) (Reps.none _ _))); intro v224 w6 ho7 hb hg_ hnew_; clear hg_ hnew_; (first | rw [← Ny223.out] at ho7 | (simp only [Int.reduceToNat] at ho7; rw [← Ny223.out] at ho7)); have n0_ := Aside0.mk (Kd.R_lower ho7 (bsz (by repeat (first | (with_reducible first | exact HB.out | apply bal | apply pbN | apply bd1) | exact HB.out)))); have n1_ := Aside0.mk (bsp (by repeat (first | (with_reducible first | exact HB.out | apply bal | apply pbN | apply bd1) | exact HB.out)) hb); clear HB; have HO225 := n0_; have HB := n1_; clear n0_ n1_; clear hb ho7) | ((with_reducible refine gate_builtin (b := .append) (xs := #[.tmp 9, .tmp 10]) rfl ?_); at_builtin; refine Kd.R_append_rows k39 (w0 := w) w.heap.size rfl (.tmp 9) (.tmp 10) 23 39 (.agg #[(.int .i64 0), (.int .i64 0)]) 16 rfl Tryz.underlying23 info39 rfl (by decide) (by omega) v224 y223 l0 _ _ _ (fun _ => True) (fun _ => False) rfl rfl ?aO ?aR (fun _ _ h => h) (fun _ h => h.elim) ?aF ?aB ?aS ?aL ?_; (case aR => repeat (first | exact (Kd.C_below HR0.out HB.out) | (with_reducible refine Kd.C_alloc ?_ _) | (with_reducible refine Kd.C_drewN ?_ _) | (with_reducible refine Kd.C_drew ?_))); (case aB => exact (by repeat (first | (with_reducible first | exact HB.out | apply bal | apply pbN | apply bd1) | exact HB.out))); (case aF => exact (fun _ _ => trivial)); (case aO => exact (by (with_reducible repeat (first | apply Kd.R_alloc | apply Kd.R_drewN | apply Kd.R_drew)); exact HO225.out)); (case aS => exact (bsz (by repeat (first | (with_reducible first | exact HB.out | apply bal | apply pbN | apply bd1) | exact HB.out)))); (case aL => have := LMc4.out; omega); intro v227 w8 ho hb hg hat; rw [← Ny226.out] at ho; have n0_ := Aside0.mk (hb); have n1_ := Aside0.mk (ho); clear HB; clear HO225; have HB := n0_; have HO228 := n1_; clear n0_ n1_; clear ho hb hg hat) | ((with_reducible refine gate_builtin (b := .append) (xs := #[.tmp 11, .tmp 14]) rfl ?_); at_builtin; refine Kd.R_append k39 (w0 := w) w.heap.size rfl (.tmp 11) (.tmp 14) 23 39 (.agg #[(.int .i64 0), (.int .i64 0)]) 16 rfl Tryz.underlying23 info39 rfl (by decide) (by omega) v227 y226 (⟨a2, 0⟩ : S39) [.int .i64 a2, .int .i64 0] (fun _ => True) (fun _ => False) rfl rfl ?aP (fun _ hk => hk.elim) ?aF ?aO ?aB ?aS ?aL ?_; (case aP => exact k39_mkM _ _ _ (⟨a2, 0⟩ : S39)); (case aB => exact (by repeat (first | (with_reducible first | exact HB.out | apply bal | apply pbN | apply bd1) | exact HB.out))); (case aF => exact (fun _ _ => trivial)); (case aO => exact (by (with_reducible repeat (first | apply Kd.R_alloc | apply Kd.R_drewN | apply Kd.R_drew)); exact HO228.out)); (case aS => exact (bsz (by repeat (first | (with_reducible first | exact HB.out | apply bal | apply pbN | apply bd1) | exact HB.out)))); (case aL => have := LMc5.out; omega); intro v230 w9 ho hb hg hat; rw [← Ny229.out] at ho; have n0_ := Aside0.mk (hb); have n1_ := Aside0.mk (ho); clear HB; clear HO228; have HB := n0_; have HO231 := n1_; clear n0_ n1_; clear ho hb hg hat))
   go_ret
   exact ⟨_, by first | rfl | (simp [errW_none, errW_some] <;> rfl) | (simp [*, errW_none, errW_some] <;> rfl), by (with_reducible repeat (first | apply Kd.R_alloc | apply Kd.R_drewN | apply Kd.R_drew)); exact HO231.out, by repeat (first | (with_reducible first | exact HB.out | apply bal | apply pbN | apply bd1) | exact HB.out)⟩
  ·rw [if_neg c5] at H
   exact absurd H (by simp)
 ·rw [if_neg c4] at H
  exact absurd H (by simp)

end Go.Proofs.YtikbgoppmailjaaGreatDoor.H
/- Rows of numbers: their words. -/
namespace Go.Proofs.YtikbgoppmailjaaGreatDoor.H
open Go.RowKit Go.HK Go.Lib Go.WideShapes Go.ChangeShapes Go.Proofs.YtikbgoppmailjaaGreatDoorW.PrintWords Go.Proofs.YtikbgoppmailjaaGreatDoorW.PrintLast Go.Proofs.YtikbgoppmailjaaGreatDoorW.PrintMore
set_option linter.unusedVariables false
set_option linter.unusedSimpArgs false
theorem exec_indexAddr {P : Program} {ρ : Operand → Value} {o : Oper} {t : TypeId} {a x : Operand} (ho : o.op = .indexAddr t a x) {w w' : World} {v : Value} (h : (Instr.indexAt t (ρ a) (ρ x)).run P w = .ok v w') : (execOp ρ o).run P w = .ok (.value v) w' := by
  unfold execOp
  rw [ho]
  simp only [Sem.run_bind, h, Result.andThen]
  rfl
theorem exec_append {P : Program} {ρ : Operand → Value} {o : Oper} {t : TypeId} {s x : Operand} (ho : o.op = Op.call { callee := Callee.builtin Builtin.append, args := #[s, x], argTypes := #[t, t] }) {w w' : World} {v : Value} (h : (Builtin.append_ #[t, t] o.type #[ρ s, ρ x]).run P w = .ok v w') : (execOp ρ o).run P w = .ok (.value v) w' := by
  unfold execOp
  simp [ho, resolve, invoke, builtin, h, Result.andThen]
theorem exec_buildSlice {P : Program} {ρ : Operand → Value} {o : Oper} {t : TypeId} {n : Nat} {parts : Array (Nat × Operand)} {ps : Array (Nat × Value)} (ho : o.op = .buildSlice t n parts) (hp : (parts.map fun (i, x) => (i, ρ x)) = ps) {w w' : World} {v : Value} (h : (Instr.buildSlice t n ps).run P w = .ok v w') : (execOp ρ o).run P w = .ok (.value v) w' := by
  subst hp
  unfold execOp
  rw [ho]
  simp only [Sem.run_bind, h, Result.andThen]
  rfl
theorem infoI1 : ∃ i, Tryz.prog.info? 3 = some i ∧ i.zero = some (.int .i64 0) ∧ i.size = 1 ∧ i.bytes = 8 := by
  have h : (Tryz.prog.info? 3).map (fun i => (i.zero, i.size, i.bytes)) = some (some (.int .i64 0), 1, 8) := by kernel_rfl
  obtain ⟨i, hi, e⟩ := Option.map_eq_some_iff.1 h
  injection e with e1 e2
  injection e2 with e2 e3
  exact ⟨i, hi, e1, e2, e3⟩
/-- v is a row of the numbers zs, in memory from B on. -/
def RwI (w : World) (B : Nat) (v : Value) (zs : List Int) : Prop := w.ownsRow B 3 1 v zs.length (zs.map (.int .i64))
section
variable {w w' : World} {B B' : Nat} {v : Value} {zs : List Int}
theorem RwI.nil (w : World) (B : Nat) : RwI w B (.slice none 0 0) [] := World.ownsRow_nil _ _ _ _
theorem RwI.own (h : RwI w B v zs) : ∀ k, v.ownBlock = some k → B ≤ k := by
  rcases h.2 with ⟨rfl, _⟩ | ⟨g, cap, cur, rfl, h2, _⟩
  · intro k e; cases e
  · intro k e; cases e; exact h2
theorem RwI.lt (h : RwI w B v zs) : ∀ k, v.ownBlock = some k → k < w.heap.size := by
  intro k hk
  rcases h.2 with ⟨rfl, _⟩ | ⟨g, cap, cur, rfl, _, hg, _⟩
  · cases hk
  · cases hk
    exact blk_lt hg
theorem RwI.move (h : RwI w B v zs) (e : ∀ k, v.ownBlock = some k → w'.heap[k]? = w.heap[k]?) : RwI w' B v zs := by
  refine ⟨h.1, ?_⟩
  rcases h.2 with h2 | ⟨g, cap, cur, rfl, hB, hg, r⟩
  · exact .inl h2
  · exact .inr ⟨g, cap, cur, rfl, hB, (e g rfl).trans hg, r⟩
theorem RwI.keep (h : RwI w B v zs) (hb : Below w.heap.size w w') : RwI w' B v zs := h.move (fun k hk => hb.block k (h.lt k hk))
theorem RwI.down (h : RwI w B v zs) (hb : B' ≤ B) : RwI w B' v zs := by
  refine ⟨h.1, ?_⟩
  rcases h.2 with h2 | ⟨g, cap, cur, rfl, hB, r⟩
  · exact .inl h2
  · exact .inr ⟨g, cap, cur, rfl, Nat.le_trans hb hB, r⟩
theorem RwI.snoc {x : Int} (h : w.ownsRow B 3 1 v (zs.length + 1) (zs.map (.int .i64) ++ [.int .i64 x])) : RwI w B v (zs ++ [x]) := by
  unfold RwI
  rw [List.length_append, List.map_append]
  exact h
end
theorem rwI_R {w : World} {B : Nat} {v : Value} {zs : List Int} (h : RwI w B v zs) : Kd.R (Kd.int .i64) 3 w B (fun _ => True) v zs := by
  refine ⟨fun _ _ => trivial, zs.map (.int .i64), h, by rw [List.length_map]; exact (Nat.mul_one _).symm, fun j p hj => ?_⟩
  show List.take 1 (List.drop (j * 1) (zs.map (Value.int .i64))) = [Value.int .i64 p]
  rw [Nat.mul_one, ← List.map_drop, ← List.map_take]
  have hl : j < zs.length := (List.getElem?_eq_some_iff.1 hj).1
  have e : zs[j] = p := by have := List.getElem?_eq_getElem hl; rw [hj] at this; exact (Option.some.inj this).symm
  rw [List.drop_eq_getElem_cons hl, e]
  rfl
end Go.Proofs.YtikbgoppmailjaaGreatDoor.H
/- Rows of signs: their words. -/
namespace Go.Proofs.YtikbgoppmailjaaGreatDoor.H
open Go.RowKit Go.HK Go.Lib Go.WideShapes Go.ChangeShapes Go.Proofs.YtikbgoppmailjaaGreatDoorW.PrintWords Go.Proofs.YtikbgoppmailjaaGreatDoorW.PrintLast Go.Proofs.YtikbgoppmailjaaGreatDoorW.PrintMore
set_option linter.unusedVariables false
set_option linter.unusedSimpArgs false
abbrev SgT : TypeId := 39
abbrev SgS : TypeId := 23
abbrev scl (s : S39) : List Value := [.int .i64 s.f0, .int .i64 s.f1]
abbrev isS : S39 → List Value → Prop := fun s c => c = scl s
theorem infoS : ∃ i, Tryz.prog.info? SgT = some i ∧ i.zero = some (.agg #[.int .i64 0, .int .i64 0]) ∧ i.size = 2 ∧ i.bytes = 16 := by
  have h : (Tryz.prog.info? SgT).map (fun i => (i.zero, i.size, i.bytes)) = some (some (.agg #[.int .i64 0, .int .i64 0]), 2, 16) := by kernel_rfl
  obtain ⟨i, hi, e⟩ := Option.map_eq_some_iff.1 h
  injection e with e1 e2
  injection e2 with e2 e3
  exact ⟨i, hi, e1, e2, e3⟩
/-- v is a row of the signs l, in memory from B on. -/
def RowS (w : World) (B : Nat) (v : Value) (l : List S39) : Prop := OwnRow isS SgT 2 w B v l
section
variable {w w' : World} {B B' : Nat} {v : Value} {l m : List S39}
theorem RowS.nil (w : World) (B : Nat) : RowS w B (.slice none 0 0) [] := OwnRow.none_ _ _ _ _ _
theorem RowS.own (h : RowS w B v l) : ∀ k, v.ownBlock = some k → B ≤ k := by
  obtain ⟨inner, h, _⟩ := h
  rcases h.2 with ⟨rfl, _⟩ | ⟨g, cap, cur, rfl, h2, _⟩
  · intro k e; cases e
  · intro k e; cases e; exact h2
theorem RowS.lt (h : RowS w B v l) : ∀ k, v.ownBlock = some k → k < w.heap.size := by
  obtain ⟨inner, h, _⟩ := h
  intro k hk
  rcases h.2 with ⟨rfl, _⟩ | ⟨g, cap, cur, rfl, _, hg, _⟩
  · cases hk
  · cases hk
    exact blk_lt hg
theorem RowS.move (h : RowS w B v l) (e : ∀ k, v.ownBlock = some k → w'.heap[k]? = w.heap[k]?) : RowS w' B v l := by
  obtain ⟨inner, h, h9⟩ := h
  exact ⟨inner, own_move h e, h9⟩
theorem RowS.keep (h : RowS w B v l) (hb : Below w.heap.size w w') : RowS w' B v l := h.move (fun k hk => hb.block k (h.lt k hk))
theorem RowS.down (h : RowS w B v l) (hb : B' ≤ B) : RowS w B' v l := by
  obtain ⟨inner, h, h9⟩ := h
  refine ⟨inner, ⟨h.1, ?_⟩, h9⟩
  rcases h.2 with h2 | ⟨g, cap, cur, rfl, hB, r⟩
  · exact .inl h2
  · exact .inr ⟨g, cap, cur, rfl, Nat.le_trans hb hB, r⟩
theorem RowS.read (h : RowS w B v l) : ∃ A c, v = .slice A l.length c ∧ l.length ≤ c ∧ Kd.C k39 w A l.length l := by
  obtain ⟨A, c, he, hl, hr⟩ := OwnRow.reads h
  exact ⟨A, c, he, hl, hr.imp_ (Below.refl _ _) (fun s c hp => by subst hp; exact ⟨[_], [_], rfl, rfl, rfl⟩)⟩
theorem RowS.kd (h : RowS w B v l) : Kd.R k39 SgT w B (fun _ => True) v l :=
  ⟨fun _ _ => trivial, h.imp_ (fun s c hp => by subst hp; exact ⟨[_], [_], rfl, rfl, rfl⟩)⟩
theorem RowS.of {P : Nat → Prop} (h : Kd.R k39 SgT w B P v l) : RowS w B v l := by
  refine h.2.imp_ (fun s c hp => ?_)
  obtain ⟨c0, c1, rfl, h0, h1⟩ := k39.K_of_M hp
  rw [show c0 = [.int .i64 s.f0] from h0, show c1 = [.int .i64 s.f1] from h1]
  rfl
/-- The cells of a row. -/
theorem RowS.fn (h : RowS w B v l) : (v = .slice none 0 0 ∧ l = []) ∨ ∃ (g cap : Nat) (inner : List Value), v = .slice (some ⟨g, 0, none⟩) l.length cap ∧ B ≤ g ∧ l.length ≤ cap ∧ g < w.heap.size ∧ inner.length = l.length * 2 ∧ Reps isS 2 l inner ∧ (∀ u ∈ inner, u.oneCell' = true) ∧ ∀ j u, inner[j]? = some u → w.cell? ((⟨g, 0, none⟩ : Addr).add j) = some u := by
  obtain ⟨inner, h, hp⟩ := h
  rcases h.2 with ⟨rfl, hz⟩ | ⟨g, cap, cur, rfl, hB, hg, r1, r2, r3, r4⟩
  · exact .inl ⟨rfl, List.eq_nil_of_length_eq_zero hz⟩
  · refine .inr ⟨g, cap, inner, rfl, hB, r1, blk_lt hg, hp.1, hp, fun u hu => ?_, fun j u hj => ?_⟩
    · obtain ⟨j, hj, rfl⟩ := List.mem_iff_getElem.1 hu
      have hj2 : j / 2 < l.length := by have := hp.1; omega
      have := hp.2 (j / 2) _ (List.getElem?_eq_getElem hj2)
      have e : inner[j]? = (scl l[j / 2])[j % 2]? := by
        have this : (inner.drop (j / 2 * 2)).take 2 = scl l[j / 2] := this
        rw [← this, List.getElem?_take_of_lt (Nat.mod_lt _ (by omega)), List.getElem?_drop]
        congr 1
        omega
      rw [List.getElem?_eq_getElem hj] at e
      have h2 : j % 2 = 0 ∨ j % 2 = 1 := by omega
      rcases h2 with h2 | h2
      · rw [h2] at e
        rw [Option.some.inj e]
        rfl
      · rw [h2] at e
        rw [Option.some.inj e]
        rfl
    · have hl : j < inner.length := (List.getElem?_eq_some_iff.1 hj).1
      rw [hp.1] at hl
      rw [Addr.add_mid, cell_of_row w g (0 + j) _ _ (0, 0) hg, Nat.zero_add]
      have r4' : List.take (l.length * 2) cur.toList = inner := r4
      rw [← r4', List.getElem?_take_of_lt hl, Array.getElem?_toList] at hj
      exact hj
theorem slit0 (w : World) : ∃ w1 ge, (Instr.buildSlice SgS 0 #[]).run Tryz.prog w = .ok (.slice (some ⟨ge, 0, none⟩) 0 0) w1 ∧ RowS w1 w.heap.size (.slice (some ⟨ge, 0, none⟩) 0 0) [] ∧ w.heap.size ≤ ge ∧ ge < w1.heap.size ∧ w.grownBy w1 none := by
  refine ⟨w.alloc (.cells #[] SgT), w.heap.size, by kernel_rfl, ⟨[], ⟨rfl, .inr ⟨w.heap.size, 0, #[], rfl, Nat.le_refl _, heap_alloc_last w _, Nat.le_refl _, Nat.zero_le _, rfl, rfl⟩⟩, Reps.none _ _⟩, Nat.le_refl _, blk_lt (heap_alloc_last w _), World.grownBy_alloc w _ none⟩
theorem slit1 (w : World) (a b : Int) : ∃ w1 gx, (Instr.buildSlice SgS 1 #[(0, .agg #[.int .i64 a, .int .i64 b])]).run Tryz.prog w = .ok (.slice (some ⟨gx, 0, none⟩) 1 1) w1 ∧ RowS w1 w.heap.size (.slice (some ⟨gx, 0, none⟩) 1 1) [⟨a, b⟩] ∧ w.heap.size ≤ gx ∧ gx < w1.heap.size ∧ w.grownBy w1 none := by
  refine ⟨w.alloc (.cells #[.int .i64 a, .int .i64 b] SgT), w.heap.size, by kernel_rfl, ⟨scl ⟨a, b⟩, ⟨rfl, .inr ⟨w.heap.size, 1, _, rfl, Nat.le_refl _, heap_alloc_last w _, Nat.le_refl _, by unfold maxLen; omega, rfl, rfl⟩⟩, rfl, fun j p hj => ?_⟩, Nat.le_refl _, blk_lt (heap_alloc_last w _), World.grownBy_alloc w _ none⟩
  match j, hj with
  | 0, hj => obtain rfl : (⟨a, b⟩ : S39) = p := by simpa using hj
             rfl
  | j + 1, hj => simp at hj
/-- append(r, v...): both rows. -/
theorem sapp {r : Value} (hR : RowS w B r l) (hV : RowS w B' v m) (hb : B ≤ w.heap.size) (hl : l.length ≤ 1000000) (hm : m.length ≤ 1000000) :
    ∃ y w3, (Builtin.append_ #[SgS, SgS] SgS #[r, v]).run Tryz.prog w = .ok y w3 ∧ RowS w3 B y (l ++ m) ∧ w.grownBy w3 r.ownBlock ∧ (y.ownBlock = r.ownBlock ∨ y.ownBlock = some w.heap.size) := by
  rcases hV.fn with ⟨rfl, rfl⟩ | ⟨g, cap, inner, rfl, _, hcap, _, hlen, hp, hone, hc⟩
  · refine ⟨r, w, ?_, by rw [List.append_nil]; exact hR, ⟨rfl, rfl, rfl, Nat.le_refl _, fun _ _ _ => rfl⟩, Or.inl rfl⟩
    obtain ⟨i0, hi, _⟩ := infoS
    have ht := Tryz.underlying23
    rcases hR.fn with ⟨rfl, rfl⟩ | ⟨g, cap, inner, rfl, _, hnc, _⟩
    · simp [Builtin.append_, run_underlying ht, sizeOf, typeInfo, hi, Builtin.lenOf, Builtin.firstCells]
    · simp [Builtin.append_, run_underlying ht, sizeOf, typeInfo, hi, Builtin.lenOf, Builtin.firstCells, hnc, storeCells]
  · obtain ⟨i0, hi0, hz0, hz1, hz2⟩ := infoS
    obtain ⟨inl, ho, hpl⟩ := hR
    obtain ⟨y, w3, h1, h2, h3, _, h5⟩ := run_append_own_at (P := Tryz.prog) w B SgS SgS SgT i0 (.agg #[.int .i64 0, .int .i64 0]) 2 16 Tryz.underlying23 hi0 hz0 hz1 hz2 rfl (by decide) r l.length inl ho ⟨g, 0, none⟩ m.length cap inner hlen hc hone (by unfold maxLen; omega) (by omega) hb
    refine ⟨y, w3, h1, ⟨inl ++ inner, ?_, Kd.reps_append hpl hp⟩, h3, h5⟩
    rw [List.length_append]
    exact h2
end
theorem s_index {w : World} {a : Addr} {L cap i : Nat} (hi : i < L) : (Instr.indexAt SgS (.slice (some a) L cap) (.int .i64 i)).run Tryz.prog w = .ok (.pointer (some (a.add (i * 2)))) w := by
  have hs : (sizeOf SgT).run Tryz.prog w = .ok 2 w := by kernel_rfl
  have hu := run_underlying Tryz.underlying23 w
  have hb : (0 : Int) ≤ (i : Int) ∧ (i : Int) < (L : Int) := by omega
  simp [Instr.indexAt, asIntOf, Sem.run_bind, hu, hs, Result.andThen, hb, hi]
end Go.Proofs.YtikbgoppmailjaaGreatDoor.H
-- Written by hp.py (a program of this session, over the kit's print.py), with hand-made contracts beside it.
namespace Go.Proofs.YtikbgoppmailjaaGreatDoor.H
open Go.RowKit Go.Proofs.YtikbgoppmailjaaGreatDoorW.PrintWords Go.Proofs.YtikbgoppmailjaaGreatDoorW.PrintLast Go.Proofs.YtikbgoppmailjaaGreatDoorW.PrintMore
attribute [local go_sem] max2_int min2_int max_two min_two max_three min_three max_four min_four   -- for this text's walks alone
set_option linter.unusedVariables false
set_option linter.unusedSimpArgs false

/-! ### remontoirref14_begin: function 48 -/
mutual
def remontoirref14_begin.l0 : Nat → List (S39) → Int → Int → Option (Int)
  | 0, _, _, _ => none
  | k + 1, x0, x5, x6 => if 0 ≤ x6 then (if x6 < (x0.length : Int) then (if ((rd_T39 x0 x6).f0) = 1 then (remontoirref14_begin.j1 k x0 x5 x6 ((rd_T39 x0 x6).f0) true) else (remontoirref14_begin.j1 k x0 x5 x6 ((rd_T39 x0 x6).f0) (((rd_T39 x0 x6).f0) == 2))) else (none)) else (none)
def remontoirref14_begin.j1 : Nat → List (S39) → Int → Int → Int → Bool → Option (Int)
  | 0, _, _, _, _, _ => none
  | k + 1, x0, x5, x6, x7, x16 => if x16 = true then (if (wrap64 (x5 - 1)) = 0 then (some x6) else (remontoirref14_begin.l0 k x0 (wrap64 (x5 - 1)) (wrap64 (x6 - 1)))) else (if x7 = 19 then (remontoirref14_begin.j2 k x0 x5 x6 false) else (remontoirref14_begin.j2 k x0 x5 x6 (x7 != 14)))
def remontoirref14_begin.j2 : Nat → List (S39) → Int → Int → Bool → Option (Int)
  | 0, _, _, _, _ => none
  | k + 1, x0, x5, x6, x25 => if x25 = true then (if (wrap64 (x5 + 1)) = 0 then (some x6) else (remontoirref14_begin.l0 k x0 (wrap64 (x5 + 1)) (wrap64 (x6 - 1)))) else (if x5 = 0 then (some x6) else (remontoirref14_begin.l0 k x0 x5 (wrap64 (x6 - 1))))
end
def remontoirref14_begin.f (k : Nat) (l0 : List (S39)) (a1 : Int) : Option (Int) := remontoirref14_begin.l0 k l0 1 a1
theorem remontoirref14_begin.mono_l : ∀ k, (∀ y0 y1 y2, LeO (remontoirref14_begin.l0 k y0 y1 y2) (remontoirref14_begin.l0 (k + 1) y0 y1 y2)) ∧ (∀ y0 y1 y2 y3 y4, LeO (remontoirref14_begin.j1 k y0 y1 y2 y3 y4) (remontoirref14_begin.j1 (k + 1) y0 y1 y2 y3 y4)) ∧ (∀ y0 y1 y2 y3, LeO (remontoirref14_begin.j2 k y0 y1 y2 y3) (remontoirref14_begin.j2 (k + 1) y0 y1 y2 y3))
  | 0 => ⟨fun _ _ _ r h => by simp [remontoirref14_begin.l0] at h, fun _ _ _ _ _ r h => by simp [remontoirref14_begin.j1] at h, fun _ _ _ _ r h => by simp [remontoirref14_begin.j2] at h⟩
  | k + 1 => by
    obtain ⟨ih0, ih1, ih2⟩ := remontoirref14_begin.mono_l k
    refine ⟨?_, ?_, ?_⟩
    · intro y0 y1 y2
      unfold remontoirref14_begin.l0
      repeat' first
      | (with_reducible exact ih0 _ _ _)
      | (with_reducible exact ih1 _ _ _ _ _)
      | (with_reducible exact ih2 _ _ _ _)
      | (with_reducible exact LeO.refl _)
      | (with_reducible exact LeO.none _)
      | (with_reducible refine LeO.ite ?_ ?_)
      | (with_reducible refine LeO.bind ?_ (fun _ => ?_))
      | exact ih0 _ _ _
      | exact ih1 _ _ _ _ _
      | exact ih2 _ _ _ _
      | exact LeO.none _
      | refine LeO.ite ?_ ?_
      | refine LeO.bind ?_ (fun _ => ?_)
    · intro y0 y1 y2 y3 y4
      unfold remontoirref14_begin.j1
      repeat' first
      | (with_reducible exact ih0 _ _ _)
      | (with_reducible exact ih1 _ _ _ _ _)
      | (with_reducible exact ih2 _ _ _ _)
      | (with_reducible exact LeO.refl _)
      | (with_reducible exact LeO.none _)
      | (with_reducible refine LeO.ite ?_ ?_)
      | (with_reducible refine LeO.bind ?_ (fun _ => ?_))
      | exact ih0 _ _ _
      | exact ih1 _ _ _ _ _
      | exact ih2 _ _ _ _
      | exact LeO.none _
      | refine LeO.ite ?_ ?_
      | refine LeO.bind ?_ (fun _ => ?_)
    · intro y0 y1 y2 y3
      unfold remontoirref14_begin.j2
      repeat' first
      | (with_reducible exact ih0 _ _ _)
      | (with_reducible exact ih1 _ _ _ _ _)
      | (with_reducible exact ih2 _ _ _ _)
      | (with_reducible exact LeO.refl _)
      | (with_reducible exact LeO.none _)
      | (with_reducible refine LeO.ite ?_ ?_)
      | (with_reducible refine LeO.bind ?_ (fun _ => ?_))
      | exact ih0 _ _ _
      | exact ih1 _ _ _ _ _
      | exact ih2 _ _ _ _
      | exact LeO.none _
      | refine LeO.ite ?_ ?_
      | refine LeO.bind ?_ (fun _ => ?_)
theorem remontoirref14_begin.mono : ∀ a0 a1 k, LeO (remontoirref14_begin.f k a0 a1) (remontoirref14_begin.f (k + 1) a0 a1) := by
  intro a0 a1 k
  obtain ⟨ih0, ih1, ih2⟩ := remontoirref14_begin.mono_l k
  unfold remontoirref14_begin.f
  repeat' first
      | (with_reducible exact ih0 _ _ _)
      | (with_reducible exact ih1 _ _ _ _ _)
      | (with_reducible exact ih2 _ _ _ _)
      | (with_reducible exact LeO.refl _)
      | (with_reducible exact LeO.none _)
      | (with_reducible refine LeO.ite ?_ ?_)
      | (with_reducible refine LeO.bind ?_ (fun _ => ?_))
      | exact ih0 _ _ _
      | exact ih1 _ _ _ _ _
      | exact ih2 _ _ _ _
      | exact LeO.none _
      | refine LeO.ite ?_ ?_
      | refine LeO.bind ?_ (fun _ => ?_)
set_option maxHeartbeats 8000000 in
set_option maxRecDepth 100000 in
theorem remontoirref14_begin.calls (k : Nat) (A0 : Option Addr) (c0 : Nat) (l0 : List (S39)) (a1 : Int) (r : Int) (w : World) (hr0 : Kd.C k39 w A0 l0.length l0) (hc0 : l0.length ≤ c0) (h : remontoirref14_begin.f k l0 a1 = some r) :
  Calls Tryz.prog 48 #[.slice A0 l0.length c0, .int .i64 a1] w fun e w' => e = .returned (.int .i64 r) ∧ Drawn0 w w' := by
 have HR0 := Aside0.mk hr0
 have HC0 := Aside0.mk hc0
 clear hr0 hc0
 have H : (remontoirref14_begin.l0 k l0 1 a1) = some r := h
 clear h
 have H' := Aside0.mk H
 clear H
 go_enter Tryz.func48, Tryz.ntmps48
 go_wp2
 go_loopg [5, 6] k (fun kq v5 v6 w' => ∃ (x5_1 : Int) (x6_1 : Int), v5 = .int .i64 x5_1 ∧ v6 = .int .i64 x6_1 ∧ Aside0 (remontoirref14_begin.l0 kq l0 x5_1 x6_1 = some r) ∧ Aside0 (kq ≤ k) ∧ Drawn0 w w')
 case atStart => exact ⟨(1), (a1), (by first | rfl | (simp; done) | (simp [*]; done)), (by first | rfl | (simp; done) | (simp [*]; done)), H', ⟨Nat.le_refl _⟩, by repeat (first | exact Drawn0.refl _ | apply Drawn0.step)⟩
 case round =>
  clear H'
  try clear p2
  obtain ⟨x5_1, x6_1, rfl, rfl, HA, HK1, ⟨m1, rfl⟩⟩ := hrel
  cases gk with
  | zero => exact absurd HA.out (by simp [remontoirref14_begin.l0])
  | succ k1 =>
   have H := HA.out
   clear HA
   simp only [remontoirref14_begin.l0] at H
   by_cases c3 : 0 ≤ x6_1
   ·rw [if_pos c3] at H
    have c3b0 : decide (0 ≤ x6_1) = true := decide_eq_true c3
    clear c3
    by_cases c4 : x6_1 < (l0.length : Int)
    ·rw [if_pos c4] at H
     have c4b0 : decide (x6_1 < (l0.length : Int)) = true := decide_eq_true c4
     clear c4
     have HC5 := Aside0.mk H
     clear H
     have p232 : 0 ≤ (x6_1 : Int) := of_decide_eq_true (by first | (with_reducible assumption) | assumption)
     have q232 : x6_1 < (l0.length : Int) := of_decide_eq_true (by first | (with_reducible assumption) | assumption)
     obtain ⟨ad232, e232, hx232_0, hx232_1⟩ := at_T39 HR0.out x6_1 p232 q232
     cases e232
     replace p232 := eq_true p232
     replace q232 := eq_true q232
     go_upto_region 4 with (fail)
     go_cut [16] (fun v16 wc => ∃ (kq : Nat) (x16_4 : Bool), v16 = .bool x16_4 ∧ Aside0 (remontoirref14_begin.j1 kq l0 x5_1 x6_1 ((rd_T39 l0 x6_1).f0) x16_4 = some r) ∧ Aside0 (kq ≤ k1) ∧ Drawn0 w wc)
     case first =>
      have H := HC5.out
      clear HC5
      by_cases c6 : ((rd_T39 l0 x6_1).f0) = 1
      ·rw [if_pos c6] at H
       have c6b0 : (((rd_T39 l0 x6_1).f0) == 1) = true := beq_iff_eq.mpr c6
       have c6b1 : (((rd_T39 l0 x6_1).f0) != 1) = false := bne_eq_false_iff_eq.mpr c6
       clear c6
       (first | rw [c6b0] | (simp only [i64_w, i32_w]; rw [c6b0]) | skip)
       have H' := Aside0.mk H
       clear H
       go_wp2
       go_meet
       case rel => exact ⟨_, (true), (by first | rfl | (simp; done) | (simp [*]; done)), H', ⟨by have := HK1.out; first | omega | exact Nat.le_refl _⟩, by repeat (first | exact Drawn0.refl _ | apply Drawn0.step)⟩
      ·rw [if_neg c6] at H
       have c6b0 : (((rd_T39 l0 x6_1).f0) == 1) = false := beq_eq_false_iff_ne.mpr c6
       have c6b1 : (((rd_T39 l0 x6_1).f0) != 1) = true := bne_iff_ne.mpr c6
       (first | rw [c6b0] | (simp only [i64_w, i32_w]; rw [c6b0]) | skip)
       have H' := Aside0.mk H
       clear H
       go_wp2
       go_meet
       case rel => exact ⟨_, ((((rd_T39 l0 x6_1).f0) == 2)), (by first | rfl | (simp; done) | (simp [*]; done)), H', ⟨by have := HK1.out; first | omega | exact Nat.le_refl _⟩, by repeat (first | exact Drawn0.refl _ | apply Drawn0.step)⟩
     case rest =>
      clear HC5
      try clear p2
      try clear q2
      try clear hx2
      try clear c3
      try clear c3b0
      try clear c4
      try clear c4b0
      try clear c6
      try clear c6b0
      try clear c6b1
      try clear hx232_0
      try clear hx232_1
      try clear p2
      try clear p232
      try clear q232
      obtain ⟨kq, x16_4, rfl, HA, HJ4, ⟨mc4, rfl⟩⟩ := hcut
      cases kq with
      | zero => exact absurd HA.out (by simp [remontoirref14_begin.j1])
      | succ kj4 =>
       have H := HA.out
       clear HA
       simp only [remontoirref14_begin.j1] at H
       by_cases c7 : x16_4 = true
       ·subst c7
        have H1 : (if (wrap64 (x5_1 - 1)) = 0 then (some x6_1) else (remontoirref14_begin.l0 kj4 l0 (wrap64 (x5_1 - 1)) (wrap64 (x6_1 - 1)))) = some r := by rw [if_pos rfl] at H; exact H
        clear H
        have H := H1
        clear H1
        by_cases c8 : (wrap64 (x5_1 - 1)) = 0
        ·rw [if_pos c8] at H
         have c8b0 : ((wrap64 (x5_1 - 1)) == 0) = true := beq_iff_eq.mpr c8
         have c8b1 : ((wrap64 (x5_1 - 1)) != 0) = false := bne_eq_false_iff_eq.mpr c8
         clear c8
         obtain rfl := Option.some.inj H
         go_wp2
         go_ret
         exact ⟨by first | rfl | (simp; done) | (simp [*]; done), by repeat (first | exact Drawn0.refl _ | apply Drawn0.step)⟩
        ·rw [if_neg c8] at H
         have c8b0 : ((wrap64 (x5_1 - 1)) == 0) = false := beq_eq_false_iff_ne.mpr c8
         have c8b1 : ((wrap64 (x5_1 - 1)) != 0) = true := bne_iff_ne.mpr c8
         have H' := Aside0.mk H
         clear H
         go_wp2
         go_roundg kj4
         case measure => have := HK1.out; have := HJ4.out; omega
         case rel => exact ⟨(wrap64 (x5_1 - 1)), (wrap64 (x6_1 - 1)), (by first | rfl | (simp; done) | (simp [*]; done)), (by first | rfl | (simp; done) | (simp [*]; done)), H', ⟨by have := HK1.out; have := HJ4.out; omega⟩, by repeat (first | exact Drawn0.refl _ | apply Drawn0.step)⟩
       ·replace c7 := Bool.eq_false_iff.mpr c7
        subst c7
        have H1 : (if ((rd_T39 l0 x6_1).f0) = 19 then (remontoirref14_begin.j2 kj4 l0 x5_1 x6_1 false) else (remontoirref14_begin.j2 kj4 l0 x5_1 x6_1 (((rd_T39 l0 x6_1).f0) != 14))) = some r := by rw [if_neg (show ¬ (false = true) by decide)] at H; exact H
        clear H
        have H := H1
        clear H1
        have HC9 := Aside0.mk H
        clear H
        go_upto_region 6 with (fail)
        go_cut [25] (fun v25 wc => ∃ (kq : Nat) (x25_8 : Bool), v25 = .bool x25_8 ∧ Aside0 (remontoirref14_begin.j2 kq l0 x5_1 x6_1 x25_8 = some r) ∧ Aside0 (kq ≤ kj4) ∧ Drawn0 w wc)
        case first =>
         have H := HC9.out
         clear HC9
         by_cases c10 : ((rd_T39 l0 x6_1).f0) = 19
         ·rw [if_pos c10] at H
          have c10b0 : (((rd_T39 l0 x6_1).f0) == 19) = true := beq_iff_eq.mpr c10
          have c10b1 : (((rd_T39 l0 x6_1).f0) != 19) = false := bne_eq_false_iff_eq.mpr c10
          clear c10
          (first | rw [c10b0] | (simp only [i64_w, i32_w]; rw [c10b0]) | skip)
          have H' := Aside0.mk H
          clear H
          go_wp2
          go_meet
          case rel => exact ⟨_, (false), (by first | rfl | (simp; done) | (simp [*]; done)), H', ⟨by have := HK1.out; have := HJ4.out; first | omega | exact Nat.le_refl _⟩, by repeat (first | exact Drawn0.refl _ | apply Drawn0.step)⟩
         ·rw [if_neg c10] at H
          have c10b0 : (((rd_T39 l0 x6_1).f0) == 19) = false := beq_eq_false_iff_ne.mpr c10
          have c10b1 : (((rd_T39 l0 x6_1).f0) != 19) = true := bne_iff_ne.mpr c10
          (first | rw [c10b0] | (simp only [i64_w, i32_w]; rw [c10b0]) | skip)
          have H' := Aside0.mk H
          clear H
          go_wp2
          go_meet
          case rel => exact ⟨_, ((((rd_T39 l0 x6_1).f0) != 14)), (by first | rfl | (simp; done) | (simp [*]; done)), H', ⟨by have := HK1.out; have := HJ4.out; first | omega | exact Nat.le_refl _⟩, by repeat (first | exact Drawn0.refl _ | apply Drawn0.step)⟩
        case rest =>
         clear HC9
         try clear c1
         try clear p2
         try clear q2
         try clear hx2
         try clear c3
         try clear c3b0
         try clear c4
         try clear c4b0
         try clear c6
         try clear c6b0
         try clear c6b1
         try clear p6
         try clear c7
         try clear c8
         try clear c8b0
         try clear c8b1
         try clear c10
         try clear c10b0
         try clear c10b1
         try clear hx232_0
         try clear hx232_1
         try clear p2
         try clear p232
         try clear q2
         try clear q232
         obtain ⟨kq, x25_8, rfl, HA, HJ8, ⟨mc8, rfl⟩⟩ := hcut
         cases kq with
         | zero => exact absurd HA.out (by simp [remontoirref14_begin.j2])
         | succ kj8 =>
          have H := HA.out
          clear HA
          simp only [remontoirref14_begin.j2] at H
          by_cases c11 : x25_8 = true
          ·subst c11
           have H1 : (if (wrap64 (x5_1 + 1)) = 0 then (some x6_1) else (remontoirref14_begin.l0 kj8 l0 (wrap64 (x5_1 + 1)) (wrap64 (x6_1 - 1)))) = some r := by rw [if_pos rfl] at H; exact H
           clear H
           have H := H1
           clear H1
           by_cases c12 : (wrap64 (x5_1 + 1)) = 0
           ·rw [if_pos c12] at H
            have c12b0 : ((wrap64 (x5_1 + 1)) == 0) = true := beq_iff_eq.mpr c12
            have c12b1 : ((wrap64 (x5_1 + 1)) != 0) = false := bne_eq_false_iff_eq.mpr c12
            clear c12
            obtain rfl := Option.some.inj H
            go_wp2
            go_ret
            exact ⟨by first | rfl | (simp; done) | (simp [*]; done), by repeat (first | exact Drawn0.refl _ | apply Drawn0.step)⟩
           ·rw [if_neg c12] at H
            have c12b0 : ((wrap64 (x5_1 + 1)) == 0) = false := beq_eq_false_iff_ne.mpr c12
            have c12b1 : ((wrap64 (x5_1 + 1)) != 0) = true := bne_iff_ne.mpr c12
            have H' := Aside0.mk H
            clear H
            go_wp2
            go_roundg kj8
            case measure => have := HK1.out; have := HJ4.out; have := HJ8.out; omega
            case rel => exact ⟨(wrap64 (x5_1 + 1)), (wrap64 (x6_1 - 1)), (by first | rfl | (simp; done) | (simp [*]; done)), (by first | rfl | (simp; done) | (simp [*]; done)), H', ⟨by have := HK1.out; have := HJ4.out; have := HJ8.out; omega⟩, by repeat (first | exact Drawn0.refl _ | apply Drawn0.step)⟩
          ·replace c11 := Bool.eq_false_iff.mpr c11
           subst c11
           have H1 : (if x5_1 = 0 then (some x6_1) else (remontoirref14_begin.l0 kj8 l0 x5_1 (wrap64 (x6_1 - 1)))) = some r := by rw [if_neg (show ¬ (false = true) by decide)] at H; exact H
           clear H
           have H := H1
           clear H1
           by_cases c13 : x5_1 = 0
           ·rw [if_pos c13] at H
            have c13b0 : (x5_1 == 0) = true := beq_iff_eq.mpr c13
            have c13b1 : (x5_1 != 0) = false := bne_eq_false_iff_eq.mpr c13
            clear c13
            obtain rfl := Option.some.inj H
            go_wp2
            go_ret
            exact ⟨by first | rfl | (simp; done) | (simp [*]; done), by repeat (first | exact Drawn0.refl _ | apply Drawn0.step)⟩
           ·rw [if_neg c13] at H
            have c13b0 : (x5_1 == 0) = false := beq_eq_false_iff_ne.mpr c13
            have c13b1 : (x5_1 != 0) = true := bne_iff_ne.mpr c13
            have H' := Aside0.mk H
            clear H
            go_wp2
            go_roundg kj8
            case measure => have := HK1.out; have := HJ4.out; have := HJ8.out; omega
            case rel => exact ⟨(x5_1), (wrap64 (x6_1 - 1)), (by first | rfl | (simp; done) | (simp [*]; done)), (by first | rfl | (simp; done) | (simp [*]; done)), H', ⟨by have := HK1.out; have := HJ4.out; have := HJ8.out; omega⟩, by repeat (first | exact Drawn0.refl _ | apply Drawn0.step)⟩
    ·rw [if_neg c4] at H
     exact absurd H (by simp)
   ·rw [if_neg c3] at H
    exact absurd H (by simp)

end Go.Proofs.YtikbgoppmailjaaGreatDoor.H
/- The document's Good of chapter 14 is guard.Good's. -/
namespace Go.Proofs.YtikbgoppmailjaaGreatDoor.Pure
open Go.RowKit Go.Proofs.YtikbgoppmailjaaGreatDoor.H Go.Proofs.YtikbgoppmailjaaGreatDoorW.PrintWords Go.Proofs.YtikbgoppmailjaaGreatDoorW.PrintLast Go.Proofs.YtikbgoppmailjaaGreatDoorW.PrintMore
set_option linter.unusedVariables false
set_option linter.unusedSimpArgs false
theorem top1 (a : Bool) (st : List Bool) (h : st.length ≤ 100000) : wrap64 (((a :: st).reverse.length : Int) - 1) = (st.length : Int) ∧ rdOf false (a :: st).reverse (st.length : Int) = a := by
  constructor
  · simp only [List.length_reverse, List.length_cons]
    unfold wrap64
    omega
  · unfold rdOf
    rw [Int.toNat_natCast, List.getD_eq_getElem?_getD, List.reverse_cons, List.getElem?_append_right (by simp), List.length_reverse, Nat.sub_self]
    rfl
theorem top2 (a b : Bool) (st : List Bool) (h : st.length ≤ 100000) : wrap64 (((a :: b :: st).reverse.length : Int) - 2) = (st.length : Int) ∧ rdOf false (a :: b :: st).reverse (st.length : Int) = b := by
  constructor
  · simp only [List.length_reverse, List.length_cons]
    unfold wrap64
    omega
  · unfold rdOf
    rw [Int.toNat_natCast, List.getD_eq_getElem?_getD, List.reverse_cons, List.reverse_cons, List.append_assoc, List.getElem?_append_right (by simp), List.length_reverse, Nat.sub_self]
    rfl
theorem cut1 (a : Bool) (st : List Bool) : (a :: st).reverse.take st.length = st.reverse := by
  rw [List.reverse_cons, List.take_append_of_le_length (by simp), List.take_of_length_le (by simp)]
theorem cut2 (a b : Bool) (st : List Bool) : (a :: b :: st).reverse.take st.length = st.reverse := by
  rw [List.reverse_cons, List.reverse_cons, List.append_assoc, List.take_append_of_le_length (by simp), List.take_of_length_le (by simp)]
theorem g13_1 (c : Int) : remontoirref13_Good.f 1 c = some (decide (0 ≤ c ∧ c ≤ 2147483647)) := by
  unfold remontoirref13_Good.f
  rw [if_pos rfl]
  by_cases h : c ≥ 0
  · rw [if_pos h]
    by_cases h2 : c ≤ 2147483647
    · rw [decide_eq_true h2, decide_eq_true ⟨h, h2⟩]
    · rw [decide_eq_false h2, decide_eq_false (fun q => h2 q.2)]
  · rw [if_neg h, decide_eq_false (fun q => h q.1)]
theorem g13_2 (c : Int) : remontoirref13_Good.f 2 c = some (decide (0 ≤ c ∧ c < 26)) := by
  unfold remontoirref13_Good.f
  rw [if_neg (by omega), if_pos rfl]
  by_cases h : c ≥ 0
  · rw [if_pos h]
    by_cases h2 : c < 26
    · rw [decide_eq_true h2, decide_eq_true ⟨h, h2⟩]
    · rw [decide_eq_false h2, decide_eq_false (fun q => h2 q.2)]
  · rw [if_neg h, decide_eq_false (fun q => h q.1)]
theorem tk_1 (c : Int) : tk 1 c = (if 0 ≤ c ∧ c ≤ 2147483647 then 0 else -1, false, false) := by
  unfold tk
  rw [if_pos rfl]
  split <;> rfl
theorem tk_2 (c : Int) : tk 2 c = (if 0 ≤ c ∧ c < 26 then 0 else -1, false, false) := by
  unfold tk
  rw [if_neg (by omega), if_pos rfl]
  split <;> rfl
set_option maxHeartbeats 1600000 in
/-- One sign, in the document's loop. -/
theorem step14 (l : List S39) (hl : l.length ≤ 100000) (k i : Nat) (st : List Bool) (hi : i < l.length) (hs : st.length ≤ i) (r : Option Bool)
  (next : ∀ st', st'.length ≤ i + 1 → ∀ m, k ≤ m → remontoirref14_Good.l0 m l st'.reverse ((i + 1 : Nat) : Int) = some (goS (l.drop (i + 1)) st')) :
  ∀ m, k + 5 ≤ m → remontoirref14_Good.l0 (m + 1) l st.reverse (i : Int) = some (goS (l.drop i) st) := by
 intro m hm
 obtain ⟨n, rfl⟩ : ∃ n, m = n + 4 := ⟨m - 4, by omega⟩
 have e : rd_T39 l (i : Int) = l[i] := by
  unfold rd_T39
  rw [Int.toNat_natCast, List.getD_eq_getElem?_getD, List.getElem?_eq_getElem hi]
  rfl
 have w2 : wrap64 ((i : Int) + 1) = ((i + 1 : Nat) : Int) := by unfold wrap64; omega
 have i0 : (0 : Int) ≤ (i : Int) := by omega
 have i1 : (i : Int) < (l.length : Int) := by omega
 have hst : st.length < 140737488355328 := by omega
 rw [List.drop_eq_getElem_cons hi]
 have nx := fun st' hst' j (hj : k ≤ j) => next st' hst' j hj
 generalize l.drop (i + 1) = rest at *
 generalize hse : l[i] = s at *
 obtain ⟨a, c⟩ := s
 simp only [remontoirref14_Good.l0, goS]
 rw [if_pos i1, if_pos i0, e]
 dsimp only
 by_cases h1 : a = 1
 ·subst h1
  rw [if_pos rfl]
  simp only [remontoirref14_Good.j1, if_true]
  rw [if_pos i0, if_pos i1, e]
  rw [g13_1, tk_1]
  by_cases h2 : 0 ≤ c ∧ c ≤ 2147483647
  ·rw [decide_eq_true h2, if_pos h2]
   simp only [Option.bind_some, if_true]
   have q := nx (false :: st) (by simp only [List.length_cons]; omega) (n + 3) (by omega)
   rw [List.reverse_cons] at q
   rw [if_pos (by rw [List.length_reverse]; exact hst), w2, q]
   simp
  ·rw [decide_eq_false h2, if_neg h2]
   simp
 ·rw [if_neg h1]
  by_cases h2 : a = 2
  ·subst h2
   simp only [remontoirref14_Good.j1, beq_self_eq_true, if_true]
   rw [if_pos i0, if_pos i1, e]
   rw [g13_2, tk_2]
   by_cases h3 : 0 ≤ c ∧ c < 26
   ·rw [decide_eq_true h3, if_pos h3]
    simp only [Option.bind_some, if_true]
    have q := nx (false :: st) (by simp only [List.length_cons]; omega) (n + 3) (by omega)
    rw [List.reverse_cons] at q
    rw [if_pos (by rw [List.length_reverse]; exact hst), w2, q]
    simp
   ·rw [decide_eq_false h3, if_neg h3]
    simp
  ·have hb2 : (a == 2) = false := beq_eq_false_iff_ne.2 h2
   rw [hb2]
   simp only [remontoirref14_Good.j1, Bool.false_eq_true, if_false]
   rw [if_pos i0, if_pos i1, e]
   dsimp only
   have htk : tk a c = if c ≠ 0 then (-1, false, false) else if a = 19 then (1, false, false) else if a = 3 ∨ a = 4 ∨ a = 5 then (2, false, false) else if 6 ≤ a ∧ a ≤ 11 then (2, false, true) else if a = 12 ∨ a = 13 then (2, true, true) else if a = 14 then (1, true, true) else (-1, false, false) := by
    unfold tk
    rw [if_neg h1, if_neg h2]
   by_cases hc : c = 0
   ·rw [if_pos hc]
    have htk0 := htk.trans (if_neg (show ¬ (c ≠ 0) from fun q => q hc))
    have hst2 : st.length ≤ 100000 := by omega
    by_cases h19 : a = 19
    ·rw [show tk a c = (1, false, false) from htk0.trans (if_pos h19), if_pos h19]
     dsimp only
     cases st with
     | nil => rfl
     | cons t st =>
      obtain ⟨q1, q2⟩ := top1 t st (by simp only [List.length_cons] at hst2; omega)
      have q := nx (t :: st) (by omega) (n + 3) (by omega)
      rw [if_neg (by simp only [List.length_reverse, List.length_cons]; omega), q1, if_pos (by omega), if_pos (by simp only [List.length_reverse, List.length_cons]; omega), q2, w2, q]
      cases t <;> (first | (simp; done) | (simp; omega))
    ·rw [if_neg h19]
     by_cases h14 : a = 14
     ·rw [show tk a c = (1, true, true) by rw [htk0, if_neg h19, if_neg (by omega), if_neg (by omega), if_neg (by omega), if_pos h14], if_pos h14]
      dsimp only
      cases st with
      | nil => rfl
      | cons t st =>
       obtain ⟨q1, q2⟩ := top1 t st (by simp only [List.length_cons] at hst2; omega)
       have q := nx (t :: st) (by omega) (n + 3) (by omega)
       rw [if_neg (by simp only [List.length_reverse, List.length_cons]; omega), q1, if_pos (by omega), if_pos (by simp only [List.length_reverse, List.length_cons]; omega), q2, w2, q]
       cases t <;> (first | (simp; done) | (simp; omega))
     ·rw [if_neg h14]
      have two : ∀ (x y : Bool) (tl : List Bool), tl.length + 2 ≤ i → wrap64 (((x :: y :: tl).reverse.length : Int) - 1) = ((tl.length + 1 : Nat) : Int) ∧ rdOf false (x :: y :: tl).reverse ((tl.length + 1 : Nat) : Int) = x ∧ wrap64 (((x :: y :: tl).reverse.length : Int) - 2) = (tl.length : Int) ∧ rdOf false (x :: y :: tl).reverse (tl.length : Int) = y := by
       intro x y tl htl
       obtain ⟨q1, q2⟩ := top1 x (y :: tl) (by simp only [List.length_cons]; omega)
       obtain ⟨q3, q4⟩ := top2 x y tl (by omega)
       exact ⟨q1, q2, q3, q4⟩
      by_cases h345 : a = 3 ∨ a = 4 ∨ a = 5
      ·rw [show tk a c = (2, false, false) by rw [htk0, if_neg h19, if_pos h345]]
       dsimp only
       have e5 : ∀ z : Option Bool, (if a = 3 then remontoirref14_Good.j2 (n + 3) l st.reverse (↑i) a (↑st.reverse.length) true else if a = 4 then remontoirref14_Good.j2 (n + 3) l st.reverse (↑i) a (↑st.reverse.length) true else remontoirref14_Good.j2 (n + 3) l st.reverse (↑i) a (↑st.reverse.length) (a == 5)) = remontoirref14_Good.j2 (n + 3) l st.reverse (↑i) a (↑st.reverse.length) true := by
        intro _
        by_cases g3 : a = 3
        ·rw [if_pos g3]
        ·rw [if_neg g3]
         by_cases g4 : a = 4
         ·rw [if_pos g4]
         ·rw [if_neg g4]
          have g5 : a = 5 := by omega
          rw [g5]
          rfl
       rw [e5 none]
       simp only [remontoirref14_Good.j2, if_true]
       match st, hs with
       | [], _ => rfl
       | [x], _ => cases x <;> rfl
       | x :: y :: tl, hs =>
        obtain ⟨q1, q2, q3, q4⟩ := two x y tl (by simpa using hs)
        have q := nx (y :: tl) (by simp only [List.length_cons] at hs ⊢; omega) (n + 2) (by omega)
        have ct : (x :: y :: tl).reverse.take (tl.length + 1) = (y :: tl).reverse := cut1 x (y :: tl)
        rw [if_neg (by simp only [List.length_reverse, List.length_cons]; omega), q1, if_pos (by omega), if_pos (by simp only [List.length_reverse, List.length_cons]; omega), q2]
        cases x with
        | true =>
         rw [if_pos (show (true = true) from rfl)]
         (first | (simp; done) | (simp; omega))
        | false =>
         rw [if_neg (show ¬ (false = true) by decide), q3, if_pos (by omega), if_pos (by simp only [List.length_reverse, List.length_cons]; omega), q4]
         cases y with
         | true =>
          rw [if_pos (show (true = true) from rfl)]
          (first | (simp; done) | (simp; omega))
         | false =>
          rw [if_neg (show ¬ (false = true) by decide), if_pos (by simp only [List.length_reverse, List.length_cons]; omega), Int.toNat_natCast, ct]
          rw [w2, q]
          (first | (simp; done) | (simp; omega))
      ·rw [if_neg (show ¬ a = 3 by omega), if_neg (show ¬ a = 4 by omega)]
       have hb5 : (a == 5) = false := beq_eq_false_iff_ne.2 (by omega)
       rw [hb5]
       simp only [remontoirref14_Good.j2, Bool.false_eq_true, if_false]
       have e3 : (if a ≥ 6 then remontoirref14_Good.j3 (n + 2) l st.reverse (↑i) a (↑st.reverse.length) (decide (a ≤ 11)) else remontoirref14_Good.j3 (n + 2) l st.reverse (↑i) a (↑st.reverse.length) false) = remontoirref14_Good.j3 (n + 2) l st.reverse (↑i) a (↑st.reverse.length) (decide (6 ≤ a ∧ a ≤ 11)) := by
        by_cases g : a ≥ 6
        ·rw [if_pos g]
         have : (decide (a ≤ 11)) = decide (6 ≤ a ∧ a ≤ 11) := by
          by_cases g2 : a ≤ 11
          ·rw [decide_eq_true g2, decide_eq_true ⟨g, g2⟩]
          ·rw [decide_eq_false g2, decide_eq_false (fun q => g2 q.2)]
         rw [this]
        ·rw [if_neg g, decide_eq_false (fun q => g q.1)]
       rw [e3]
       by_cases h611 : 6 ≤ a ∧ a ≤ 11
       ·rw [show tk a c = (2, false, true) by rw [htk0, if_neg h19, if_neg h345, if_pos h611], decide_eq_true h611]
        dsimp only
        simp only [remontoirref14_Good.j3, if_true]
        match st, hs with
        | [], _ => rfl
        | [x], _ => cases x <;> rfl
        | x :: y :: tl, hs =>
         obtain ⟨q1, q2, q3, q4⟩ := two x y tl (by simpa using hs)
         have q := nx (true :: tl) (by simp only [List.length_cons] at hs ⊢; omega) (n + 1) (by omega)
         rw [List.reverse_cons] at q
         have ct : (x :: y :: tl).reverse.take tl.length = tl.reverse := cut2 x y tl
         rw [if_neg (by simp only [List.length_reverse, List.length_cons]; omega), q1, if_pos (by omega), if_pos (by simp only [List.length_reverse, List.length_cons]; omega), q2]
         cases x with
         | true =>
          rw [if_pos (show (true = true) from rfl)]
          (first | (simp; done) | (simp; omega))
         | false =>
          rw [if_neg (show ¬ (false = true) by decide), q3, if_pos (by omega), if_pos (by simp only [List.length_reverse, List.length_cons]; omega), q4]
          cases y with
          | true =>
           rw [if_pos (show (true = true) from rfl)]
           (first | (simp; done) | (simp; omega))
          | false =>
           rw [if_neg (show ¬ (false = true) by decide), if_pos (by simp only [List.length_reverse, List.length_cons]; omega), Int.toNat_natCast, ct]
           simp only [Option.bind_some]
           rw [if_pos (by rw [List.length_reverse]; simp only [List.length_cons] at hst2; omega), w2, q]
           (first | (simp; done) | (simp; omega))
       ·rw [decide_eq_false h611]
        simp only [remontoirref14_Good.j3, Bool.false_eq_true, if_false]
        have e4 : (if a = 12 then remontoirref14_Good.j4 (n + 1) l st.reverse (↑i) (↑st.reverse.length) true else remontoirref14_Good.j4 (n + 1) l st.reverse (↑i) (↑st.reverse.length) (a == 13)) = remontoirref14_Good.j4 (n + 1) l st.reverse (↑i) (↑st.reverse.length) (decide (a = 12 ∨ a = 13)) := by
         by_cases g : a = 12
         ·rw [if_pos g, decide_eq_true (Or.inl g)]
         ·rw [if_neg g]
          by_cases g2 : a = 13
          ·rw [decide_eq_true (Or.inr g2), g2]
           rfl
          ·rw [beq_eq_false_iff_ne.2 g2, decide_eq_false (by omega)]
        rw [e4]
        by_cases h12 : a = 12 ∨ a = 13
        ·rw [show tk a c = (2, true, true) by rw [htk0, if_neg h19, if_neg h345, if_neg h611, if_pos h12], decide_eq_true h12]
         dsimp only
         simp only [remontoirref14_Good.j4, if_true]
         match st, hs with
         | [], _ => rfl
         | [x], _ => cases x <;> rfl
         | x :: y :: tl, hs =>
          obtain ⟨q1, q2, q3, q4⟩ := two x y tl (by simpa using hs)
          have q := nx (y :: tl) (by simp only [List.length_cons] at hs ⊢; omega) n (by omega)
          have ct : (x :: y :: tl).reverse.take (tl.length + 1) = (y :: tl).reverse := cut1 x (y :: tl)
          rw [if_neg (by simp only [List.length_reverse, List.length_cons]; omega), q1, if_pos (by omega), if_pos (by simp only [List.length_reverse, List.length_cons]; omega), q2]
          cases x with
          | false =>
           rw [if_neg (show ¬ (false = true) by decide)]
           (first | (simp; done) | (simp; omega))
          | true =>
           rw [if_pos (show (true = true) from rfl), q3, if_pos (by omega), if_pos (by simp only [List.length_reverse, List.length_cons]; omega), q4]
           cases y with
           | false =>
            rw [if_neg (show ¬ (false = true) by decide)]
            (first | (simp; done) | (simp; omega))
           | true =>
            rw [if_pos (show (true = true) from rfl), if_pos (by simp only [List.length_reverse, List.length_cons]; omega), Int.toNat_natCast, ct]
            rw [w2, q]
            (first | (simp; done) | (simp; omega))
        ·rw [show tk a c = (-1, false, false) by rw [htk0, if_neg h19, if_neg h345, if_neg h611, if_neg h12, if_neg h14], decide_eq_false h12]
         simp only [remontoirref14_Good.j4, Bool.false_eq_true, if_false]
         simp
   ·rw [if_neg hc, show tk a c = (-1, false, false) from htk.trans (if_pos hc)]
    simp
theorem good14_loop (l : List S39) (hl : l.length ≤ 100000) : ∀ (d i : Nat) (st : List Bool), i + d = l.length → st.length ≤ i → ∀ k, 6 * d + 10 ≤ k → remontoirref14_Good.l0 k l st.reverse (i : Int) = some (goS (l.drop i) st)
  | 0, i, st, h, hs, 0, hk => by omega
  | 0, i, st, h, hs, k + 1, hk => by
    obtain rfl : i = l.length := by omega
    simp only [remontoirref14_Good.l0]
    rw [if_neg (by omega), List.drop_length, List.length_reverse]
    match st with
    | [] => rfl
    | [b] => cases b <;> rfl
    | a :: b :: st =>
      rw [if_neg (by simp only [List.length_cons]; omega)]
      simp [goS]
  | d + 1, i, st, h, hs, 0, hk => by omega
  | d + 1, i, st, h, hs, k + 1, hk => step14 l hl (6 * d + 10) i st (by omega) hs none (fun st' hst' m hm => good14_loop l hl d (i + 1) st' (by omega) hst' m hm) k (by omega)
theorem good14 (l : List S39) (hl : l.length ≤ 100000) (k : Nat) (hk : 6 * l.length + 10 ≤ k) : remontoirref14_Good.f k l = some (goS l []) := by
  have := good14_loop l hl l.length 0 [] (by omega) (Nat.le_refl _) k hk
  rw [List.reverse_nil, List.drop_zero] at this
  unfold remontoirref14_Good.f
  exact this
end Go.Proofs.YtikbgoppmailjaaGreatDoor.Pure
/- The signs that Good takes are a guard, behind. -/
namespace Go.Proofs.YtikbgoppmailjaaGreatDoor.Pure
open Go.RowKit Go.Proofs.YtikbgoppmailjaaGreatDoor.H Go.Proofs.YtikbgoppmailjaaGreatDoorW.PrintWords Go.Proofs.YtikbgoppmailjaaGreatDoorW.PrintLast Go.Proofs.YtikbgoppmailjaaGreatDoorW.PrintMore
set_option linter.unusedVariables false
set_option linter.unusedSimpArgs false
/-- What lies there, laid out. -/
def flat : List (Bool × List S39) → List S39
  | [] => []
  | x :: ps => flat ps ++ x.2
end Go.Proofs.YtikbgoppmailjaaGreatDoor.Pure
/- Where a part of a guard begins. -/
namespace Go.Proofs.YtikbgoppmailjaaGreatDoor.Pure
open Go.RowKit Go.Proofs.YtikbgoppmailjaaGreatDoor.H Go.Proofs.YtikbgoppmailjaaGreatDoorW.PrintWords Go.Proofs.YtikbgoppmailjaaGreatDoorW.PrintLast Go.Proofs.YtikbgoppmailjaaGreatDoorW.PrintMore
set_option linter.unusedVariables false
set_option linter.unusedSimpArgs false
theorem rd_nat (l : List S39) (i : Nat) (hi : i < l.length) : rd_T39 l (i : Int) = l[i] := by
  unfold rd_T39
  rw [Int.toNat_natCast, List.getD_eq_getElem?_getD, List.getElem?_eq_getElem hi]
  rfl
theorem begin_leaf (L : List S39) (i want k : Nat) (hi : i < L.length) (hl : L.length ≤ 100000) (hk : L[i].f0 = 1 ∨ L[i].f0 = 2) (hw : want ≤ 100000) :
    remontoirref14_begin.l0 (k + 2) L ((want + 1 : Nat) : Int) (i : Int) = if want = 0 then some (i : Int) else remontoirref14_begin.l0 k L (want : Int) ((i : Int) - 1) := by
  have w1 : wrap64 (((want + 1 : Nat) : Int) - 1) = (want : Int) := by unfold wrap64; omega
  have w2 : wrap64 ((i : Int) - 1) = (i : Int) - 1 := by unfold wrap64; omega
  simp only [remontoirref14_begin.l0]
  rw [if_pos (by omega), if_pos (by omega), rd_nat L i hi]
  have e : (if L[i].f0 = 1 then remontoirref14_begin.j1 (k + 1) L ((want + 1 : Nat) : Int) (i : Int) L[i].f0 true else remontoirref14_begin.j1 (k + 1) L ((want + 1 : Nat) : Int) (i : Int) L[i].f0 (L[i].f0 == 2)) = remontoirref14_begin.j1 (k + 1) L ((want + 1 : Nat) : Int) (i : Int) L[i].f0 true := by
    rcases hk with h | h
    · rw [if_pos h]
    · rw [if_neg (by omega), h]
      rfl
  rw [e]
  simp only [remontoirref14_begin.j1, if_true]
  rw [w1, w2]
  by_cases h : want = 0
  · rw [if_pos (by omega), if_pos h]
  · rw [if_neg (by omega), if_neg h]
theorem begin_un (L : List S39) (i want k : Nat) (hi : i < L.length) (hl : L.length ≤ 100000) (hk : L[i].f0 = 19 ∨ L[i].f0 = 14) (hw : want ≤ 100000) :
    remontoirref14_begin.l0 (k + 3) L ((want + 1 : Nat) : Int) (i : Int) = remontoirref14_begin.l0 k L ((want + 1 : Nat) : Int) ((i : Int) - 1) := by
  have w2 : wrap64 ((i : Int) - 1) = (i : Int) - 1 := by unfold wrap64; omega
  simp only [remontoirref14_begin.l0]
  rw [if_pos (by omega), if_pos (by omega), rd_nat L i hi, if_neg (by omega), beq_eq_false_iff_ne.2 (show L[i].f0 ≠ 2 by omega)]
  simp only [remontoirref14_begin.j1, Bool.false_eq_true, if_false]
  have e : (if L[i].f0 = 19 then remontoirref14_begin.j2 (k + 1) L ((want + 1 : Nat) : Int) (i : Int) false else remontoirref14_begin.j2 (k + 1) L ((want + 1 : Nat) : Int) (i : Int) (L[i].f0 != 14)) = remontoirref14_begin.j2 (k + 1) L ((want + 1 : Nat) : Int) (i : Int) false := by
    rcases hk with h | h
    · rw [if_pos h]
    · rw [if_neg (by omega), h]
      rfl
  rw [e]
  simp only [remontoirref14_begin.j2, Bool.false_eq_true, if_false]
  rw [if_neg (by omega), w2]
theorem begin_bin (L : List S39) (i want k : Nat) (hi : i < L.length) (hl : L.length ≤ 100000) (hk : 3 ≤ L[i].f0 ∧ L[i].f0 ≤ 13) (hw : want ≤ 100000) :
    remontoirref14_begin.l0 (k + 3) L ((want + 1 : Nat) : Int) (i : Int) = remontoirref14_begin.l0 k L ((want + 1 + 1 : Nat) : Int) ((i : Int) - 1) := by
  have w1 : wrap64 (((want + 1 : Nat) : Int) + 1) = ((want + 1 + 1 : Nat) : Int) := by unfold wrap64; omega
  have w2 : wrap64 ((i : Int) - 1) = (i : Int) - 1 := by unfold wrap64; omega
  simp only [remontoirref14_begin.l0]
  rw [if_pos (by omega), if_pos (by omega), rd_nat L i hi, if_neg (by omega), beq_eq_false_iff_ne.2 (show L[i].f0 ≠ 2 by omega)]
  simp only [remontoirref14_begin.j1, Bool.false_eq_true, if_false]
  rw [if_neg (by omega), bne_iff_ne.2 (show L[i].f0 ≠ 14 by omega)]
  simp only [remontoirref14_begin.j2, if_true]
  rw [w1, w2, if_neg (by omega)]
theorem at_mid (pre : List S39) (s : S39) (post : List S39) (h : pre.length < (pre ++ s :: post).length) : (pre ++ s :: post)[pre.length] = s := by simp
theorem begin_post {b : Bool} {p : List S39} (h : Post b p) : ∀ (L pre post : List S39) (want : Nat) (r : Int), L = pre ++ p ++ post → L.length ≤ 100000 → want + p.length ≤ 100000 →
    (if want = 0 then r = (pre.length : Int) else ∃ k, remontoirref14_begin.l0 k L (want : Int) ((pre.length : Int) - 1) = some r) → ∃ k, remontoirref14_begin.l0 k L ((want + 1 : Nat) : Int) ((pre.length : Int) + (p.length : Int) - 1) = some r := by
  have leaf : ∀ (s : S39) (L pre post : List S39) (want : Nat) (r : Int), (s.f0 = 1 ∨ s.f0 = 2) → L = pre ++ [s] ++ post → L.length ≤ 100000 → want + 1 ≤ 100000 →
      (if want = 0 then r = (pre.length : Int) else ∃ k, remontoirref14_begin.l0 k L (want : Int) ((pre.length : Int) - 1) = some r) → ∃ k, remontoirref14_begin.l0 k L ((want + 1 : Nat) : Int) ((pre.length : Int) + (([s] : List S39).length : Int) - 1) = some r := by
    intro s L pre post want r hs hL hl hw hr
    have hL2 : L = pre ++ s :: post := by rw [hL]; simp
    subst hL2
    have hi : pre.length < (pre ++ s :: post).length := by simp
    have e : (pre.length : Int) + (([s] : List S39).length : Int) - 1 = (pre.length : Int) := by simp
    rw [e]
    by_cases h0 : want = 0
    · rw [if_pos h0] at hr
      exact ⟨2, by rw [begin_leaf _ pre.length want 0 hi hl (by rw [at_mid pre s post hi]; exact hs) (by omega), if_pos h0, hr]⟩
    · rw [if_neg h0] at hr
      obtain ⟨k, hk⟩ := hr
      exact ⟨k + 2, by rw [begin_leaf _ pre.length want k hi hl (by rw [at_mid pre s post hi]; exact hs) (by omega), if_neg h0, hk]⟩
  have un : ∀ (p : List S39) (s : S39), (s.f0 = 19 ∨ s.f0 = 14) → (∀ (L pre post : List S39) (want : Nat) (r : Int), L = pre ++ p ++ post → L.length ≤ 100000 → want + p.length ≤ 100000 → (if want = 0 then r = (pre.length : Int) else ∃ k, remontoirref14_begin.l0 k L (want : Int) ((pre.length : Int) - 1) = some r) → ∃ k, remontoirref14_begin.l0 k L ((want + 1 : Nat) : Int) ((pre.length : Int) + (p.length : Int) - 1) = some r) →
      ∀ (L pre post : List S39) (want : Nat) (r : Int), L = pre ++ (p ++ [s]) ++ post → L.length ≤ 100000 → want + (p ++ [s]).length ≤ 100000 → (if want = 0 then r = (pre.length : Int) else ∃ k, remontoirref14_begin.l0 k L (want : Int) ((pre.length : Int) - 1) = some r) → ∃ k, remontoirref14_begin.l0 k L ((want + 1 : Nat) : Int) ((pre.length : Int) + ((p ++ [s]).length : Int) - 1) = some r := by
    intro p s hs ih L pre post want r hL hl hw hr
    rw [List.length_append] at hw
    have hw : want + (p.length + 1) ≤ 100000 := hw
    obtain ⟨k, hk⟩ := ih L pre (s :: post) want r (by rw [hL]; simp) hl (by omega) hr
    have hL2 : L = (pre ++ p) ++ s :: post := by rw [hL]; simp
    have hi : (pre ++ p).length < L.length := by rw [hL2]; simp
    have hat : L[(pre ++ p).length] = s := by subst hL2; exact at_mid (pre ++ p) s post hi
    refine ⟨k + 3, ?_⟩
    have e : (pre.length : Int) + ((p ++ [s]).length : Int) - 1 = ((pre ++ p).length : Int) := by simp only [List.length_append, List.length_cons, List.length_nil]; omega
    rw [e, begin_un L _ want k hi hl (by rw [hat]; exact hs) (by omega), ← hk]
    congr 1
    simp only [List.length_append]
    omega
  have bin : ∀ (p q : List S39) (s : S39), (3 ≤ s.f0 ∧ s.f0 ≤ 13) → (∀ (L pre post : List S39) (want : Nat) (r : Int), L = pre ++ p ++ post → L.length ≤ 100000 → want + p.length ≤ 100000 → (if want = 0 then r = (pre.length : Int) else ∃ k, remontoirref14_begin.l0 k L (want : Int) ((pre.length : Int) - 1) = some r) → ∃ k, remontoirref14_begin.l0 k L ((want + 1 : Nat) : Int) ((pre.length : Int) + (p.length : Int) - 1) = some r) →
      (∀ (L pre post : List S39) (want : Nat) (r : Int), L = pre ++ q ++ post → L.length ≤ 100000 → want + q.length ≤ 100000 → (if want = 0 then r = (pre.length : Int) else ∃ k, remontoirref14_begin.l0 k L (want : Int) ((pre.length : Int) - 1) = some r) → ∃ k, remontoirref14_begin.l0 k L ((want + 1 : Nat) : Int) ((pre.length : Int) + (q.length : Int) - 1) = some r) →
      ∀ (L pre post : List S39) (want : Nat) (r : Int), L = pre ++ (p ++ q ++ [s]) ++ post → L.length ≤ 100000 → want + (p ++ q ++ [s]).length ≤ 100000 → (if want = 0 then r = (pre.length : Int) else ∃ k, remontoirref14_begin.l0 k L (want : Int) ((pre.length : Int) - 1) = some r) → ∃ k, remontoirref14_begin.l0 k L ((want + 1 : Nat) : Int) ((pre.length : Int) + ((p ++ q ++ [s]).length : Int) - 1) = some r := by
    intro p q s hs ihp ihq L pre post want r hL hl hw hr
    rw [List.length_append, List.length_append] at hw
    have hw : want + (p.length + q.length + 1) ≤ 100000 := hw
    obtain ⟨k1, hk1⟩ := ihp L pre (q ++ s :: post) want r (by rw [hL]; simp) hl (by omega) hr
    obtain ⟨k, hk⟩ := ihq L (pre ++ p) (s :: post) (want + 1) r (by rw [hL]; simp) hl (by omega) (by
      rw [if_neg (by omega)]
      refine ⟨k1, ?_⟩
      rw [← hk1]
      congr 1
      simp only [List.length_append]
      omega)
    have hL2 : L = (pre ++ p ++ q) ++ s :: post := by rw [hL]; simp
    have hi : (pre ++ p ++ q).length < L.length := by rw [hL2]; simp
    have hat : L[(pre ++ p ++ q).length] = s := by subst hL2; exact at_mid (pre ++ p ++ q) s post hi
    refine ⟨k + 3, ?_⟩
    have e : (pre.length : Int) + ((p ++ q ++ [s]).length : Int) - 1 = ((pre ++ p ++ q).length : Int) := by simp only [List.length_append, List.length_cons, List.length_nil]; omega
    rw [e, begin_bin L _ want k hi hl (by rw [hat]; exact hs) (by omega), ← hk]
    congr 1
    simp only [List.length_append]
    omega
  induction h with
  | num n h0 h1 => exact fun L pre post want r => leaf ⟨1, n⟩ L pre post want r (Or.inl rfl)
  | name n h0 h1 => exact fun L pre post want r => leaf ⟨2, n⟩ L pre post want r (Or.inr rfl)
  | neg hp ih => exact un _ ⟨19, 0⟩ (Or.inl rfl) ih
  | op k h3 h5 hp hq ihp ihq => exact bin _ _ ⟨k, 0⟩ ⟨h3, by show k ≤ 13; omega⟩ ihp ihq
  | cmp k h3 h5 hp hq ihp ihq => exact bin _ _ ⟨k, 0⟩ ⟨by show 3 ≤ k; omega, by show k ≤ 13; omega⟩ ihp ihq
  | con k h3 hp hq ihp ihq => exact bin _ _ ⟨k, 0⟩ ⟨by show 3 ≤ k; omega, by show k ≤ 13; omega⟩ ihp ihq
  | nt hp ih => exact un _ ⟨14, 0⟩ (Or.inr rfl) ih
theorem begin_at {b : Bool} {p : List S39} (h : Post b p) (L pre post : List S39) (hL : L = pre ++ p ++ post) (hl : L.length ≤ 100000) : ∃ k, remontoirref14_begin.f k L ((pre.length : Int) + (p.length : Int) - 1) = some (pre.length : Int) := by
  have hpl : p.length ≤ L.length := by rw [hL]; simp only [List.length_append]; omega
  obtain ⟨k, hk⟩ := begin_post h L pre post 0 (pre.length : Int) hL hl (by omega) (by rw [if_pos rfl])
  exact ⟨k, hk⟩
end Go.Proofs.YtikbgoppmailjaaGreatDoor.Pure
/- The document's show: how a guard stands between. -/
namespace Go.Proofs.YtikbgoppmailjaaGreatDoor.H
open Go.RowKit Go.HK Go.Lib Go.WideShapes Go.ChangeShapes Go.Proofs.YtikbgoppmailjaaGreatDoorW.PrintWords Go.Proofs.YtikbgoppmailjaaGreatDoorW.PrintLast Go.Proofs.YtikbgoppmailjaaGreatDoorW.PrintMore
set_option linter.unusedVariables false
set_option linter.unusedSimpArgs false
theorem w64_nat (n : Nat) (h : n ≤ 100000) : wrap64 (n : Int) = n := by unfold wrap64; omega
theorem w64_pred (n : Nat) (h1 : 1 ≤ n) (h : n ≤ 100000) : wrap64 ((n : Int) - 1) = ((n - 1 : Nat) : Int) := by unfold wrap64; omega
theorem RowS.one {W : World} {B : Nat} (a b : Int) (hB : B ≤ W.heap.size) : RowS (W.alloc (.cells #[.int .i64 a, .int .i64 b] SgT)) B (.slice (some ⟨W.heap.size, 0, none⟩) 1 1) [⟨a, b⟩] := by
  refine ⟨scl ⟨a, b⟩, ⟨rfl, .inr ⟨W.heap.size, 1, _, rfl, hB, heap_alloc_last W _, Nat.le_refl _, by unfold maxLen; omega, rfl, rfl⟩⟩, rfl, fun j p hj => ?_⟩
  match j, hj with
  | 0, hj => obtain rfl : (⟨a, b⟩ : S39) = p := by simpa using hj
             rfl
  | j + 1, hj => simp at hj
/-- The kind and number of a sign of a row. -/
theorem cell_sign {w : World} {ad : Addr} {L : List S39} (hC : Kd.C k39 w (some ad) L.length L) {i : Nat} {s : S39} (h : L[i]? = some s) : w.cell? (ad.add (i * 2)) = some (.int .i64 s.f0) ∧ w.cell? ⟨(ad.add (i * 2)).block, (ad.add (i * 2)).off + 1, none⟩ = some (.int .i64 s.f1) := by
  obtain ⟨hlt, e⟩ := List.getElem?_eq_some_iff.1 h
  obtain ⟨ad', eA, e0, e1⟩ := at_T39 hC (i : Int) (by omega) (by omega)
  injection eA with eA
  subst eA
  rw [Pure.rd_nat L i hlt, e, Int.toNat_natCast] at e0 e1
  exact ⟨e0, e1⟩
theorem some_ad {w : World} {A : Option Addr} {L : List S39} (hC : Kd.C k39 w A L.length L) (h : 0 < L.length) : ∃ ad, A = some ad := by
  obtain ⟨ad, eA, _⟩ := at_T39 hC ((0 : Nat) : Int) (by omega) (by omega)
  exact ⟨ad, eA⟩
theorem post_last : ∀ t : Pure.Tr, ∃ q n, t.post = q ++ [⟨t.kind, n⟩]
  | .lf k n => ⟨[], n, rfl⟩
  | .un k a => ⟨a.post, 0, rfl⟩
  | .bi k a b => ⟨a.post ++ b.post, 0, rfl⟩
theorem last_kind {L pre post : List S39} {t : Pure.Tr} {i : Nat} (hL : L = pre ++ t.post ++ post) (hi : i + 1 = pre.length + t.post.length) : ∃ n, L[i]? = some ⟨t.kind, n⟩ := by
  obtain ⟨q, n, e⟩ := post_last t
  refine ⟨n, ?_⟩
  rw [e] at hL hi
  have h : i = (pre ++ q).length := by simp only [List.length_append, List.length_cons, List.length_nil] at hi ⊢; omega
  rw [hL, h]
  simp
/-- A row in brackets. -/
theorem about_row {w : World} {B : Nat} {v : Value} {x : List S39} (a b : Int) (h : RowS w B v x) (hl : x.length ≤ 1000000) :
    Calls Tryz.prog 47 #[v, .int .i64 a, .int .i64 b] w fun e w' => ∃ v', e = .returned v' ∧ RowS w' w.heap.size v' (⟨a, 0⟩ :: (x ++ [⟨b, 0⟩])) ∧ Below w.heap.size w w' := by
  obtain ⟨A, c, rfl, hc, hr⟩ := h.read
  refine (remontoirref14_about.calls A c x a b (⟨a, 0⟩ :: (x ++ [⟨b, 0⟩])) w hr hc ?_).mono ?_
  · unfold remontoirref14_about.f
    simp only [Option.bind_some, List.length_cons, List.length_nil, List.length_append]
    rw [if_pos (by omega)]
    try simp only [Option.bind_some, List.length_cons, List.length_nil, List.length_append]
    rw [if_pos (by omega)]
    rfl
  · rintro e w' ⟨v', rfl, h1, h2⟩
    exact ⟨v', rfl, RowS.of h1, h2⟩
def ShowAt (t : Pure.Tr) : Prop :=
  ∀ (L pre post : List S39) (A : Option Addr) (c i : Nat) (w : World), L = pre ++ t.post ++ post → L.length ≤ 60 → i + 1 = pre.length + t.post.length → Kd.C k39 w A L.length L → L.length ≤ c →
    Calls Tryz.prog 25 #[.slice A L.length c, .int .i64 i] w fun e w' => ∃ v, e = .returned v ∧ RowS w' w.heap.size v t.sh ∧ Below w.heap.size w w'
set_option maxRecDepth 100000 in
set_option maxHeartbeats 8000000 in
theorem show_leaf (k n : Int) (hk : k = 1 ∨ k = 2) : ShowAt (.lf k n) := by
  intro L pre post A c i w hL hl hi hC hc
  obtain ⟨n', hn⟩ := last_kind hL hi
  obtain ⟨hlt, hx⟩ := List.getElem?_eq_some_iff.1 hn
  obtain ⟨ad, rfl⟩ := some_ad hC (by omega)
  have hn' : L[i]? = some ⟨k, n⟩ := by
    have h : i = pre.length := by simp only [Pure.Tr.post, List.length_cons, List.length_nil] at hi; omega
    rw [hL, h]
    simp [Pure.Tr.post]
  obtain ⟨e0, e1⟩ := cell_sign hC hn'
  have hin : (i : Int) < (L.length : Int) := by omega
  have HCC := Aside0.mk hC
  have IJ := Aside0.mk (fun (v : World) => s_index (w := v) (a := ad) (cap := c) hlt)
  have R := RowS.one (W := w.alloc (.cells #[.int .i64 k, .int .i64 n] SgT)) (B := w.heap.size) k n (by simp)
  rw [show (w.alloc (.cells #[.int .i64 k, .int .i64 n] SgT)).heap.size = w.heap.size + 1 from by simp] at R
  have R := Aside0.mk R
  clear hC hL hi hn hx hn'
  rcases hk with rfl | rfl
  all_goals
    go_enter Tryz.func25, Tryz.ntmps25
    go_wp2_with (first | (refine Great.wpList_readTo rfl (some 13) rfl (.pointer (some (ad.add (i * 2)))) (exec_indexAddr rfl (IJ.out _)) ?_))
    go_ret
    exact ⟨_, rfl, R.out, ((Below.refl w.heap.size w).alloc (Nat.le_refl _) _).alloc (by simp) _⟩
end Go.Proofs.YtikbgoppmailjaaGreatDoor.H
