/- Parts of the proof of LawGuardPrints: words, contracts of the functions, plain laws. -/
import Derived.Test.YtikbgoppmailjaaGreatDoorProg
import Derived.Below
import Derived.Deep.Draws
import Derived.Deep.AppendLies
import Derived.Maps.AppendAt
import Derived.OwnWalk
import Derived.Laws.BytesArg
import Derived.Laws.MakeOwn
import Derived.Laws.OwnMore
import Derived.Deep.OwnRows
import Derived.Tactics
import Derived.Lib.ConvBytes
import Derived.Laws.Slices
import Derived.WalkKit
import Derived.KernelRfl
import Derived.RowKit3
import Derived.Deep.LoopGhost
import Derived.Deep.QuietTactic
import Derived.BigQuiet
import Derived.WideLaws
import Derived.Deep.DeepCutAuto
import Derived.Deep.CutBlock
import Derived.Deep.RegionHeld3
import Derived.Laws.Rows
import Derived.Lib.AppendStr
import Derived.ArgAppend
import Derived.Laws.IdiomCopy
import Derived.OrdersHeld
import Derived.Laws.BitsLemmas
import Derived.RowKit
import Derived.Test.YtikbgoppmailjaaGreatDoorBA01
import Derived.Great.Walk
import Derived.Deep.WholeRow
import Derived.ScopeJumps
import Derived.Laws.NewBlocks
import Derived.Laws.Tables
import Derived.Shelf.Strings.Builder1
import Derived.Shelf.Strings.Builder2
import Derived.Shelf.Strings.OnBuilder
import Derived.Shelf.Strings.Trim
import Derived.Shelf.Small.Utf8
import Derived.Shelf.Small.Strs
import Derived.Shelf.Strconv.Atoi
import Derived.Shelf.Strconv.Itoa0
import Derived.Shelf.Strconv.Itoa1
import Derived.Shelf.LaysM
import Derived.Shelf.Strconv.Itoa2
import Derived.Shelf.Strconv.Itoa3
import Derived.Shelf.Strconv.AtoiErrFast
import Derived.Shelf.Strconv.ParseIntEmpty
import Derived.Shelf.Strconv.AtoiFail
import Derived.Shelf.Strconv.Clone
import Derived.Shelf.Strconv.SyntaxError
import Derived.Shelf.LaysC
import Derived.Shelf.Strconv.ToError
import Derived.Shelf.Strconv.Lower
import Derived.Shelf.Strconv.ParseUint10
import Derived.Shelf.Strconv.ParseUint10Empty
import Derived.Shelf.Strconv.ParseUint10Any
import Derived.Shelf.Strconv.ParseInt10
import Derived.Shelf.Strconv.AtoiLong
import Derived.Shelf.Strconv.AtoiInnerAll
import Derived.Shelf.Strconv.RangeError
import Derived.Shelf.Strconv.ToErrorRange
import Derived.Shelf.Strconv.AtoiAll
import Derived.Shelf.Strings.Search1
import Derived.Shelf.Sort.Plain
import Derived.Shelf.Strings.Prefix
import Derived.Shelf.Strings.Runes
import Derived.Shelf.Strings.AsciiSet
import Derived.Shelf.Unicode.DecodeSlow
import Derived.Shelf.Slices.Turned
import Derived.Ground.Names2Prog
import Derived.Shelf.Slices.CompactI
import Derived.Shelf.Slices.Cells
import Derived.Shelf.Slices.In.SortNone
import Derived.Shelf.Strings.SlTrimAscii
-- Written by hp.py (a program of this session, over the kit's print.py), with hand-made contracts beside it.
namespace Go.Proofs.YtikbgoppmailjaaGreatDoor.H
open Go.RowKit Go.Proofs.YtikbgoppmailjaaGreatDoorW.PrintWords Go.Proofs.YtikbgoppmailjaaGreatDoorW.PrintLast Go.Proofs.YtikbgoppmailjaaGreatDoorW.PrintMore
attribute [local go_sem] max2_int min2_int max_two min_two max_three min_three max_four min_four   -- for this text's walks alone
set_option linter.unusedVariables false
set_option linter.unusedSimpArgs false



def errW : Option Int → Value
  | none => .nilIface
  | some c => .iface 0 (.int .i64 c)
theorem errW_none : errW none = .nilIface := rfl
theorem errW_some (c : Int) : errW (some c) = .iface 0 (.int .i64 c) := rfl

theorem info4 : (Tryz.prog.info? 4).map (fun i => (i.zero, i.size, i.bytes)) = some (some (.bool false), 1, 1) := by kernel_rfl
theorem info9 : (Tryz.prog.info? 9).map (fun i => (i.zero, i.size, i.bytes)) = some (some (.string ⟨#[]⟩), 1, 16) := by kernel_rfl
theorem info39 : (Tryz.prog.info? 39).map (fun i => (i.zero, i.size, i.bytes)) = some (some (.agg #[(.int .i64 0), (.int .i64 0)]), 2, 16) := by kernel_rfl
-- the values' own types
/-! #### struct type 39 -/
structure S39 where
  f0 : Int
  f1 : Int
def z39 : S39 := ⟨(0 : Int), (0 : Int)⟩
def k39 : Kd S39 := Kd.iso (Kd.pair (Kd.int .i64) (Kd.int .i64)) (fun x : S39 => (x.f0, x.f1))
theorem k39_open {w : World} {x : S39} {cs : List Value} (h : k39.K w x cs) : cs = [.int .i64 x.f0, .int .i64 x.f1] := by
  obtain ⟨_, _, rfl, rfl, rfl⟩ := h
  exact rfl
theorem k39_mkM (w : World) (base : Nat) (ok : Nat → Prop) (x : S39)  : k39.M w base ok x [.int .i64 x.f0, .int .i64 x.f1] := ⟨[.int .i64 x.f0], [.int .i64 x.f1], rfl, rfl, rfl⟩
def rd_T39 (xs : List S39) (i : Int) : S39 := xs.getD i.toNat z39
theorem at_T39 {w : World} {A : Option Addr} {n : Nat} {xs : List S39} (h : Kd.C k39 w A n xs) (i : Int) (h0 : 0 ≤ i) (h1 : i < n) : ∃ ad , A = some ad ∧ w.cell? (ad.add (i.toNat * 2)) = some (.int .i64 (rd_T39 xs i).f0) ∧ w.cell? ⟨(ad.add (i.toNat * 2)).block, (ad.add (i.toNat * 2)).off + 1, none⟩ = some (.int .i64 (rd_T39 xs i).f1) := by
  obtain ⟨ad, c, e, _, hK, hc0⟩ := Kd.C_get h z39 i h0 h1
  have hc : ∀ j u, c[j]? = some u → w.cell? (ad.add (i.toNat * 2 + j)) = some u := hc0
  obtain rfl := k39_open hK
  exact ⟨ad, e, hc 0 _ rfl, by rw [← add_field _ _ 1 (by omega)]; exact hc 1 _ rfl⟩

def rd_L3 (xs : List (List S39)) (i : Int) : (List S39) := xs.getD i.toNat ([] : List S39)
def rd_L5 (xs : List (List ByteArray)) (i : Int) : (List ByteArray) := xs.getD i.toNat ([] : List ByteArray)
def rd_L7 (xs : List (List Int)) (i : Int) : (List Int) := xs.getD i.toNat ([] : List Int)
end Go.Proofs.YtikbgoppmailjaaGreatDoor.H
-- Written by hp.py (a program of this session, over the kit's print.py), with hand-made contracts beside it.
namespace Go.Proofs.YtikbgoppmailjaaGreatDoor.H
open Go.RowKit Go.Proofs.YtikbgoppmailjaaGreatDoorW.PrintWords Go.Proofs.YtikbgoppmailjaaGreatDoorW.PrintLast Go.Proofs.YtikbgoppmailjaaGreatDoorW.PrintMore
attribute [local go_sem] max2_int min2_int max_two min_two max_three min_three max_four min_four   -- for this text's walks alone
set_option linter.unusedVariables false
set_option linter.unusedSimpArgs false

/-! ### guard_compares: function 41 -/
def guard_compares.f (a0 : Int) : Option (Bool) := if a0 ≥ 6 then (some (decide (a0 ≤ 11))) else (some false)
set_option maxHeartbeats 8000000 in
set_option maxRecDepth 100000 in
theorem guard_compares.calls (a0 : Int) (r : Bool) (w : World) (h : guard_compares.f a0 = some r) :
    Calls Tryz.prog 41 #[.int .i64 a0] w fun e w' => e = .returned (.bool r) ∧ Drawn0 w w' := by
  have H : (if a0 ≥ 6 then (some (decide (a0 ≤ 11))) else (some false)) = some r := h
  clear h
  by_cases c2 : a0 ≥ 6
  · rw [if_pos c2] at H
    have c2b0 : decide (6 ≤ a0) = true := decide_eq_true c2
    clear c2
    obtain rfl := Option.some.inj H
    go_enter Tryz.func41, Tryz.ntmps41
    go_wp2
    go_ret
    exact ⟨by first | rfl | (simp; done) | (simp [*]; done), by repeat (first | exact Drawn0.refl _ | apply Drawn0.step)⟩
  · rw [if_neg c2] at H
    have c2b0 : decide (6 ≤ a0) = false := decide_eq_false c2
    clear c2
    obtain rfl := Option.some.inj H
    go_enter Tryz.func41, Tryz.ntmps41
    go_wp2
    go_ret
    exact ⟨by first | rfl | (simp; done) | (simp [*]; done), by repeat (first | exact Drawn0.refl _ | apply Drawn0.step)⟩

/-! ### slices_Index_int_int: function 91 -/
def slices_Index_int_int.l0 : Nat → List Int → Int → Int → Int → Option (Int)
  | 0, _, _, _, _ => none
  | k + 1, x0, x1, x7, x8 => if x8 < x7 then (if 0 ≤ x8 then (if x8 < (x0.length : Int) then (if x1 = (rd x0 x8) then (some x8) else (slices_Index_int_int.l0 k x0 x1 x7 (wrap64 (x8 + 1)))) else (none)) else (none)) else (some (-1))
def slices_Index_int_int.f (k : Nat) (l0 : List Int) (a1 : Int) : Option (Int) := slices_Index_int_int.l0 k l0 a1 (l0.length : Int) 0
theorem slices_Index_int_int.mono_l : ∀ k, (∀ y0 y1 y2 y3, LeO (slices_Index_int_int.l0 k y0 y1 y2 y3) (slices_Index_int_int.l0 (k + 1) y0 y1 y2 y3))
  | 0 => fun _ _ _ _ r h => by simp [slices_Index_int_int.l0] at h
  | k + 1 => by
    have ih0 := slices_Index_int_int.mono_l k
    · intro y0 y1 y2 y3
      unfold slices_Index_int_int.l0
      repeat' first
      | (with_reducible exact ih0 _ _ _ _)
      | (with_reducible exact LeO.refl _)
      | (with_reducible exact LeO.none _)
      | (with_reducible refine LeO.ite ?_ ?_)
      | (with_reducible refine LeO.bind ?_ (fun _ => ?_))
      | exact ih0 _ _ _ _
      | exact LeO.none _
      | refine LeO.ite ?_ ?_
      | refine LeO.bind ?_ (fun _ => ?_)
theorem slices_Index_int_int.mono : ∀ a0 a1 k, LeO (slices_Index_int_int.f k a0 a1) (slices_Index_int_int.f (k + 1) a0 a1) := by
  intro a0 a1 k
  have ih0 := slices_Index_int_int.mono_l k
  unfold slices_Index_int_int.f
  repeat' first
      | (with_reducible exact ih0 _ _ _ _)
      | (with_reducible exact LeO.refl _)
      | (with_reducible exact LeO.none _)
      | (with_reducible refine LeO.ite ?_ ?_)
      | (with_reducible refine LeO.bind ?_ (fun _ => ?_))
      | exact ih0 _ _ _ _
      | exact LeO.none _
      | refine LeO.ite ?_ ?_
      | refine LeO.bind ?_ (fun _ => ?_)
set_option maxHeartbeats 8000000 in
set_option maxRecDepth 100000 in
theorem slices_Index_int_int.calls (k : Nat) (A0 : Option Addr) (c0 : Nat) (l0 : List Int) (a1 : Int) (r : Int) (w : World) (hr0 : Kd.C (Kd.int .i64) w A0 l0.length l0) (hc0 : l0.length ≤ c0) (h : slices_Index_int_int.f k l0 a1 = some r) :
  Calls Tryz.prog 91 #[.slice A0 l0.length c0, .int .i64 a1] w fun e w' => e = .returned (.int .i64 r) ∧ Drawn0 w w' := by
 have HR0 := Aside0.mk hr0
 have HC0 := Aside0.mk hc0
 clear hr0 hc0
 have H : (slices_Index_int_int.l0 k l0 a1 (l0.length : Int) 0) = some r := h
 clear h
 have H' := Aside0.mk H
 clear H
 go_enter Tryz.func91, Tryz.ntmps91
 go_wp2
 go_loopg [8] k (fun kq v8 w' => ∃ (x8_1 : Int), v8 = .int .i64 x8_1 ∧ Aside0 (slices_Index_int_int.l0 kq l0 a1 (l0.length : Int) x8_1 = some r) ∧ Aside0 (kq ≤ k) ∧ Drawn0 w w')
 case atStart => exact ⟨(0), (by first | rfl | (simp; done) | (simp [*]; done)), H', ⟨Nat.le_refl _⟩, by repeat (first | exact Drawn0.refl _ | apply Drawn0.step)⟩
 case round =>
  clear H'
  try clear p2
  obtain ⟨x8_1, rfl, HA, HK1, ⟨m1, rfl⟩⟩ := hrel
  cases gk with
  | zero => exact absurd HA.out (by simp [slices_Index_int_int.l0])
  | succ k1 =>
   have H := HA.out
   clear HA
   simp only [slices_Index_int_int.l0] at H
   by_cases c3 : x8_1 < (l0.length : Int)
   ·rw [if_pos c3] at H
    have c3b0 : decide (x8_1 < (l0.length : Int)) = true := decide_eq_true c3
    clear c3
    by_cases c4 : 0 ≤ x8_1
    ·rw [if_pos c4] at H
     have c4b0 : decide (0 ≤ x8_1) = true := decide_eq_true c4
     clear c4
     by_cases c5 : x8_1 < (l0.length : Int)
     ·rw [if_pos c5] at H
      have c5b0 : decide (x8_1 < (l0.length : Int)) = true := decide_eq_true c5
      clear c5
      by_cases c6 : a1 = (rd l0 x8_1)
      ·rw [if_pos c6] at H
       have c6b0 : (a1 == (rd l0 x8_1)) = true := beq_iff_eq.mpr c6
       have c6b1 : (a1 != (rd l0 x8_1)) = false := bne_eq_false_iff_eq.mpr c6
       clear c6
       obtain rfl := Option.some.inj H
       have p101 : 0 ≤ (x8_1 : Int) := of_decide_eq_true (by first | (with_reducible assumption) | assumption)
       have q101 : x8_1 < (l0.length : Int) := of_decide_eq_true (by first | (with_reducible assumption) | assumption)
       obtain ⟨ad101, e101, hx101_0⟩ := Kd.at_int HR0.out x8_1 p101 q101
       cases e101
       replace p101 := eq_true p101
       replace q101 := eq_true q101
       go_wp2
       go_ret
       exact ⟨by first | rfl | (simp; done) | (simp [*]; done), by repeat (first | exact Drawn0.refl _ | apply Drawn0.step)⟩
      ·rw [if_neg c6] at H
       have c6b0 : (a1 == (rd l0 x8_1)) = false := beq_eq_false_iff_ne.mpr c6
       have c6b1 : (a1 != (rd l0 x8_1)) = true := bne_iff_ne.mpr c6
       have H' := Aside0.mk H
       clear H
       have p101 : 0 ≤ (x8_1 : Int) := of_decide_eq_true (by first | (with_reducible assumption) | assumption)
       have q101 : x8_1 < (l0.length : Int) := of_decide_eq_true (by first | (with_reducible assumption) | assumption)
       obtain ⟨ad101, e101, hx101_0⟩ := Kd.at_int HR0.out x8_1 p101 q101
       cases e101
       replace p101 := eq_true p101
       replace q101 := eq_true q101
       go_wp2
       go_roundg k1
       case measure => have := HK1.out; omega
       case rel => exact ⟨(wrap64 (x8_1 + 1)), (by first | rfl | (simp; done) | (simp [*]; done)), H', ⟨by have := HK1.out; omega⟩, by repeat (first | exact Drawn0.refl _ | apply Drawn0.step)⟩
     ·rw [if_neg c5] at H
      exact absurd H (by simp)
    ·rw [if_neg c4] at H
     exact absurd H (by simp)
   ·rw [if_neg c3] at H
    have c3b0 : decide (x8_1 < (l0.length : Int)) = false := decide_eq_false c3
    clear c3
    obtain rfl := Option.some.inj H
    go_wp2
    go_ret
    exact ⟨by first | rfl | (simp; done) | (simp [*]; done), by repeat (first | exact Drawn0.refl _ | apply Drawn0.step)⟩

/-! ### slices_Contains_int_int: function 60 -/
def slices_Contains_int_int.f (k : Nat) (l0 : List Int) (a1 : Int) : Option (Bool) := (slices_Index_int_int.f k l0 a1).bind fun t102 => (some (decide (t102 ≥ 0)))
theorem slices_Contains_int_int.mono : ∀ a0 a1 k, LeO (slices_Contains_int_int.f k a0 a1) (slices_Contains_int_int.f (k + 1) a0 a1) := by
  intro a0 a1 k
  unfold slices_Contains_int_int.f
  repeat' first
      | (with_reducible exact slices_Index_int_int.mono _ _ _)
      | (with_reducible exact LeO.refl _)
      | (with_reducible exact LeO.none _)
      | (with_reducible refine LeO.ite ?_ ?_)
      | (with_reducible refine LeO.bind ?_ (fun _ => ?_))
      | exact slices_Index_int_int.mono _ _ _
      | exact LeO.none _
      | refine LeO.ite ?_ ?_
      | refine LeO.bind ?_ (fun _ => ?_)
set_option maxHeartbeats 8000000 in
set_option maxRecDepth 100000 in
theorem slices_Contains_int_int.calls (k : Nat) (A0 : Option Addr) (c0 : Nat) (l0 : List Int) (a1 : Int) (r : Bool) (w : World) (hr0 : Kd.C (Kd.int .i64) w A0 l0.length l0) (hc0 : l0.length ≤ c0) (h : slices_Contains_int_int.f k l0 a1 = some r) :
    Calls Tryz.prog 60 #[.slice A0 l0.length c0, .int .i64 a1] w fun e w' => e = .returned (.bool r) ∧ Drawn0 w w' := by
  have HR0 := Aside0.mk hr0
  have HC0 := Aside0.mk hc0
  clear hr0 hc0
  have H : ((slices_Index_int_int.f k l0 a1).bind fun t102 => (some (decide (t102 ≥ 0)))) = some r := h
  clear h
  replace H := Option.bind_eq_some_iff.mp H
  obtain ⟨t102, A30, H⟩ := H
  replace H : (some (decide (t102 ≥ 0))) = some r := H
  have A3 := Aside0.mk A30
  clear A30
  obtain rfl := Option.some.inj H
  go_enter Tryz.func60, Tryz.ntmps60
  go_wp2_with (first | ((with_reducible refine gate_callee (f := 91) rfl ?_); refine goesL_ (some 7) rfl rfl Tryz.func91 (by kernel_rfl) rfl #[.slice A0 l0.length c0, .int .i64 a1] rfl (by (try simp only [List.map_toArray, List.map_cons, List.map_nil]); first | done | rfl | (simp only [List.length_drop, List.length_take]; rfl)) ?_; (with_reducible refine (slices_Index_int_int.calls k _ _ l0 a1 t102 _ ?side1 ?side2 A3.out).mono ?_); (case side1 => repeat (first | exact HR0.out | (with_reducible refine Kd.C_alloc ?_ _) | (with_reducible refine Kd.C_drewN ?_ _) | (with_reducible refine Kd.C_drew ?_))); (case side2 => exact HC0.out); rintro e w' ⟨rfl, ⟨nd, rfl⟩⟩; refine ⟨_, rfl, ?_⟩))
  go_ret
  exact ⟨by first | rfl | (simp; done) | (simp [*]; done), by repeat (first | exact Drawn0.refl _ | apply Drawn0.step)⟩

end Go.Proofs.YtikbgoppmailjaaGreatDoor.H
-- Written by hp.py (a program of this session, over the kit's print.py), with hand-made contracts beside it.
namespace Go.Proofs.YtikbgoppmailjaaGreatDoor.H
open Go.RowKit Go.Proofs.YtikbgoppmailjaaGreatDoorW.PrintWords Go.Proofs.YtikbgoppmailjaaGreatDoorW.PrintLast Go.Proofs.YtikbgoppmailjaaGreatDoorW.PrintMore
attribute [local go_sem] max2_int min2_int max_two min_two max_three min_three max_four min_four   -- for this text's walks alone
set_option linter.unusedVariables false
set_option linter.unusedSimpArgs false

/-! ### guard_sums: function 40 -/
def guard_sums.f (a0 : Int) : Option (Bool) := if a0 = 3 then (some true) else (some (a0 == 4))
set_option maxHeartbeats 8000000 in
set_option maxRecDepth 100000 in
theorem guard_sums.calls (a0 : Int) (r : Bool) (w : World) (h : guard_sums.f a0 = some r) :
    Calls Tryz.prog 40 #[.int .i64 a0] w fun e w' => e = .returned (.bool r) ∧ Drawn0 w w' := by
  have H : (if a0 = 3 then (some true) else (some (a0 == 4))) = some r := h
  clear h
  by_cases c2 : a0 = 3
  · rw [if_pos c2] at H
    have c2b0 : (a0 == 3) = true := beq_iff_eq.mpr c2
    have c2b1 : (a0 != 3) = false := bne_eq_false_iff_eq.mpr c2
    clear c2
    obtain rfl := Option.some.inj H
    go_enter Tryz.func40, Tryz.ntmps40
    go_wp2
    go_ret
    exact ⟨by first | rfl | (simp; done) | (simp [*]; done), by repeat (first | exact Drawn0.refl _ | apply Drawn0.step)⟩
  · rw [if_neg c2] at H
    have c2b0 : (a0 == 3) = false := beq_eq_false_iff_ne.mpr c2
    have c2b1 : (a0 != 3) = true := bne_iff_ne.mpr c2
    obtain rfl := Option.some.inj H
    go_enter Tryz.func40, Tryz.ntmps40
    go_wp2
    go_ret
    exact ⟨by first | rfl | (simp; done) | (simp [*]; done), by repeat (first | exact Drawn0.refl _ | apply Drawn0.step)⟩

end Go.Proofs.YtikbgoppmailjaaGreatDoor.H
-- Written by hp.py (a program of this session, over the kit's print.py), with hand-made contracts beside it.
namespace Go.Proofs.YtikbgoppmailjaaGreatDoor.H
open Go.RowKit Go.Proofs.YtikbgoppmailjaaGreatDoorW.PrintWords Go.Proofs.YtikbgoppmailjaaGreatDoorW.PrintLast Go.Proofs.YtikbgoppmailjaaGreatDoorW.PrintMore
attribute [local go_sem] max2_int min2_int max_two min_two max_three min_three max_four min_four   -- for this text's walks alone
set_option linter.unusedVariables false
set_option linter.unusedSimpArgs false

/-! ### guard_takes: function 21 -/
mutual
def guard_takes.j0 : Nat → Bool → Int → Int → Option (Int × Bool × Bool)
  | 0, _, _, _ => none
  | k + 1, x5, x104000, x104001 => if x5 = true then (guard_takes.j1 k x5 x104000 x104001) else (if x104000 = 2 then (if x104001 ≥ 0 then (guard_takes.j1 k (decide (x104001 < 26)) x104000 x104001) else (guard_takes.j1 k false x104000 x104001)) else (guard_takes.j1 k false x104000 x104001))
def guard_takes.j1 : Nat → Bool → Int → Int → Option (Int × Bool × Bool)
  | 0, _, _, _ => none
  | k + 1, x5, x104000, x104001 => if x5 = true then (some (0, false, false)) else (if x104000 = 1 then (guard_takes.j2 k (x104000 == 1) x104000 x104001) else (if x104000 = 2 then (guard_takes.j2 k (x104000 == 2) x104000 x104001) else (guard_takes.j2 k (x104001 != 0) x104000 x104001)))
def guard_takes.j2 : Nat → Bool → Int → Int → Option (Int × Bool × Bool)
  | 0, _, _, _ => none
  | k + 1, x32, x104000, x104001 => if x32 = true then (some ((-1), false, false)) else (if x104000 = 19 then (some (1, false, false)) else ((guard_sums.f x104000).bind fun t104 => (if t104 = true then (guard_takes.j3 k t104 x104000 x104001) else (guard_takes.j3 k (x104000 == 5) x104000 x104001))))
def guard_takes.j3 : Nat → Bool → Int → Int → Option (Int × Bool × Bool)
  | 0, _, _, _ => none
  | k + 1, x46, x104000, x104001 => if x46 = true then (some (2, false, false)) else ((guard_compares.f x104000).bind fun t105 => (if t105 = true then (some (2, false, true)) else (if x104000 = 12 then (guard_takes.j4 k (x104000 == 12) x104000 x104001) else (guard_takes.j4 k (x104000 == 13) x104000 x104001))))
def guard_takes.j4 : Nat → Bool → Int → Int → Option (Int × Bool × Bool)
  | 0, _, _, _ => none
  | k + 1, x57, x104000, x104001 => if x57 = true then (some (2, true, true)) else (if x104000 = 14 then (some (1, true, true)) else (some ((-1), false, false)))
end
def guard_takes.f (k : Nat) (a0_0 : Int) (a0_1 : Int) : Option (Int × Bool × Bool) := if a0_0 = 1 then (if a0_1 ≥ 0 then (guard_takes.j0 k (decide (a0_1 ≤ 2147483647)) a0_0 a0_1) else (guard_takes.j0 k false a0_0 a0_1)) else (guard_takes.j0 k false a0_0 a0_1)
theorem guard_takes.mono_l : ∀ k, (∀ y0 y1 y2, LeO (guard_takes.j0 k y0 y1 y2) (guard_takes.j0 (k + 1) y0 y1 y2)) ∧ (∀ y0 y1 y2, LeO (guard_takes.j1 k y0 y1 y2) (guard_takes.j1 (k + 1) y0 y1 y2)) ∧ (∀ y0 y1 y2, LeO (guard_takes.j2 k y0 y1 y2) (guard_takes.j2 (k + 1) y0 y1 y2)) ∧ (∀ y0 y1 y2, LeO (guard_takes.j3 k y0 y1 y2) (guard_takes.j3 (k + 1) y0 y1 y2)) ∧ (∀ y0 y1 y2, LeO (guard_takes.j4 k y0 y1 y2) (guard_takes.j4 (k + 1) y0 y1 y2))
 | 0 => ⟨fun _ _ _ r h => by simp [guard_takes.j0] at h, fun _ _ _ r h => by simp [guard_takes.j1] at h, fun _ _ _ r h => by simp [guard_takes.j2] at h, fun _ _ _ r h => by simp [guard_takes.j3] at h, fun _ _ _ r h => by simp [guard_takes.j4] at h⟩
 | k + 1 => by
  obtain ⟨ih0, ih1, ih2, ih3, ih4⟩ := guard_takes.mono_l k
  refine ⟨?_, ?_, ?_, ?_, ?_⟩
  ·intro y0 y1 y2
   unfold guard_takes.j0
   repeat' first
   | (with_reducible exact ih0 _ _ _)
   | (with_reducible exact ih1 _ _ _)
   | (with_reducible exact ih2 _ _ _)
   | (with_reducible exact ih3 _ _ _)
   | (with_reducible exact ih4 _ _ _)
   | (with_reducible exact LeO.refl _)
   | (with_reducible exact LeO.none _)
   | (with_reducible refine LeO.ite ?_ ?_)
   | (with_reducible refine LeO.bind ?_ (fun _ => ?_))
   | exact ih0 _ _ _
   | exact ih1 _ _ _
   | exact ih2 _ _ _
   | exact ih3 _ _ _
   | exact ih4 _ _ _
   | exact LeO.none _
   | refine LeO.ite ?_ ?_
   | refine LeO.bind ?_ (fun _ => ?_)
  ·intro y0 y1 y2
   unfold guard_takes.j1
   repeat' first
   | (with_reducible exact ih0 _ _ _)
   | (with_reducible exact ih1 _ _ _)
   | (with_reducible exact ih2 _ _ _)
   | (with_reducible exact ih3 _ _ _)
   | (with_reducible exact ih4 _ _ _)
   | (with_reducible exact LeO.refl _)
   | (with_reducible exact LeO.none _)
   | (with_reducible refine LeO.ite ?_ ?_)
   | (with_reducible refine LeO.bind ?_ (fun _ => ?_))
   | exact ih0 _ _ _
   | exact ih1 _ _ _
   | exact ih2 _ _ _
   | exact ih3 _ _ _
   | exact ih4 _ _ _
   | exact LeO.none _
   | refine LeO.ite ?_ ?_
   | refine LeO.bind ?_ (fun _ => ?_)
  ·intro y0 y1 y2
   unfold guard_takes.j2
   repeat' first
   | (with_reducible exact ih0 _ _ _)
   | (with_reducible exact ih1 _ _ _)
   | (with_reducible exact ih2 _ _ _)
   | (with_reducible exact ih3 _ _ _)
   | (with_reducible exact ih4 _ _ _)
   | (with_reducible exact LeO.refl _)
   | (with_reducible exact LeO.none _)
   | (with_reducible refine LeO.ite ?_ ?_)
   | (with_reducible refine LeO.bind ?_ (fun _ => ?_))
   | exact ih0 _ _ _
   | exact ih1 _ _ _
   | exact ih2 _ _ _
   | exact ih3 _ _ _
   | exact ih4 _ _ _
   | exact LeO.none _
   | refine LeO.ite ?_ ?_
   | refine LeO.bind ?_ (fun _ => ?_)
  ·intro y0 y1 y2
   unfold guard_takes.j3
   repeat' first
   | (with_reducible exact ih0 _ _ _)
   | (with_reducible exact ih1 _ _ _)
   | (with_reducible exact ih2 _ _ _)
   | (with_reducible exact ih3 _ _ _)
   | (with_reducible exact ih4 _ _ _)
   | (with_reducible exact LeO.refl _)
   | (with_reducible exact LeO.none _)
   | (with_reducible refine LeO.ite ?_ ?_)
   | (with_reducible refine LeO.bind ?_ (fun _ => ?_))
   | exact ih0 _ _ _
   | exact ih1 _ _ _
   | exact ih2 _ _ _
   | exact ih3 _ _ _
   | exact ih4 _ _ _
   | exact LeO.none _
   | refine LeO.ite ?_ ?_
   | refine LeO.bind ?_ (fun _ => ?_)
  ·intro y0 y1 y2
   unfold guard_takes.j4
   repeat' first
   | (with_reducible exact ih0 _ _ _)
   | (with_reducible exact ih1 _ _ _)
   | (with_reducible exact ih2 _ _ _)
   | (with_reducible exact ih3 _ _ _)
   | (with_reducible exact ih4 _ _ _)
   | (with_reducible exact LeO.refl _)
   | (with_reducible exact LeO.none _)
   | (with_reducible refine LeO.ite ?_ ?_)
   | (with_reducible refine LeO.bind ?_ (fun _ => ?_))
   | exact ih0 _ _ _
   | exact ih1 _ _ _
   | exact ih2 _ _ _
   | exact ih3 _ _ _
   | exact ih4 _ _ _
   | exact LeO.none _
   | refine LeO.ite ?_ ?_
   | refine LeO.bind ?_ (fun _ => ?_)
theorem guard_takes.mono : ∀ a0 a1 k, LeO (guard_takes.f k a0 a1) (guard_takes.f (k + 1) a0 a1) := by
  intro a0 a1 k
  obtain ⟨ih0, ih1, ih2, ih3, ih4⟩ := guard_takes.mono_l k
  unfold guard_takes.f
  repeat' first
      | (with_reducible exact ih0 _ _ _)
      | (with_reducible exact ih1 _ _ _)
      | (with_reducible exact ih2 _ _ _)
      | (with_reducible exact ih3 _ _ _)
      | (with_reducible exact ih4 _ _ _)
      | (with_reducible exact LeO.refl _)
      | (with_reducible exact LeO.none _)
      | (with_reducible refine LeO.ite ?_ ?_)
      | (with_reducible refine LeO.bind ?_ (fun _ => ?_))
      | exact ih0 _ _ _
      | exact ih1 _ _ _
      | exact ih2 _ _ _
      | exact ih3 _ _ _
      | exact ih4 _ _ _
      | exact LeO.none _
      | refine LeO.ite ?_ ?_
      | refine LeO.bind ?_ (fun _ => ?_)
set_option maxHeartbeats 8000000 in
set_option maxRecDepth 100000 in
theorem guard_takes.calls (k : Nat) (a0_0 : Int) (a0_1 : Int) (r1 : Int) (r2 : Bool) (r3 : Bool) (w : World) (h : guard_takes.f k a0_0 a0_1 = some (r1, r2, r3)) :
  Calls Tryz.prog 21 #[.agg #[.int .i64 a0_0, .int .i64 a0_1]] w fun e w' => e = .returned (.tuple #[.int .i64 r1, .bool r2, .bool r3]) ∧ Below w.heap.size w w' := by
 have hu39 := Tryz.underlying39
 have HB := Aside0.mk (Below.refl w.heap.size w)
 have H : (if a0_0 = 1 then (if a0_1 ≥ 0 then (guard_takes.j0 k (decide (a0_1 ≤ 2147483647)) a0_0 a0_1) else (guard_takes.j0 k false a0_0 a0_1)) else (guard_takes.j0 k false a0_0 a0_1)) = some (r1, r2, r3) := h
 clear h
 have HC2 := Aside0.mk H
 clear H
 go_enter Tryz.func21, Tryz.ntmps21
 go_upto_region 1 with (first | ((with_reducible refine gate_dst (N := 1) rfl ?_); refine box_event ?hg (N := 1) ?hd (cs := #[.int .i64 a0_0, .int .i64 a0_1]) (t := 39) ?hr ?_; (case hd => rfl); (case hg => rfl); (case hr => first | (go_simp; done) | (go_simp; rfl)); intro gb103 hg w3 hbox hb; have n0_ := Aside0.mk (bsp (by repeat (first | (with_reducible first | exact HB.out | apply bal | apply pbN | apply bd1) | exact HB.out)) hb); have n1_ := Aside0.mk (hbox); have n2_ := Aside0.mk ((by rw [hg]; exact (bsz (by repeat (first | (with_reducible first | exact HB.out | apply bal | apply pbN | apply bd1) | exact HB.out))) : w.heap.size ≤ gb103)); have n3_ := Aside0.mk ((by rw [hg]; exact (bsz (by repeat (first | (with_reducible first | exact HB.out | apply bal | apply pbN | apply bd1) | exact HB.out))) : w.heap.size ≤ gb103)); clear HB; have HB := n0_; have BK103 := n1_; have GW103 := n2_; have GE103 := n3_; clear n0_ n1_ n2_ n3_; clear hb hbox hg))
 (try simp only [Act.put, List.setIfInBounds_toArray, List.set_cons_zero, List.set_cons_succ])
 go_cut [5] (fun v5 wc => ∃ (kq : Nat) (x5_1 : Bool), v5 = .bool x5_1 ∧ Aside0 (guard_takes.j0 kq x5_1 a0_0 a0_1 = some (r1, r2, r3)) ∧ Aside0 (kq ≤ k) ∧ Aside0 (wc.heap[gb103]? = some (.cells #[.int .i64 a0_0, .int .i64 a0_1] 39 (0, 0))) ∧ Aside0 (Below w.heap.size w wc))
 case first =>
  have H := HC2.out
  clear HC2
  by_cases c4 : a0_0 = 1
  ·rw [if_pos c4] at H
   have c4b0 : (a0_0 == 1) = true := beq_iff_eq.mpr c4
   have c4b1 : (a0_0 != 1) = false := bne_eq_false_iff_eq.mpr c4
   clear c4
   (first | rw [c4b0] | (simp only [i64_w, i32_w]; rw [c4b0]) | skip)
   by_cases c5 : a0_1 ≥ 0
   ·rw [if_pos c5] at H
    have c5b0 : decide (0 ≤ a0_1) = true := decide_eq_true c5
    clear c5
    have H' := Aside0.mk H
    clear H
    have hcz6_0 : w3.cell? ⟨gb103, 0, none⟩ = some (.int .i64 a0_0) := (bce BK103.out 0).trans rfl
    have hcz6_1 : w3.cell? ⟨gb103, 1, none⟩ = some (.int .i64 a0_1) := (bce BK103.out 1).trans rfl
    have hfz6_0 := bfz BK103.out 0
    have hfz6_1 := bfz BK103.out 1
    go_wp2
    go_meet
    case rel => exact ⟨_, (decide (a0_1 ≤ 2147483647)), (by first | rfl | (simp; done) | (simp [*]; done)), H', ⟨by first | omega | exact Nat.le_refl _⟩, ⟨by (with_reducible repeat (first | refine bkn ?_ _ | refine bkd ?_ | refine bka ?_ _)); exact BK103.out⟩, ⟨by repeat (first | (with_reducible first | exact HB.out | apply bal | apply pbN | apply bd1 | refine bst ?_ GE103.out) | exact HB.out)⟩⟩
   ·rw [if_neg c5] at H
    have c5b0 : decide (0 ≤ a0_1) = false := decide_eq_false c5
    clear c5
    have H' := Aside0.mk H
    clear H
    have hcz7_0 : w3.cell? ⟨gb103, 0, none⟩ = some (.int .i64 a0_0) := (bce BK103.out 0).trans rfl
    have hcz7_1 : w3.cell? ⟨gb103, 1, none⟩ = some (.int .i64 a0_1) := (bce BK103.out 1).trans rfl
    have hfz7_0 := bfz BK103.out 0
    have hfz7_1 := bfz BK103.out 1
    go_wp2
    go_meet
    case rel => exact ⟨_, (false), (by first | rfl | (simp; done) | (simp [*]; done)), H', ⟨by first | omega | exact Nat.le_refl _⟩, ⟨by (with_reducible repeat (first | refine bkn ?_ _ | refine bkd ?_ | refine bka ?_ _)); exact BK103.out⟩, ⟨by repeat (first | (with_reducible first | exact HB.out | apply bal | apply pbN | apply bd1 | refine bst ?_ GE103.out) | exact HB.out)⟩⟩
  ·rw [if_neg c4] at H
   have c4b0 : (a0_0 == 1) = false := beq_eq_false_iff_ne.mpr c4
   have c4b1 : (a0_0 != 1) = true := bne_iff_ne.mpr c4
   (first | rw [c4b0] | (simp only [i64_w, i32_w]; rw [c4b0]) | skip)
   have H' := Aside0.mk H
   clear H
   have hcz8_0 : w3.cell? ⟨gb103, 0, none⟩ = some (.int .i64 a0_0) := (bce BK103.out 0).trans rfl
   have hcz8_1 : w3.cell? ⟨gb103, 1, none⟩ = some (.int .i64 a0_1) := (bce BK103.out 1).trans rfl
   have hfz8_0 := bfz BK103.out 0
   have hfz8_1 := bfz BK103.out 1
   go_wp2
   go_meet
   case rel => exact ⟨_, (false), (by first | rfl | (simp; done) | (simp [*]; done)), H', ⟨by first | omega | exact Nat.le_refl _⟩, ⟨by (with_reducible repeat (first | refine bkn ?_ _ | refine bkd ?_ | refine bka ?_ _)); exact BK103.out⟩, ⟨by repeat (first | (with_reducible first | exact HB.out | apply bal | apply pbN | apply bd1 | refine bst ?_ GE103.out) | exact HB.out)⟩⟩
 case rest =>
  clear HC2
  try clear c2
  try clear p2
  try clear c4
  try clear c4b0
  try clear c4b1
  try clear c5
  try clear c5b0
  try clear hcz6_0
  try clear hcz6_1
  try clear hcz7_0
  try clear hcz7_1
  try clear hcz8_0
  try clear hcz8_1
  try clear hfz6_0
  try clear hfz6_1
  try clear hfz7_0
  try clear hfz7_1
  try clear hfz8_0
  try clear hfz8_1
  obtain ⟨kq, x5_1, rfl, HA, HJ1, BK103, HB⟩ := hcut
  cases kq with
  | zero => exact absurd HA.out (by simp [guard_takes.j0])
  | succ kj1 =>
   have H := HA.out
   clear HA
   simp only [guard_takes.j0] at H
   have HC9 := Aside0.mk H
   clear H
   go_upto_if 5 with (fail)
   go_cut [5] (fun v5 wc => ∃ (kq : Nat) (x5_8 : Bool), v5 = .bool x5_8 ∧ Aside0 (guard_takes.j1 kq x5_8 a0_0 a0_1 = some (r1, r2, r3)) ∧ Aside0 (kq ≤ kj1) ∧ Aside0 (wc.heap[gb103]? = some (.cells #[.int .i64 a0_0, .int .i64 a0_1] 39 (0, 0))) ∧ Aside0 (Below w.heap.size w wc))
   case first =>
    have H := HC9.out
    clear HC9
    by_cases c10 : x5_1 = true
    ·subst c10
     have H1 : (guard_takes.j1 kj1 true a0_0 a0_1) = some (r1, r2, r3) := by rw [if_pos rfl] at H; exact H
     clear H
     have H := H1
     clear H1
     have H' := Aside0.mk H
     clear H
     go_wp2
     go_meet
     case rel => exact ⟨_, (true), (by first | rfl | (simp; done) | (simp [*]; done)), H', ⟨by have := HJ1.out; first | omega | exact Nat.le_refl _⟩, ⟨by (with_reducible repeat (first | refine bkn ?_ _ | refine bkd ?_ | refine bka ?_ _)); exact BK103.out⟩, ⟨by repeat (first | (with_reducible first | exact HB.out | apply bal | apply pbN | apply bd1 | refine bst ?_ GE103.out) | exact HB.out)⟩⟩
    ·replace c10 := Bool.eq_false_iff.mpr c10
     subst c10
     have H1 : (if a0_0 = 2 then (if a0_1 ≥ 0 then (guard_takes.j1 kj1 (decide (a0_1 < 26)) a0_0 a0_1) else (guard_takes.j1 kj1 false a0_0 a0_1)) else (guard_takes.j1 kj1 false a0_0 a0_1)) = some (r1, r2, r3) := by rw [if_neg (show ¬ (false = true) by decide)] at H; exact H
     clear H
     have H := H1
     clear H1
     by_cases c11 : a0_0 = 2
     ·rw [if_pos c11] at H
      have c11b0 : (a0_0 == 2) = true := beq_iff_eq.mpr c11
      have c11b1 : (a0_0 != 2) = false := bne_eq_false_iff_eq.mpr c11
      clear c11
      (first | rw [c11b0] | (simp only [i64_w, i32_w]; rw [c11b0]) | skip)
      by_cases c12 : a0_1 ≥ 0
      ·rw [if_pos c12] at H
       have c12b0 : decide (0 ≤ a0_1) = true := decide_eq_true c12
       clear c12
       have H' := Aside0.mk H
       clear H
       have hcz13_0 : wc.cell? ⟨gb103, 0, none⟩ = some (.int .i64 a0_0) := (bce BK103.out 0).trans rfl
       have hcz13_1 : wc.cell? ⟨gb103, 1, none⟩ = some (.int .i64 a0_1) := (bce BK103.out 1).trans rfl
       have hfz13_0 := bfz BK103.out 0
       have hfz13_1 := bfz BK103.out 1
       go_wp2
       go_meet
       case rel => exact ⟨_, (decide (a0_1 < 26)), (by first | rfl | (simp; done) | (simp [*]; done)), H', ⟨by have := HJ1.out; first | omega | exact Nat.le_refl _⟩, ⟨by (with_reducible repeat (first | refine bkn ?_ _ | refine bkd ?_ | refine bka ?_ _)); exact BK103.out⟩, ⟨by repeat (first | (with_reducible first | exact HB.out | apply bal | apply pbN | apply bd1 | refine bst ?_ GE103.out) | exact HB.out)⟩⟩
      ·rw [if_neg c12] at H
       have c12b0 : decide (0 ≤ a0_1) = false := decide_eq_false c12
       clear c12
       have H' := Aside0.mk H
       clear H
       have hcz14_0 : wc.cell? ⟨gb103, 0, none⟩ = some (.int .i64 a0_0) := (bce BK103.out 0).trans rfl
       have hcz14_1 : wc.cell? ⟨gb103, 1, none⟩ = some (.int .i64 a0_1) := (bce BK103.out 1).trans rfl
       have hfz14_0 := bfz BK103.out 0
       have hfz14_1 := bfz BK103.out 1
       go_wp2
       go_meet
       case rel => exact ⟨_, (false), (by first | rfl | (simp; done) | (simp [*]; done)), H', ⟨by have := HJ1.out; first | omega | exact Nat.le_refl _⟩, ⟨by (with_reducible repeat (first | refine bkn ?_ _ | refine bkd ?_ | refine bka ?_ _)); exact BK103.out⟩, ⟨by repeat (first | (with_reducible first | exact HB.out | apply bal | apply pbN | apply bd1 | refine bst ?_ GE103.out) | exact HB.out)⟩⟩
     ·rw [if_neg c11] at H
      have c11b0 : (a0_0 == 2) = false := beq_eq_false_iff_ne.mpr c11
      have c11b1 : (a0_0 != 2) = true := bne_iff_ne.mpr c11
      (first | rw [c11b0] | (simp only [i64_w, i32_w]; rw [c11b0]) | skip)
      have H' := Aside0.mk H
      clear H
      have hcz15_0 : wc.cell? ⟨gb103, 0, none⟩ = some (.int .i64 a0_0) := (bce BK103.out 0).trans rfl
      have hcz15_1 : wc.cell? ⟨gb103, 1, none⟩ = some (.int .i64 a0_1) := (bce BK103.out 1).trans rfl
      have hfz15_0 := bfz BK103.out 0
      have hfz15_1 := bfz BK103.out 1
      go_wp2
      go_meet
      case rel => exact ⟨_, (false), (by first | rfl | (simp; done) | (simp [*]; done)), H', ⟨by have := HJ1.out; first | omega | exact Nat.le_refl _⟩, ⟨by (with_reducible repeat (first | refine bkn ?_ _ | refine bkd ?_ | refine bka ?_ _)); exact BK103.out⟩, ⟨by repeat (first | (with_reducible first | exact HB.out | apply bal | apply pbN | apply bd1 | refine bst ?_ GE103.out) | exact HB.out)⟩⟩
   case rest =>
    clear HC9
    try clear c1
    try clear c2
    try clear p2
    try clear c4
    try clear c4b0
    try clear c4b1
    try clear c5
    try clear c5b0
    try clear c10
    try clear c11
    try clear c11b0
    try clear c11b1
    try clear c12
    try clear c12b0
    try clear hcz13_0
    try clear hcz13_1
    try clear hcz14_0
    try clear hcz14_1
    try clear hcz15_0
    try clear hcz15_1
    try clear hcz6_0
    try clear hcz6_1
    try clear hcz7_0
    try clear hcz7_1
    try clear hcz8_0
    try clear hcz8_1
    try clear hfz13_0
    try clear hfz13_1
    try clear hfz14_0
    try clear hfz14_1
    try clear hfz15_0
    try clear hfz15_1
    try clear hfz6_0
    try clear hfz6_1
    try clear hfz7_0
    try clear hfz7_1
    try clear hfz8_0
    try clear hfz8_1
    try clear p2
    obtain ⟨kq, x5_8, rfl, HA, HJ8, BK103, HB⟩ := hcut
    cases kq with
    | zero => exact absurd HA.out (by simp [guard_takes.j1])
    | succ kj8 =>
     have H := HA.out
     clear HA
     simp only [guard_takes.j1] at H
     by_cases c16 : x5_8 = true
     ·subst c16
      have H1 : (some (0, false, false)) = some (r1, r2, r3) := by rw [if_pos rfl] at H; exact H
      clear H
      have H := H1
      clear H1
      simp only [Option.some.injEq, Prod.mk.injEq] at H
      obtain ⟨rfl, rfl, rfl⟩ := H
      go_wp2
      go_ret3
      exact ⟨by first | rfl | (simp [errW_none, errW_some] <;> rfl) | (simp [*, errW_none, errW_some] <;> rfl), by repeat (first | (with_reducible first | exact HB.out | apply bal | apply pbN | apply bd1 | refine bst ?_ GE103.out) | exact HB.out)⟩
     ·replace c16 := Bool.eq_false_iff.mpr c16
      subst c16
      have H1 : (if a0_0 = 1 then (guard_takes.j2 kj8 (a0_0 == 1) a0_0 a0_1) else (if a0_0 = 2 then (guard_takes.j2 kj8 (a0_0 == 2) a0_0 a0_1) else (guard_takes.j2 kj8 (a0_1 != 0) a0_0 a0_1))) = some (r1, r2, r3) := by rw [if_neg (show ¬ (false = true) by decide)] at H; exact H
      clear H
      have H := H1
      clear H1
      have HC17 := Aside0.mk H
      clear H
      have hcz18_0 : wc.cell? ⟨gb103, 0, none⟩ = some (.int .i64 a0_0) := (bce BK103.out 0).trans rfl
      have hcz18_1 : wc.cell? ⟨gb103, 1, none⟩ = some (.int .i64 a0_1) := (bce BK103.out 1).trans rfl
      have hfz18_0 := bfz BK103.out 0
      have hfz18_1 := bfz BK103.out 1
      go_upto_if 32 with (fail)
      go_cut [32] (fun v32 wc => ∃ (kq : Nat) (x32_16 : Bool), v32 = .bool x32_16 ∧ Aside0 (guard_takes.j2 kq x32_16 a0_0 a0_1 = some (r1, r2, r3)) ∧ Aside0 (kq ≤ kj8) ∧ Aside0 (wc.heap[gb103]? = some (.cells #[.int .i64 a0_0, .int .i64 a0_1] 39 (0, 0))) ∧ Aside0 (Below w.heap.size w wc))
      case first =>
       have H := HC17.out
       clear HC17
       by_cases c19 : a0_0 = 1
       ·rw [if_pos c19] at H
        have c19b0 : (a0_0 == 1) = true := beq_iff_eq.mpr c19
        have c19b1 : (a0_0 != 1) = false := bne_eq_false_iff_eq.mpr c19
        clear c19
        (first | rw [c19b0] | (simp only [i64_w, i32_w]; rw [c19b0]) | skip)
        have H' := Aside0.mk H
        clear H
        go_wp2
        go_meet
        case rel => exact ⟨_, ((a0_0 == 1)), (by first | rfl | (simp; done) | (simp [*]; done)), H', ⟨by have := HJ1.out; have := HJ8.out; first | omega | exact Nat.le_refl _⟩, ⟨by (with_reducible repeat (first | refine bkn ?_ _ | refine bkd ?_ | refine bka ?_ _)); exact BK103.out⟩, ⟨by repeat (first | (with_reducible first | exact HB.out | apply bal | apply pbN | apply bd1 | refine bst ?_ GE103.out) | exact HB.out)⟩⟩
       ·rw [if_neg c19] at H
        have c19b0 : (a0_0 == 1) = false := beq_eq_false_iff_ne.mpr c19
        have c19b1 : (a0_0 != 1) = true := bne_iff_ne.mpr c19
        (first | rw [c19b0] | (simp only [i64_w, i32_w]; rw [c19b0]) | skip)
        by_cases c20 : a0_0 = 2
        ·rw [if_pos c20] at H
         have c20b0 : (a0_0 == 2) = true := beq_iff_eq.mpr c20
         have c20b1 : (a0_0 != 2) = false := bne_eq_false_iff_eq.mpr c20
         clear c20
         have H' := Aside0.mk H
         clear H
         have hcz21_0 : wc.cell? ⟨gb103, 0, none⟩ = some (.int .i64 a0_0) := (bce BK103.out 0).trans rfl
         have hcz21_1 : wc.cell? ⟨gb103, 1, none⟩ = some (.int .i64 a0_1) := (bce BK103.out 1).trans rfl
         have hfz21_0 := bfz BK103.out 0
         have hfz21_1 := bfz BK103.out 1
         go_wp2
         go_meet
         case rel => exact ⟨_, ((a0_0 == 2)), (by first | rfl | (simp; done) | (simp [*]; done)), H', ⟨by have := HJ1.out; have := HJ8.out; first | omega | exact Nat.le_refl _⟩, ⟨by (with_reducible repeat (first | refine bkn ?_ _ | refine bkd ?_ | refine bka ?_ _)); exact BK103.out⟩, ⟨by repeat (first | (with_reducible first | exact HB.out | apply bal | apply pbN | apply bd1 | refine bst ?_ GE103.out) | exact HB.out)⟩⟩
        ·rw [if_neg c20] at H
         have c20b0 : (a0_0 == 2) = false := beq_eq_false_iff_ne.mpr c20
         have c20b1 : (a0_0 != 2) = true := bne_iff_ne.mpr c20
         have H' := Aside0.mk H
         clear H
         have hcz22_0 : wc.cell? ⟨gb103, 0, none⟩ = some (.int .i64 a0_0) := (bce BK103.out 0).trans rfl
         have hcz22_1 : wc.cell? ⟨gb103, 1, none⟩ = some (.int .i64 a0_1) := (bce BK103.out 1).trans rfl
         have hfz22_0 := bfz BK103.out 0
         have hfz22_1 := bfz BK103.out 1
         go_wp2
         go_meet
         case rel => exact ⟨_, ((a0_1 != 0)), (by first | rfl | (simp; done) | (simp [*]; done)), H', ⟨by have := HJ1.out; have := HJ8.out; first | omega | exact Nat.le_refl _⟩, ⟨by (with_reducible repeat (first | refine bkn ?_ _ | refine bkd ?_ | refine bka ?_ _)); exact BK103.out⟩, ⟨by repeat (first | (with_reducible first | exact HB.out | apply bal | apply pbN | apply bd1 | refine bst ?_ GE103.out) | exact HB.out)⟩⟩
      case rest =>
       clear HC17
       try clear c1
       try clear c2
       try clear p2
       try clear c4
       try clear c4b0
       try clear c4b1
       try clear c5
       try clear c5b0
       try clear c10
       try clear c11
       try clear c11b0
       try clear c11b1
       try clear c12
       try clear c12b0
       try clear c16
       try clear c19
       try clear c19b0
       try clear c19b1
       try clear c20
       try clear c20b0
       try clear c20b1
       try clear c21
       try clear hcz13_0
       try clear hcz13_1
       try clear hcz14_0
       try clear hcz14_1
       try clear hcz15_0
       try clear hcz15_1
       try clear hcz18_0
       try clear hcz18_1
       try clear hcz21_0
       try clear hcz21_1
       try clear hcz22_0
       try clear hcz22_1
       try clear hcz6_0
       try clear hcz6_1
       try clear hcz7_0
       try clear hcz7_1
       try clear hcz8_0
       try clear hcz8_1
       try clear hfz13_0
       try clear hfz13_1
       try clear hfz14_0
       try clear hfz14_1
       try clear hfz15_0
       try clear hfz15_1
       try clear hfz18_0
       try clear hfz18_1
       try clear hfz21_0
       try clear hfz21_1
       try clear hfz22_0
       try clear hfz22_1
       try clear hfz6_0
       try clear hfz6_1
       try clear hfz7_0
       try clear hfz7_1
       try clear hfz8_0
       try clear hfz8_1
       try clear p2
       obtain ⟨kq, x32_16, rfl, HA, HJ16, BK103, HB⟩ := hcut
       cases kq with
       | zero => exact absurd HA.out (by simp [guard_takes.j2])
       | succ kj16 =>
        have H := HA.out
        clear HA
        simp only [guard_takes.j2] at H
        by_cases c23 : x32_16 = true
        ·subst c23
         have H1 : (some ((-1), false, false)) = some (r1, r2, r3) := by rw [if_pos rfl] at H; exact H
         clear H
         have H := H1
         clear H1
         simp only [Option.some.injEq, Prod.mk.injEq] at H
         obtain ⟨rfl, rfl, rfl⟩ := H
         go_wp2
         go_ret3
         exact ⟨by first | rfl | (simp [errW_none, errW_some] <;> rfl) | (simp [*, errW_none, errW_some] <;> rfl), by repeat (first | (with_reducible first | exact HB.out | apply bal | apply pbN | apply bd1 | refine bst ?_ GE103.out) | exact HB.out)⟩
        ·replace c23 := Bool.eq_false_iff.mpr c23
         subst c23
         have H1 : (if a0_0 = 19 then (some (1, false, false)) else ((guard_sums.f a0_0).bind fun t104 => (if t104 = true then (guard_takes.j3 kj16 t104 a0_0 a0_1) else (guard_takes.j3 kj16 (a0_0 == 5) a0_0 a0_1)))) = some (r1, r2, r3) := by rw [if_neg (show ¬ (false = true) by decide)] at H; exact H
         clear H
         have H := H1
         clear H1
         by_cases c24 : a0_0 = 19
         ·rw [if_pos c24] at H
          have c24b0 : (a0_0 == 19) = true := beq_iff_eq.mpr c24
          have c24b1 : (a0_0 != 19) = false := bne_eq_false_iff_eq.mpr c24
          clear c24
          simp only [Option.some.injEq, Prod.mk.injEq] at H
          obtain ⟨rfl, rfl, rfl⟩ := H
          have hcz25_0 : wc.cell? ⟨gb103, 0, none⟩ = some (.int .i64 a0_0) := (bce BK103.out 0).trans rfl
          have hcz25_1 : wc.cell? ⟨gb103, 1, none⟩ = some (.int .i64 a0_1) := (bce BK103.out 1).trans rfl
          have hfz25_0 := bfz BK103.out 0
          have hfz25_1 := bfz BK103.out 1
          go_wp2
          go_ret3
          exact ⟨by first | rfl | (simp [errW_none, errW_some] <;> rfl) | (simp [*, errW_none, errW_some] <;> rfl), by repeat (first | (with_reducible first | exact HB.out | apply bal | apply pbN | apply bd1 | refine bst ?_ GE103.out) | exact HB.out)⟩
         ·rw [if_neg c24] at H
          have c24b0 : (a0_0 == 19) = false := beq_eq_false_iff_ne.mpr c24
          have c24b1 : (a0_0 != 19) = true := bne_iff_ne.mpr c24
          replace H := Option.bind_eq_some_iff.mp H
          obtain ⟨t104, A260, H⟩ := H
          replace H : (if t104 = true then (guard_takes.j3 kj16 t104 a0_0 a0_1) else (guard_takes.j3 kj16 (a0_0 == 5) a0_0 a0_1)) = some (r1, r2, r3) := H
          have A26 := Aside0.mk A260
          clear A260
          have HC27 := Aside0.mk H
          clear H
          have hcz28_0 : wc.cell? ⟨gb103, 0, none⟩ = some (.int .i64 a0_0) := (bce BK103.out 0).trans rfl
          have hcz28_1 : wc.cell? ⟨gb103, 1, none⟩ = some (.int .i64 a0_1) := (bce BK103.out 1).trans rfl
          have hfz28_0 := bfz BK103.out 0
          have hfz28_1 := bfz BK103.out 1
          go_upto_if 46 with (first | ((with_reducible refine gate_callee (f := 40) rfl ?_); refine goesL_ (some 49) rfl rfl Tryz.func40 (by kernel_rfl) rfl #[.int .i64 a0_0] rfl (by (try simp only [List.map_toArray, List.map_cons, List.map_nil]); first | done | rfl | (simp only [List.length_drop, List.length_take]; rfl)) ?_; (with_reducible refine (guard_sums.calls a0_0 t104 _ A26.out).mono ?_); rintro e w' ⟨rfl, ⟨nd, rfl⟩⟩; refine ⟨_, rfl, ?_⟩))
          (try simp only [Act.put, List.setIfInBounds_toArray, List.set_cons_zero, List.set_cons_succ])
          go_cut [46] (fun v46 wc => ∃ (kq : Nat) (x46_26 : Bool), v46 = .bool x46_26 ∧ Aside0 (guard_takes.j3 kq x46_26 a0_0 a0_1 = some (r1, r2, r3)) ∧ Aside0 (kq ≤ kj16) ∧ Aside0 (wc.heap[gb103]? = some (.cells #[.int .i64 a0_0, .int .i64 a0_1] 39 (0, 0))) ∧ Aside0 (Below w.heap.size w wc))
          case first =>
           have H := HC27.out
           clear HC27
           by_cases c29 : t104 = true
           ·subst c29
            have H1 : (guard_takes.j3 kj16 true a0_0 a0_1) = some (r1, r2, r3) := by rw [if_pos rfl] at H; exact H
            clear H
            have H := H1
            clear H1
            have H' := Aside0.mk H
            clear H
            go_wp2
            go_meet
            case rel => exact ⟨_, (true), (by first | rfl | (simp; done) | (simp [*]; done)), H', ⟨by have := HJ1.out; have := HJ8.out; have := HJ16.out; first | omega | exact Nat.le_refl _⟩, ⟨by (with_reducible repeat (first | refine bkn ?_ _ | refine bkd ?_ | refine bka ?_ _)); exact BK103.out⟩, ⟨by repeat (first | (with_reducible first | exact HB.out | apply bal | apply pbN | apply bd1 | refine bst ?_ GE103.out) | exact HB.out)⟩⟩
           ·replace c29 := Bool.eq_false_iff.mpr c29
            subst c29
            have H1 : (guard_takes.j3 kj16 (a0_0 == 5) a0_0 a0_1) = some (r1, r2, r3) := by rw [if_neg (show ¬ (false = true) by decide)] at H; exact H
            clear H
            have H := H1
            clear H1
            have H' := Aside0.mk H
            clear H
            have hcz30_0 : wc.cell? ⟨gb103, 0, none⟩ = some (.int .i64 a0_0) := (bce BK103.out 0).trans rfl
            have hcz30_1 : wc.cell? ⟨gb103, 1, none⟩ = some (.int .i64 a0_1) := (bce BK103.out 1).trans rfl
            have hfz30_0 := bfz BK103.out 0
            have hfz30_1 := bfz BK103.out 1
            go_wp2
            go_meet
            case rel => exact ⟨_, ((a0_0 == 5)), (by first | rfl | (simp; done) | (simp [*]; done)), H', ⟨by have := HJ1.out; have := HJ8.out; have := HJ16.out; first | omega | exact Nat.le_refl _⟩, ⟨by (with_reducible repeat (first | refine bkn ?_ _ | refine bkd ?_ | refine bka ?_ _)); exact BK103.out⟩, ⟨by repeat (first | (with_reducible first | exact HB.out | apply bal | apply pbN | apply bd1 | refine bst ?_ GE103.out) | exact HB.out)⟩⟩
          case rest =>
           clear HC27
           try clear c1
           try clear c2
           try clear p2
           try clear c4
           try clear c4b0
           try clear c4b1
           try clear c5
           try clear c5b0
           try clear c10
           try clear c11
           try clear c11b0
           try clear c11b1
           try clear c12
           try clear c12b0
           try clear c16
           try clear c19
           try clear c19b0
           try clear c19b1
           try clear c20
           try clear c20b0
           try clear c20b1
           try clear c21
           try clear c23
           try clear c24
           try clear c24b0
           try clear c24b1
           try clear c29
           try clear hcz13_0
           try clear hcz13_1
           try clear hcz14_0
           try clear hcz14_1
           try clear hcz15_0
           try clear hcz15_1
           try clear hcz18_0
           try clear hcz18_1
           try clear hcz21_0
           try clear hcz21_1
           try clear hcz22_0
           try clear hcz22_1
           try clear hcz25_0
           try clear hcz25_1
           try clear hcz28_0
           try clear hcz28_1
           try clear hcz30_0
           try clear hcz30_1
           try clear hcz6_0
           try clear hcz6_1
           try clear hcz7_0
           try clear hcz7_1
           try clear hcz8_0
           try clear hcz8_1
           try clear hfz13_0
           try clear hfz13_1
           try clear hfz14_0
           try clear hfz14_1
           try clear hfz15_0
           try clear hfz15_1
           try clear hfz18_0
           try clear hfz18_1
           try clear hfz21_0
           try clear hfz21_1
           try clear hfz22_0
           try clear hfz22_1
           try clear hfz25_0
           try clear hfz25_1
           try clear hfz28_0
           try clear hfz28_1
           try clear hfz30_0
           try clear hfz30_1
           try clear hfz6_0
           try clear hfz6_1
           try clear hfz7_0
           try clear hfz7_1
           try clear hfz8_0
           try clear hfz8_1
           try clear p2
           obtain ⟨kq, x46_26, rfl, HA, HJ26, BK103, HB⟩ := hcut
           cases kq with
           | zero => exact absurd HA.out (by simp [guard_takes.j3])
           | succ kj26 =>
            have H := HA.out
            clear HA
            simp only [guard_takes.j3] at H
            by_cases c31 : x46_26 = true
            ·subst c31
             have H1 : (some (2, false, false)) = some (r1, r2, r3) := by rw [if_pos rfl] at H; exact H
             clear H
             have H := H1
             clear H1
             simp only [Option.some.injEq, Prod.mk.injEq] at H
             obtain ⟨rfl, rfl, rfl⟩ := H
             go_wp2
             go_ret3
             exact ⟨by first | rfl | (simp [errW_none, errW_some] <;> rfl) | (simp [*, errW_none, errW_some] <;> rfl), by repeat (first | (with_reducible first | exact HB.out | apply bal | apply pbN | apply bd1 | refine bst ?_ GE103.out) | exact HB.out)⟩
            ·replace c31 := Bool.eq_false_iff.mpr c31
             subst c31
             have H1 : ((guard_compares.f a0_0).bind fun t105 => (if t105 = true then (some (2, false, true)) else (if a0_0 = 12 then (guard_takes.j4 kj26 (a0_0 == 12) a0_0 a0_1) else (guard_takes.j4 kj26 (a0_0 == 13) a0_0 a0_1)))) = some (r1, r2, r3) := by rw [if_neg (show ¬ (false = true) by decide)] at H; exact H
             clear H
             have H := H1
             clear H1
             replace H := Option.bind_eq_some_iff.mp H
             obtain ⟨t105, A320, H⟩ := H
             replace H : (if t105 = true then (some (2, false, true)) else (if a0_0 = 12 then (guard_takes.j4 kj26 (a0_0 == 12) a0_0 a0_1) else (guard_takes.j4 kj26 (a0_0 == 13) a0_0 a0_1))) = some (r1, r2, r3) := H
             have A32 := Aside0.mk A320
             clear A320
             by_cases c33 : t105 = true
             ·subst c33
              have H1 : (some (2, false, true)) = some (r1, r2, r3) := by rw [if_pos rfl] at H; exact H
              clear H
              have H := H1
              clear H1
              simp only [Option.some.injEq, Prod.mk.injEq] at H
              obtain ⟨rfl, rfl, rfl⟩ := H
              have hcz34_0 : wc.cell? ⟨gb103, 0, none⟩ = some (.int .i64 a0_0) := (bce BK103.out 0).trans rfl
              have hcz34_1 : wc.cell? ⟨gb103, 1, none⟩ = some (.int .i64 a0_1) := (bce BK103.out 1).trans rfl
              have hfz34_0 := bfz BK103.out 0
              have hfz34_1 := bfz BK103.out 1
              go_wp2_with (first | ((with_reducible refine gate_callee (f := 41) rfl ?_); refine goesL_ (some 56) rfl rfl Tryz.func41 (by kernel_rfl) rfl #[.int .i64 a0_0] rfl (by (try simp only [List.map_toArray, List.map_cons, List.map_nil]); first | done | rfl | (simp only [List.length_drop, List.length_take]; rfl)) ?_; (with_reducible refine (guard_compares.calls a0_0 true _ A32.out).mono ?_); rintro e w' ⟨rfl, ⟨nd, rfl⟩⟩; refine ⟨_, rfl, ?_⟩))
              go_ret3
              exact ⟨by first | rfl | (simp [errW_none, errW_some] <;> rfl) | (simp [*, errW_none, errW_some] <;> rfl), by repeat (first | (with_reducible first | exact HB.out | apply bal | apply pbN | apply bd1 | refine bst ?_ GE103.out) | exact HB.out)⟩
             ·replace c33 := Bool.eq_false_iff.mpr c33
              subst c33
              have H1 : (if a0_0 = 12 then (guard_takes.j4 kj26 (a0_0 == 12) a0_0 a0_1) else (guard_takes.j4 kj26 (a0_0 == 13) a0_0 a0_1)) = some (r1, r2, r3) := by rw [if_neg (show ¬ (false = true) by decide)] at H; exact H
              clear H
              have H := H1
              clear H1
              have HC35 := Aside0.mk H
              clear H
              have hcz36_0 : wc.cell? ⟨gb103, 0, none⟩ = some (.int .i64 a0_0) := (bce BK103.out 0).trans rfl
              have hcz36_1 : wc.cell? ⟨gb103, 1, none⟩ = some (.int .i64 a0_1) := (bce BK103.out 1).trans rfl
              have hfz36_0 := bfz BK103.out 0
              have hfz36_1 := bfz BK103.out 1
              go_upto_if 57 with (first | ((with_reducible refine gate_callee (f := 41) rfl ?_); refine goesL_ (some 56) rfl rfl Tryz.func41 (by kernel_rfl) rfl #[.int .i64 a0_0] rfl (by (try simp only [List.map_toArray, List.map_cons, List.map_nil]); first | done | rfl | (simp only [List.length_drop, List.length_take]; rfl)) ?_; (with_reducible refine (guard_compares.calls a0_0 false _ A32.out).mono ?_); rintro e w' ⟨rfl, ⟨nd, rfl⟩⟩; refine ⟨_, rfl, ?_⟩))
              (try simp only [Act.put, List.setIfInBounds_toArray, List.set_cons_zero, List.set_cons_succ])
              go_cut [57] (fun v57 wc => ∃ (kq : Nat) (x57_34 : Bool), v57 = .bool x57_34 ∧ Aside0 (guard_takes.j4 kq x57_34 a0_0 a0_1 = some (r1, r2, r3)) ∧ Aside0 (kq ≤ kj26) ∧ Aside0 (wc.heap[gb103]? = some (.cells #[.int .i64 a0_0, .int .i64 a0_1] 39 (0, 0))) ∧ Aside0 (Below w.heap.size w wc))
              case first =>
               have H := HC35.out
               clear HC35
               by_cases c37 : a0_0 = 12
               ·rw [if_pos c37] at H
                have c37b0 : (a0_0 == 12) = true := beq_iff_eq.mpr c37
                have c37b1 : (a0_0 != 12) = false := bne_eq_false_iff_eq.mpr c37
                clear c37
                (first | rw [c37b0] | (simp only [i64_w, i32_w]; rw [c37b0]) | skip)
                have H' := Aside0.mk H
                clear H
                go_wp2
                go_meet
                case rel => exact ⟨_, ((a0_0 == 12)), (by first | rfl | (simp; done) | (simp [*]; done)), H', ⟨by have := HJ1.out; have := HJ8.out; have := HJ16.out; have := HJ26.out; first | omega | exact Nat.le_refl _⟩, ⟨by (with_reducible repeat (first | refine bkn ?_ _ | refine bkd ?_ | refine bka ?_ _)); exact BK103.out⟩, ⟨by repeat (first | (with_reducible first | exact HB.out | apply bal | apply pbN | apply bd1 | refine bst ?_ GE103.out) | exact HB.out)⟩⟩
               ·rw [if_neg c37] at H
                have c37b0 : (a0_0 == 12) = false := beq_eq_false_iff_ne.mpr c37
                have c37b1 : (a0_0 != 12) = true := bne_iff_ne.mpr c37
                (first | rw [c37b0] | (simp only [i64_w, i32_w]; rw [c37b0]) | skip)
                have H' := Aside0.mk H
                clear H
                have hcz38_0 : wc.cell? ⟨gb103, 0, none⟩ = some (.int .i64 a0_0) := (bce BK103.out 0).trans rfl
                have hcz38_1 : wc.cell? ⟨gb103, 1, none⟩ = some (.int .i64 a0_1) := (bce BK103.out 1).trans rfl
                have hfz38_0 := bfz BK103.out 0
                have hfz38_1 := bfz BK103.out 1
                go_wp2
                go_meet
                case rel => exact ⟨_, ((a0_0 == 13)), (by first | rfl | (simp; done) | (simp [*]; done)), H', ⟨by have := HJ1.out; have := HJ8.out; have := HJ16.out; have := HJ26.out; first | omega | exact Nat.le_refl _⟩, ⟨by (with_reducible repeat (first | refine bkn ?_ _ | refine bkd ?_ | refine bka ?_ _)); exact BK103.out⟩, ⟨by repeat (first | (with_reducible first | exact HB.out | apply bal | apply pbN | apply bd1 | refine bst ?_ GE103.out) | exact HB.out)⟩⟩
              case rest =>
               clear HC35
               try clear c1
               try clear c2
               try clear p2
               try clear c3
               try clear c4
               try clear c4b0
               try clear c4b1
               try clear c5
               try clear c5b0
               try clear c10
               try clear c11
               try clear c11b0
               try clear c11b1
               try clear c12
               try clear c12b0
               try clear c16
               try clear c19
               try clear c19b0
               try clear c19b1
               try clear c20
               try clear c20b0
               try clear c20b1
               try clear c21
               try clear c23
               try clear c24
               try clear c24b0
               try clear c24b1
               try clear c29
               try clear c31
               try clear c33
               try clear c37
               try clear c37b0
               try clear c37b1
               try clear hcz13_0
               try clear hcz13_1
               try clear hcz14_0
               try clear hcz14_1
               try clear hcz15_0
               try clear hcz15_1
               try clear hcz18_0
               try clear hcz18_1
               try clear hcz21_0
               try clear hcz21_1
               try clear hcz22_0
               try clear hcz22_1
               try clear hcz25_0
               try clear hcz25_1
               try clear hcz28_0
               try clear hcz28_1
               try clear hcz30_0
               try clear hcz30_1
               try clear hcz34_0
               try clear hcz34_1
               try clear hcz36_0
               try clear hcz36_1
               try clear hcz38_0
               try clear hcz38_1
               try clear hcz6_0
               try clear hcz6_1
               try clear hcz7_0
               try clear hcz7_1
               try clear hcz8_0
               try clear hcz8_1
               try clear hfz13_0
               try clear hfz13_1
               try clear hfz14_0
               try clear hfz14_1
               try clear hfz15_0
               try clear hfz15_1
               try clear hfz18_0
               try clear hfz18_1
               try clear hfz21_0
               try clear hfz21_1
               try clear hfz22_0
               try clear hfz22_1
               try clear hfz25_0
               try clear hfz25_1
               try clear hfz28_0
               try clear hfz28_1
               try clear hfz30_0
               try clear hfz30_1
               try clear hfz34_0
               try clear hfz34_1
               try clear hfz36_0
               try clear hfz36_1
               try clear hfz38_0
               try clear hfz38_1
               try clear hfz6_0
               try clear hfz6_1
               try clear hfz7_0
               try clear hfz7_1
               try clear hfz8_0
               try clear hfz8_1
               try clear p2
               obtain ⟨kq, x57_34, rfl, HA, HJ34, BK103, HB⟩ := hcut
               cases kq with
               | zero => exact absurd HA.out (by simp [guard_takes.j4])
               | succ kj34 =>
                have H := HA.out
                clear HA
                simp only [guard_takes.j4] at H
                by_cases c39 : x57_34 = true
                ·subst c39
                 have H1 : (some (2, true, true)) = some (r1, r2, r3) := by rw [if_pos rfl] at H; exact H
                 clear H
                 have H := H1
                 clear H1
                 simp only [Option.some.injEq, Prod.mk.injEq] at H
                 obtain ⟨rfl, rfl, rfl⟩ := H
                 go_wp2
                 go_ret3
                 exact ⟨by first | rfl | (simp [errW_none, errW_some] <;> rfl) | (simp [*, errW_none, errW_some] <;> rfl), by repeat (first | (with_reducible first | exact HB.out | apply bal | apply pbN | apply bd1 | refine bst ?_ GE103.out) | exact HB.out)⟩
                ·replace c39 := Bool.eq_false_iff.mpr c39
                 subst c39
                 have H1 : (if a0_0 = 14 then (some (1, true, true)) else (some ((-1), false, false))) = some (r1, r2, r3) := by rw [if_neg (show ¬ (false = true) by decide)] at H; exact H
                 clear H
                 have H := H1
                 clear H1
                 by_cases c40 : a0_0 = 14
                 ·rw [if_pos c40] at H
                  have c40b0 : (a0_0 == 14) = true := beq_iff_eq.mpr c40
                  have c40b1 : (a0_0 != 14) = false := bne_eq_false_iff_eq.mpr c40
                  clear c40
                  simp only [Option.some.injEq, Prod.mk.injEq] at H
                  obtain ⟨rfl, rfl, rfl⟩ := H
                  have hcz41_0 : wc.cell? ⟨gb103, 0, none⟩ = some (.int .i64 a0_0) := (bce BK103.out 0).trans rfl
                  have hcz41_1 : wc.cell? ⟨gb103, 1, none⟩ = some (.int .i64 a0_1) := (bce BK103.out 1).trans rfl
                  have hfz41_0 := bfz BK103.out 0
                  have hfz41_1 := bfz BK103.out 1
                  go_wp2
                  go_ret3
                  exact ⟨by first | rfl | (simp [errW_none, errW_some] <;> rfl) | (simp [*, errW_none, errW_some] <;> rfl), by repeat (first | (with_reducible first | exact HB.out | apply bal | apply pbN | apply bd1 | refine bst ?_ GE103.out) | exact HB.out)⟩
                 ·rw [if_neg c40] at H
                  have c40b0 : (a0_0 == 14) = false := beq_eq_false_iff_ne.mpr c40
                  have c40b1 : (a0_0 != 14) = true := bne_iff_ne.mpr c40
                  simp only [Option.some.injEq, Prod.mk.injEq] at H
                  obtain ⟨rfl, rfl, rfl⟩ := H
                  have hcz42_0 : wc.cell? ⟨gb103, 0, none⟩ = some (.int .i64 a0_0) := (bce BK103.out 0).trans rfl
                  have hcz42_1 : wc.cell? ⟨gb103, 1, none⟩ = some (.int .i64 a0_1) := (bce BK103.out 1).trans rfl
                  have hfz42_0 := bfz BK103.out 0
                  have hfz42_1 := bfz BK103.out 1
                  go_wp2
                  go_ret3
                  exact ⟨by first | rfl | (simp [errW_none, errW_some] <;> rfl) | (simp [*, errW_none, errW_some] <;> rfl), by repeat (first | (with_reducible first | exact HB.out | apply bal | apply pbN | apply bd1 | refine bst ?_ GE103.out) | exact HB.out)⟩

end Go.Proofs.YtikbgoppmailjaaGreatDoor.H
-- Written by hp.py (a program of this session, over the kit's print.py), with hand-made contracts beside it.
namespace Go.Proofs.YtikbgoppmailjaaGreatDoor.H
open Go.RowKit Go.Proofs.YtikbgoppmailjaaGreatDoorW.PrintWords Go.Proofs.YtikbgoppmailjaaGreatDoorW.PrintLast Go.Proofs.YtikbgoppmailjaaGreatDoorW.PrintMore
attribute [local go_sem] max2_int min2_int max_two min_two max_three min_three max_four min_four   -- for this text's walks alone
set_option linter.unusedVariables false
set_option linter.unusedSimpArgs false

/-! ### slices_Index_bool_bool: function 49 -/
def slices_Index_bool_bool.l0 : Nat → List Bool → Bool → Int → Int → Option (Int)
  | 0, _, _, _, _ => none
  | k + 1, x0, x1, x7, x8 => if x8 < x7 then (if 0 ≤ x8 then (if x8 < (x0.length : Int) then (if (x1 == (rdOf false x0 x8)) = true then (some x8) else (slices_Index_bool_bool.l0 k x0 x1 x7 (wrap64 (x8 + 1)))) else (none)) else (none)) else (some (-1))
def slices_Index_bool_bool.f (k : Nat) (l0 : List Bool) (a1 : Bool) : Option (Int) := slices_Index_bool_bool.l0 k l0 a1 (l0.length : Int) 0
theorem slices_Index_bool_bool.mono_l : ∀ k, (∀ y0 y1 y2 y3, LeO (slices_Index_bool_bool.l0 k y0 y1 y2 y3) (slices_Index_bool_bool.l0 (k + 1) y0 y1 y2 y3))
  | 0 => fun _ _ _ _ r h => by simp [slices_Index_bool_bool.l0] at h
  | k + 1 => by
    have ih0 := slices_Index_bool_bool.mono_l k
    · intro y0 y1 y2 y3
      unfold slices_Index_bool_bool.l0
      repeat' first
      | (with_reducible exact ih0 _ _ _ _)
      | (with_reducible exact LeO.refl _)
      | (with_reducible exact LeO.none _)
      | (with_reducible refine LeO.ite ?_ ?_)
      | (with_reducible refine LeO.bind ?_ (fun _ => ?_))
      | exact ih0 _ _ _ _
      | exact LeO.none _
      | refine LeO.ite ?_ ?_
      | refine LeO.bind ?_ (fun _ => ?_)
theorem slices_Index_bool_bool.mono : ∀ a0 a1 k, LeO (slices_Index_bool_bool.f k a0 a1) (slices_Index_bool_bool.f (k + 1) a0 a1) := by
  intro a0 a1 k
  have ih0 := slices_Index_bool_bool.mono_l k
  unfold slices_Index_bool_bool.f
  repeat' first
      | (with_reducible exact ih0 _ _ _ _)
      | (with_reducible exact LeO.refl _)
      | (with_reducible exact LeO.none _)
      | (with_reducible refine LeO.ite ?_ ?_)
      | (with_reducible refine LeO.bind ?_ (fun _ => ?_))
      | exact ih0 _ _ _ _
      | exact LeO.none _
      | refine LeO.ite ?_ ?_
      | refine LeO.bind ?_ (fun _ => ?_)
set_option maxHeartbeats 8000000 in
set_option maxRecDepth 100000 in
theorem slices_Index_bool_bool.calls (k : Nat) (A0 : Option Addr) (c0 : Nat) (l0 : List Bool) (a1 : Bool) (r : Int) (w : World) (hr0 : Kd.C Kd.bool w A0 l0.length l0) (hc0 : l0.length ≤ c0) (h : slices_Index_bool_bool.f k l0 a1 = some r) :
  Calls Tryz.prog 49 #[.slice A0 l0.length c0, .bool a1] w fun e w' => e = .returned (.int .i64 r) ∧ Drawn0 w w' := by
 have HR0 := Aside0.mk hr0
 have HC0 := Aside0.mk hc0
 clear hr0 hc0
 have H : (slices_Index_bool_bool.l0 k l0 a1 (l0.length : Int) 0) = some r := h
 clear h
 have H' := Aside0.mk H
 clear H
 go_enter Tryz.func49, Tryz.ntmps49
 go_wp2
 go_loopg [8] k (fun kq v8 w' => ∃ (x8_1 : Int), v8 = .int .i64 x8_1 ∧ Aside0 (slices_Index_bool_bool.l0 kq l0 a1 (l0.length : Int) x8_1 = some r) ∧ Aside0 (kq ≤ k) ∧ Drawn0 w w')
 case atStart => exact ⟨(0), (by first | rfl | (simp; done) | (simp [*]; done)), H', ⟨Nat.le_refl _⟩, by repeat (first | exact Drawn0.refl _ | apply Drawn0.step)⟩
 case round =>
  clear H'
  try clear p2
  obtain ⟨x8_1, rfl, HA, HK1, ⟨m1, rfl⟩⟩ := hrel
  cases gk with
  | zero => exact absurd HA.out (by simp [slices_Index_bool_bool.l0])
  | succ k1 =>
   have H := HA.out
   clear HA
   simp only [slices_Index_bool_bool.l0] at H
   by_cases c3 : x8_1 < (l0.length : Int)
   ·rw [if_pos c3] at H
    have c3b0 : decide (x8_1 < (l0.length : Int)) = true := decide_eq_true c3
    clear c3
    by_cases c4 : 0 ≤ x8_1
    ·rw [if_pos c4] at H
     have c4b0 : decide (0 ≤ x8_1) = true := decide_eq_true c4
     clear c4
     by_cases c5 : x8_1 < (l0.length : Int)
     ·rw [if_pos c5] at H
      have c5b0 : decide (x8_1 < (l0.length : Int)) = true := decide_eq_true c5
      clear c5
      by_cases c6 : (a1 == (rdOf false l0 x8_1)) = true
      ·rw [if_pos c6] at H
       have c6b0 : (a1 == (rdOf false l0 x8_1)) = true := c6
       (try (have c6b1 : decide (a1 = (rdOf false l0 x8_1)) = true := by simpa using c6))
       (try (have c6b2 : (a1 == (rdOf false l0 x8_1)) = true := by simpa using c6))
       clear c6
       obtain rfl := Option.some.inj H
       have p106 : 0 ≤ (x8_1 : Int) := of_decide_eq_true (by first | (with_reducible assumption) | assumption)
       have q106 : x8_1 < (l0.length : Int) := of_decide_eq_true (by first | (with_reducible assumption) | assumption)
       obtain ⟨ad106, e106, hx106_0⟩ := Kd.at_bool HR0.out x8_1 p106 q106
       cases e106
       replace p106 := eq_true p106
       replace q106 := eq_true q106
       go_wp2
       go_ret
       exact ⟨by first | rfl | (simp; done) | (simp [*]; done), by repeat (first | exact Drawn0.refl _ | apply Drawn0.step)⟩
      ·rw [if_neg c6] at H
       have c6b0 : (a1 == (rdOf false l0 x8_1)) = false := by simpa using c6
       (try (have c6b1 : decide (a1 = (rdOf false l0 x8_1)) = false := by simpa using c6))
       (try (have c6b2 : (a1 == (rdOf false l0 x8_1)) = false := by simpa using c6))
       (try (have c6b3 : ¬ (a1 = (rdOf false l0 x8_1)) := by simpa using c6))
       clear c6
       have H' := Aside0.mk H
       clear H
       have p106 : 0 ≤ (x8_1 : Int) := of_decide_eq_true (by first | (with_reducible assumption) | assumption)
       have q106 : x8_1 < (l0.length : Int) := of_decide_eq_true (by first | (with_reducible assumption) | assumption)
       obtain ⟨ad106, e106, hx106_0⟩ := Kd.at_bool HR0.out x8_1 p106 q106
       cases e106
       replace p106 := eq_true p106
       replace q106 := eq_true q106
       go_wp2
       go_roundg k1
       case measure => have := HK1.out; omega
       case rel => exact ⟨(wrap64 (x8_1 + 1)), (by first | rfl | (simp; done) | (simp [*]; done)), H', ⟨by have := HK1.out; omega⟩, by repeat (first | exact Drawn0.refl _ | apply Drawn0.step)⟩
     ·rw [if_neg c5] at H
      exact absurd H (by simp)
    ·rw [if_neg c4] at H
     exact absurd H (by simp)
   ·rw [if_neg c3] at H
    have c3b0 : decide (x8_1 < (l0.length : Int)) = false := decide_eq_false c3
    clear c3
    obtain rfl := Option.some.inj H
    go_wp2
    go_ret
    exact ⟨by first | rfl | (simp; done) | (simp [*]; done), by repeat (first | exact Drawn0.refl _ | apply Drawn0.step)⟩

/-! ### slices_Contains_bool_bool: function 26 -/
def slices_Contains_bool_bool.f (k : Nat) (l0 : List Bool) (a1 : Bool) : Option (Bool) := (slices_Index_bool_bool.f k l0 a1).bind fun t107 => (some (decide (t107 ≥ 0)))
theorem slices_Contains_bool_bool.mono : ∀ a0 a1 k, LeO (slices_Contains_bool_bool.f k a0 a1) (slices_Contains_bool_bool.f (k + 1) a0 a1) := by
  intro a0 a1 k
  unfold slices_Contains_bool_bool.f
  repeat' first
      | (with_reducible exact slices_Index_bool_bool.mono _ _ _)
      | (with_reducible exact LeO.refl _)
      | (with_reducible exact LeO.none _)
      | (with_reducible refine LeO.ite ?_ ?_)
      | (with_reducible refine LeO.bind ?_ (fun _ => ?_))
      | exact slices_Index_bool_bool.mono _ _ _
      | exact LeO.none _
      | refine LeO.ite ?_ ?_
      | refine LeO.bind ?_ (fun _ => ?_)
set_option maxHeartbeats 8000000 in
set_option maxRecDepth 100000 in
theorem slices_Contains_bool_bool.calls (k : Nat) (A0 : Option Addr) (c0 : Nat) (l0 : List Bool) (a1 : Bool) (r : Bool) (w : World) (hr0 : Kd.C Kd.bool w A0 l0.length l0) (hc0 : l0.length ≤ c0) (h : slices_Contains_bool_bool.f k l0 a1 = some r) :
    Calls Tryz.prog 26 #[.slice A0 l0.length c0, .bool a1] w fun e w' => e = .returned (.bool r) ∧ Drawn0 w w' := by
  have HR0 := Aside0.mk hr0
  have HC0 := Aside0.mk hc0
  clear hr0 hc0
  have H : ((slices_Index_bool_bool.f k l0 a1).bind fun t107 => (some (decide (t107 ≥ 0)))) = some r := h
  clear h
  replace H := Option.bind_eq_some_iff.mp H
  obtain ⟨t107, A30, H⟩ := H
  replace H : (some (decide (t107 ≥ 0))) = some r := H
  have A3 := Aside0.mk A30
  clear A30
  obtain rfl := Option.some.inj H
  go_enter Tryz.func26, Tryz.ntmps26
  go_wp2_with (first | ((with_reducible refine gate_callee (f := 49) rfl ?_); refine goesL_ (some 7) rfl rfl Tryz.func49 (by kernel_rfl) rfl #[.slice A0 l0.length c0, .bool a1] rfl (by (try simp only [List.map_toArray, List.map_cons, List.map_nil]); first | done | rfl | (simp only [List.length_drop, List.length_take]; rfl)) ?_; (with_reducible refine (slices_Index_bool_bool.calls k _ _ l0 a1 t107 _ ?side1 ?side2 A3.out).mono ?_); (case side1 => repeat (first | exact HR0.out | (with_reducible refine Kd.C_alloc ?_ _) | (with_reducible refine Kd.C_drewN ?_ _) | (with_reducible refine Kd.C_drew ?_))); (case side2 => exact HC0.out); rintro e w' ⟨rfl, ⟨nd, rfl⟩⟩; refine ⟨_, rfl, ?_⟩))
  go_ret
  exact ⟨by first | rfl | (simp; done) | (simp [*]; done), by repeat (first | exact Drawn0.refl _ | apply Drawn0.step)⟩

end Go.Proofs.YtikbgoppmailjaaGreatDoor.H
-- Written by hp.py (a program of this session, over the kit's print.py), with hand-made contracts beside it.
namespace Go.Proofs.YtikbgoppmailjaaGreatDoor.H
open Go.RowKit Go.Proofs.YtikbgoppmailjaaGreatDoorW.PrintWords Go.Proofs.YtikbgoppmailjaaGreatDoorW.PrintLast Go.Proofs.YtikbgoppmailjaaGreatDoorW.PrintMore
attribute [local go_sem] max2_int min2_int max_two min_two max_three min_three max_four min_four   -- for this text's walks alone
set_option linter.unusedVariables false
set_option linter.unusedSimpArgs false

/-! ### guard_Good: function 11 -/
mutual
def guard_Good.l0 : Nat → List Bool → List (S39) → Int → Int → Option (Bool)
  | 0, _, _, _, _ => none
  | k + 1, x3, x10, x11, x12 => if x12 < x11 then (if 0 ≤ x12 then (if x12 < (x10.length : Int) then ((guard_takes.f k ((rd_T39 x10 x12).f0) ((rd_T39 x10 x12).f1)).bind fun bt111 => (if bt111.1 < 0 then (guard_Good.j1 k x3 bt111.1 bt111.2.1 bt111.2.2 x10 x11 x12 true) else (guard_Good.j1 k x3 bt111.1 bt111.2.1 bt111.2.2 x10 x11 x12 (decide ((x3.length : Int) < bt111.1))))) else (none)) else (none)) else (if (x3.length : Int) = 1 then (if 0 < (x3.length : Int) then (some (rdOf false x3 0)) else (none)) else (some false))
def guard_Good.j1 : Nat → List Bool → Int → Bool → Bool → List (S39) → Int → Int → Bool → Option (Bool)
  | 0, _, _, _, _, _, _, _, _ => none
  | k + 1, x3, x6, x7, x8, x10, x11, x12, x29 => if x29 = true then (some false) else (if 0 ≤ (wrap64 ((x3.length : Int) - x6)) then (if (wrap64 ((x3.length : Int) - x6)) ≤ (x3.length : Int) then ((slices_Contains_bool_bool.f k (x3.drop ((wrap64 ((x3.length : Int) - x6)) : Int).toNat) (!x7)).bind fun t118 => (if t118 = true then (some false) else ((some (x3.take ((wrap64 ((x3.length : Int) - x6)) : Int).toNat : List Bool)).bind fun y119 => (if y119.length < 140737488355328 then (guard_Good.l0 k (y119 ++ [x8]) x10 x11 (wrap64 (x12 + 1))) else (none))))) else (none)) else (none))
end
def guard_Good.f (k : Nat) (l0 : List (S39)) : Option (Bool) := guard_Good.l0 k ([] : List Bool) l0 (l0.length : Int) 0
theorem guard_Good.mono_l : ∀ k, (∀ y0 y1 y2 y3, LeO (guard_Good.l0 k y0 y1 y2 y3) (guard_Good.l0 (k + 1) y0 y1 y2 y3)) ∧ (∀ y0 y1 y2 y3 y4 y5 y6 y7, LeO (guard_Good.j1 k y0 y1 y2 y3 y4 y5 y6 y7) (guard_Good.j1 (k + 1) y0 y1 y2 y3 y4 y5 y6 y7))
  | 0 => ⟨fun _ _ _ _ r h => by simp [guard_Good.l0] at h, fun _ _ _ _ _ _ _ _ r h => by simp [guard_Good.j1] at h⟩
  | k + 1 => by
    obtain ⟨ih0, ih1⟩ := guard_Good.mono_l k
    refine ⟨?_, ?_⟩
    · intro y0 y1 y2 y3
      unfold guard_Good.l0
      repeat' first
      | (with_reducible exact ih0 _ _ _ _)
      | (with_reducible exact ih1 _ _ _ _ _ _ _ _)
      | (with_reducible exact guard_takes.mono _ _ _)
      | (with_reducible exact slices_Contains_bool_bool.mono _ _ _)
      | (with_reducible exact LeO.refl _)
      | (with_reducible exact LeO.none _)
      | (with_reducible refine LeO.ite ?_ ?_)
      | (with_reducible refine LeO.bind ?_ (fun _ => ?_))
      | exact ih0 _ _ _ _
      | exact ih1 _ _ _ _ _ _ _ _
      | exact guard_takes.mono _ _ _
      | exact slices_Contains_bool_bool.mono _ _ _
      | exact LeO.none _
      | refine LeO.ite ?_ ?_
      | refine LeO.bind ?_ (fun _ => ?_)
    · intro y0 y1 y2 y3 y4 y5 y6 y7
      unfold guard_Good.j1
      repeat' first
      | (with_reducible exact ih0 _ _ _ _)
      | (with_reducible exact ih1 _ _ _ _ _ _ _ _)
      | (with_reducible exact guard_takes.mono _ _ _)
      | (with_reducible exact slices_Contains_bool_bool.mono _ _ _)
      | (with_reducible exact LeO.refl _)
      | (with_reducible exact LeO.none _)
      | (with_reducible refine LeO.ite ?_ ?_)
      | (with_reducible refine LeO.bind ?_ (fun _ => ?_))
      | exact ih0 _ _ _ _
      | exact ih1 _ _ _ _ _ _ _ _
      | exact guard_takes.mono _ _ _
      | exact slices_Contains_bool_bool.mono _ _ _
      | exact LeO.none _
      | refine LeO.ite ?_ ?_
      | refine LeO.bind ?_ (fun _ => ?_)
theorem guard_Good.mono : ∀ a0 k, LeO (guard_Good.f k a0) (guard_Good.f (k + 1) a0) := by
  intro a0 k
  obtain ⟨ih0, ih1⟩ := guard_Good.mono_l k
  unfold guard_Good.f
  repeat' first
      | (with_reducible exact ih0 _ _ _ _)
      | (with_reducible exact ih1 _ _ _ _ _ _ _ _)
      | (with_reducible exact guard_takes.mono _ _ _)
      | (with_reducible exact slices_Contains_bool_bool.mono _ _ _)
      | (with_reducible exact LeO.refl _)
      | (with_reducible exact LeO.none _)
      | (with_reducible refine LeO.ite ?_ ?_)
      | (with_reducible refine LeO.bind ?_ (fun _ => ?_))
      | exact ih0 _ _ _ _
      | exact ih1 _ _ _ _ _ _ _ _
      | exact guard_takes.mono _ _ _
      | exact slices_Contains_bool_bool.mono _ _ _
      | exact LeO.none _
      | refine LeO.ite ?_ ?_
      | refine LeO.bind ?_ (fun _ => ?_)
set_option maxHeartbeats 8000000 in
set_option maxRecDepth 100000 in
theorem guard_Good.calls (k : Nat) (A0 : Option Addr) (c0 : Nat) (l0 : List (S39)) (r : Bool) (w : World) (hr0 : Kd.C k39 w A0 l0.length l0) (hc0 : l0.length ≤ c0) (h : guard_Good.f k l0 = some r) :
  Calls Tryz.prog 11 #[.slice A0 l0.length c0] w fun e w' => e = .returned (.bool r) ∧ Below w.heap.size w w' := by
 have hu39 := Tryz.underlying39
 have HR0 := Aside0.mk hr0
 have HC0 := Aside0.mk hc0
 clear hr0 hc0
 have HB := Aside0.mk (Below.refl w.heap.size w)
 have H : (guard_Good.l0 k ([] : List Bool) l0 (l0.length : Int) 0) = some r := h
 clear h
 have H' := Aside0.mk H
 clear H
 go_enter Tryz.func11, Tryz.ntmps11
 go_wp2
 go_loopg [3, 12] k (fun kq v3 v12 w' => ∃ (x3_1 : List Bool) (x12_1 : Int), v12 = .int .i64 x12_1 ∧ Aside0 (guard_Good.l0 kq x3_1 l0 (l0.length : Int) x12_1 = some r) ∧ Aside0 (kq ≤ k) ∧ Aside0 (Kd.R Kd.bool 4 w' w.heap.size (fun _ => True) v3 x3_1) ∧ Aside0 (Below w.heap.size w w'))
 case atStart => exact ⟨(([] : List Bool)), (0), (by first | rfl | (simp; done) | (simp [*]; done)), H', ⟨Nat.le_refl _⟩, ⟨by first | exact Kd.R_nil _ _ _ _ _ | exact Kd.N_nil _ _ _ _ _ | exact Kd.V_nil _ _ _ _ _ | exact Kd.Q_nil _ _ _ _ _ | exact Kd.S_nil _ _ _ _ _⟩, ⟨by repeat (first | (with_reducible first | exact HB.out | apply bal | apply pbN | apply bd1) | exact HB.out)⟩⟩
 case round =>
  clear H'
  try clear c1
  obtain ⟨x3_1, x12_1, rfl, HA, HK1, HO_3, HB⟩ := hrel
  cases gk with
  | zero => exact absurd HA.out (by simp [guard_Good.l0])
  | succ k1 =>
   have H := HA.out
   clear HA
   simp only [guard_Good.l0] at H
   by_cases c2 : x12_1 < (l0.length : Int)
   ·rw [if_pos c2] at H
    have c2b0 : decide (x12_1 < (l0.length : Int)) = true := decide_eq_true c2
    clear c2
    by_cases c3 : 0 ≤ x12_1
    ·rw [if_pos c3] at H
     have c3b0 : decide (0 ≤ x12_1) = true := decide_eq_true c3
     clear c3
     by_cases c4 : x12_1 < (l0.length : Int)
     ·rw [if_pos c4] at H
      have c4b0 : decide (x12_1 < (l0.length : Int)) = true := decide_eq_true c4
      clear c4
      replace H := Option.bind_eq_some_iff.mp H
      obtain ⟨⟨t111, t112, t113⟩, A50, H⟩ := H
      replace H : (if t111 < 0 then (guard_Good.j1 k1 x3_1 t111 t112 t113 l0 (l0.length : Int) x12_1 true) else (guard_Good.j1 k1 x3_1 t111 t112 t113 l0 (l0.length : Int) x12_1 (decide ((x3_1.length : Int) < t111)))) = some r := H
      have A5 := Aside0.mk A50
      clear A50
      have HC6 := Aside0.mk H
      clear H
      have p109 : 0 ≤ (x12_1 : Int) := of_decide_eq_true (by first | (with_reducible assumption) | assumption)
      have q109 : x12_1 < (l0.length : Int) := of_decide_eq_true (by first | (with_reducible assumption) | assumption)
      obtain ⟨ad109, e109, hx109_0, hx109_1⟩ := at_T39 HR0.out x12_1 p109 q109
      cases e109
      replace hx109_0 := (HB.out.cell (World.block_lt_of_cell? w _ hx109_0)).trans hx109_0
      replace hx109_1 := (HB.out.cell (World.block_lt_of_cell? w _ hx109_1)).trans hx109_1
      replace p109 := eq_true p109
      replace q109 := eq_true q109
      go_upto_region 6 with (first | ((with_reducible refine gate_dst (N := 5) rfl ?_); (try (refine gate_guard (by rfl) ?_; dsimp only)); refine box_event ?hg (N := 5) ?hd (cs := #[.int .i64 0, .int .i64 0]) (t := 39) ?hr ?_; (case hd => rfl); (case hg => rfl); (case hr => first | (go_simp; done) | (go_simp; rfl)); intro gb110 hg w7 hbox hb; have n0_ := Aside0.mk (Kd.R_below (by (with_reducible repeat (first | apply Kd.R_alloc | apply Kd.R_drewN | apply Kd.R_drew)); exact HO_3.out) hb); have n1_ := Aside0.mk (bsp (by repeat (first | (with_reducible first | exact HB.out | apply bal | apply pbN | apply bd1) | exact HB.out)) hb); have n2_ := Aside0.mk (hbox); have n3_ := Aside0.mk ((by rw [hg]; exact (bsz (by repeat (first | (with_reducible first | exact HB.out | apply bal | apply pbN | apply bd1) | exact HB.out))) : w.heap.size ≤ gb110)); have n4_ := Aside0.mk ((by rw [hg]; exact (bsz (by repeat (first | (with_reducible first | exact HB.out | apply bal | apply pbN | apply bd1) | exact HB.out))) : w.heap.size ≤ gb110)); clear HO_3; clear HB; have HO_3 := n0_; have HB := n1_; have BK110 := n2_; have GW110 := n3_; have GE110 := n4_; clear n0_ n1_ n2_ n3_ n4_; clear hb hbox hg; have hcz8_0 : w7.cell? ⟨gb110, 0, none⟩ = some (.int .i64 0) := (bce BK110.out 0).trans rfl; have hcz8_1 : w7.cell? ⟨gb110, 1, none⟩ = some (.int .i64 0) := (bce BK110.out 1).trans rfl; have hfz8_0 := bfz BK110.out 0; have hfz8_1 := bfz BK110.out 1) | ((with_reducible refine gate_callee (f := 21) rfl ?_); refine goesL_ (some 18) rfl rfl Tryz.func21 (by kernel_rfl) rfl #[.agg #[.int .i64 ((rd_T39 l0 x12_1).f0), .int .i64 ((rd_T39 l0 x12_1).f1)]] rfl (by (try simp only [List.map_toArray, List.map_cons, List.map_nil]); first | done | rfl | (simp only [List.length_drop, List.length_take]; rfl)) ?_; (with_reducible refine (guard_takes.calls k1 ((rd_T39 l0 x12_1).f0) ((rd_T39 l0 x12_1).f1) t111 t112 t113 _ A5.out).mono ?_); rintro e w9 ⟨rfl, hb⟩; refine ⟨_, rfl, ?_⟩; have n0_ := Aside0.mk (Kd.R_below (by (with_reducible repeat (first | apply Kd.R_alloc | apply Kd.R_drewN | apply Kd.R_drew)); exact (Kd.R_mono (Kd.R_far (p := ⟨gb110, 1, none⟩) (Kd.R_far (p := ⟨gb110, 0, none⟩) (Kd.R_types HO_3.out BK110.out (by decide)) (fun _ hk => hk.2) (.int .i64 ((rd_T39 l0 x12_1).f0))) (fun _ hk => hk.2) (.int .i64 ((rd_T39 l0 x12_1).f1))) (fun _ h_ => h_.1))) hb); have n1_ := Aside0.mk (bbe (g := gb110) (o := .cells #[.int .i64 ((rd_T39 l0 x12_1).f0), .int .i64 ((rd_T39 l0 x12_1).f1)] 39 (0, 0)) (by (with_reducible repeat (first | refine bkn ?_ _ | refine bkd ?_ | refine bka ?_ _)); refine blk_put (cs := #[.int .i64 ((rd_T39 l0 x12_1).f0), .int .i64 0]) ?_ 1 _ rfl; (with_reducible repeat (first | refine bkn ?_ _ | refine bkd ?_ | refine bka ?_ _)); refine blk_put (cs := #[.int .i64 0, .int .i64 0]) ?_ 0 _ rfl; (with_reducible repeat (first | refine bkn ?_ _ | refine bkd ?_ | refine bka ?_ _)); exact BK110.out) hb); have n2_ := Aside0.mk (bsp (by repeat (first | (with_reducible first | exact HB.out | apply bal | apply pbN | apply bd1 | refine bst ?_ GE110.out) | exact HB.out)) hb); clear HO_3; clear BK110; clear HB; have HO_3 := n0_; have BK110 := n1_; have HB := n2_; clear n0_ n1_ n2_; (try clear hb); (try clear hb2); (try clear hk); (try clear hi)))
      (try simp only [Act.put, List.setIfInBounds_toArray, List.set_cons_zero, List.set_cons_succ])
      go_cut [29] (fun v29 wc => ∃ (kq : Nat) (x29_5 : Bool), v29 = .bool x29_5 ∧ Aside0 (guard_Good.j1 kq x3_1 t111 t112 t113 l0 (l0.length : Int) x12_1 x29_5 = some r) ∧ Aside0 (kq ≤ k1) ∧ Aside0 (Kd.R Kd.bool 4 wc w.heap.size (fun _ => True) u3 x3_1) ∧ Aside0 (wc.heap[gb110]? = some (.cells #[.int .i64 ((rd_T39 l0 x12_1).f0), .int .i64 ((rd_T39 l0 x12_1).f1)] 39 (0, 0))) ∧ Aside0 (Below w.heap.size w wc))
      case first =>
       have H := HC6.out
       clear HC6
       by_cases c10 : t111 < 0
       ·rw [if_pos c10] at H
        have c10b0 : decide (t111 < 0) = true := decide_eq_true c10
        clear c10
        (first | rw [c10b0] | (simp only [i64_w, i32_w]; rw [c10b0]) | skip)
        have H' := Aside0.mk H
        clear H
        go_wp2
        go_meet
        case rel => exact ⟨_, (true), (by first | rfl | (simp; done) | (simp [*]; done)), H', ⟨by have := HK1.out; first | omega | exact Nat.le_refl _⟩, ⟨by (with_reducible repeat (first | apply Kd.R_alloc | apply Kd.R_drewN | apply Kd.R_drew)); exact HO_3.out⟩, ⟨by (with_reducible repeat (first | refine bkn ?_ _ | refine bkd ?_ | refine bka ?_ _)); exact BK110.out⟩, ⟨by repeat (first | (with_reducible first | exact HB.out | apply bal | apply pbN | apply bd1 | refine bst ?_ GE110.out) | exact HB.out)⟩⟩
       ·rw [if_neg c10] at H
        have c10b0 : decide (t111 < 0) = false := decide_eq_false c10
        clear c10
        (first | rw [c10b0] | (simp only [i64_w, i32_w]; rw [c10b0]) | skip)
        have H' := Aside0.mk H
        clear H
        obtain ⟨Ao11, co11, eo11⟩ := Kd.R_slice HO_3.out
        subst eo11
        go_wp2
        go_meet
        case rel => exact ⟨_, (decide ((x3_1.length : Int) < t111)), (by first | rfl | (simp; done) | (simp [*]; done)), H', ⟨by have := HK1.out; first | omega | exact Nat.le_refl _⟩, ⟨by (with_reducible repeat (first | apply Kd.R_alloc | apply Kd.R_drewN | apply Kd.R_drew)); exact HO_3.out⟩, ⟨by (with_reducible repeat (first | refine bkn ?_ _ | refine bkd ?_ | refine bka ?_ _)); exact BK110.out⟩, ⟨by repeat (first | (with_reducible first | exact HB.out | apply bal | apply pbN | apply bd1 | refine bst ?_ GE110.out) | exact HB.out)⟩⟩
      case rest =>
       clear HC6
       try clear c1
       try clear p1
       try clear q1
       try clear hx1
       try clear c2
       try clear c2b0
       try clear p2
       try clear c3
       try clear c3b0
       try clear c4
       try clear c4b0
       try clear c10
       try clear c10b0
       try clear p10
       try clear q10
       try clear hx10
       try clear c11
       try clear hcz8_0
       try clear hcz8_1
       try clear hfz8_0
       try clear hfz8_1
       try clear hx109_0
       try clear hx109_1
       try clear p109
       try clear q109
       obtain ⟨kq, x29_5, rfl, HA, HJ5, HO_3, BK110, HB⟩ := hcut
       cases kq with
       | zero => exact absurd HA.out (by simp [guard_Good.j1])
       | succ kj5 =>
        have H := HA.out
        clear HA
        simp only [guard_Good.j1] at H
        by_cases c12 : x29_5 = true
        ·subst c12
         have H1 : (some false) = some r := by rw [if_pos rfl] at H; exact H
         clear H
         have H := H1
         clear H1
         obtain rfl := Option.some.inj H
         go_wp2
         go_ret
         exact ⟨by first | rfl | (simp [errW_none, errW_some] <;> rfl) | (simp [*, errW_none, errW_some] <;> rfl), by repeat (first | (with_reducible first | exact HB.out | apply bal | apply pbN | apply bd1 | refine bst ?_ GE110.out) | exact HB.out)⟩
        ·replace c12 := Bool.eq_false_iff.mpr c12
         subst c12
         have H1 : (if 0 ≤ (wrap64 ((x3_1.length : Int) - t111)) then (if (wrap64 ((x3_1.length : Int) - t111)) ≤ (x3_1.length : Int) then ((slices_Contains_bool_bool.f kj5 (x3_1.drop ((wrap64 ((x3_1.length : Int) - t111)) : Int).toNat) (!t112)).bind fun t118 => (if t118 = true then (some false) else ((some (x3_1.take ((wrap64 ((x3_1.length : Int) - t111)) : Int).toNat : List Bool)).bind fun y119 => (if y119.length < 140737488355328 then (guard_Good.l0 kj5 (y119 ++ [t113]) l0 (l0.length : Int) (wrap64 (x12_1 + 1))) else (none))))) else (none)) else (none)) = some r := by rw [if_neg (show ¬ (false = true) by decide)] at H; exact H
         clear H
         have H := H1
         clear H1
         obtain ⟨ji13, hji13⟩ : ∃ j_ : Int, (wrap64 ((x3_1.length : Int) - t111)) = j_ := ⟨_, rfl⟩
         replace H : (if 0 ≤ (ji13) then (if (ji13) ≤ (x3_1.length : Int) then ((slices_Contains_bool_bool.f kj5 (x3_1.drop ((ji13) : Int).toNat) (!t112)).bind fun t118 => (if t118 = true then (some false) else ((some (x3_1.take ((ji13) : Int).toNat : List Bool)).bind fun y119 => (if y119.length < 140737488355328 then (guard_Good.l0 kj5 (y119 ++ [t113]) l0 (l0.length : Int) (wrap64 (x12_1 + 1))) else (none))))) else (none)) else (none)) = some r := by first | (rw [hji13] at H; exact H) | (simp only [hji13] at H ⊢; exact H)
         have hji13w : (IntKind.i64.wrap ((x3_1.length : Int) - t111)) = ji13 := (i64_w _).trans hji13
         by_cases c14 : 0 ≤ (ji13)
         ·rw [if_pos c14] at H
          have c14b0 := eq_true c14
          have c14b1 : decide (0 ≤ (ji13)) = true := decide_eq_true c14
          clear c14
          by_cases c15 : (ji13) ≤ (x3_1.length : Int)
          ·rw [if_pos c15] at H
           have c15b0 := eq_true c15
           have c15b1 : decide ((ji13) ≤ (x3_1.length : Int)) = true := decide_eq_true c15
           clear c15
           obtain ⟨y114, hy114⟩ : ∃ y_ : List Bool, y_ = (x3_1.drop ((ji13) : Int).toNat) := ⟨_, rfl⟩
           replace H : ((slices_Contains_bool_bool.f kj5 y114 (!t112)).bind fun t118 => (if t118 = true then (some false) else ((some (x3_1.take ((ji13) : Int).toNat : List Bool)).bind fun y119 => (if y119.length < 140737488355328 then (guard_Good.l0 kj5 (y119 ++ [t113]) l0 (l0.length : Int) (wrap64 (x12_1 + 1))) else (none))))) = some r := by first | (rw [hy114]; with_reducible exact H) | (have H2_ := (Option.bind_some _ _).symm.trans H; rw [hy114]; with_reducible exact H2_) | (have H2_ := (Option.bind_some _ _).symm.trans H; with_reducible exact H2_) | with_reducible exact H | (rw [hy114]; exact H) | exact H
           have Ny114 := Aside0.mk hy114
           clear hy114
           replace H := Option.bind_eq_some_iff.mp H
           obtain ⟨t118, A160, H⟩ := H
           replace H : (if t118 = true then (some false) else ((some (x3_1.take ((ji13) : Int).toNat : List Bool)).bind fun y119 => (if y119.length < 140737488355328 then (guard_Good.l0 kj5 (y119 ++ [t113]) l0 (l0.length : Int) (wrap64 (x12_1 + 1))) else (none)))) = some r := H
           have A16 := Aside0.mk A160
           clear A160
           by_cases c17 : t118 = true
           ·subst c17
            have H1 : (some false) = some r := by rw [if_pos rfl] at H; exact H
            clear H
            have H := H1
            clear H1
            obtain rfl := Option.some.inj H
            obtain ⟨Ao18, co18, eo18⟩ := Kd.R_slice HO_3.out
            subst eo18
            have q19 : ((ji13) : Int) ≤ ((x3_1.length : Int) : Int) := of_decide_eq_true (by first | (with_reducible assumption) | assumption)
            obtain ⟨i019, hi019, _, hsz19, _⟩ := info_parts info4
            have hroom19 : x3_1.length ≤ co18 := (Kd.R_reads' HO_3.out).2.1
            have hC19 : Kd.C Kd.bool _ Ao18 x3_1.length x3_1 := (Kd.R_reads' HO_3.out).2.2
            have q019 : (0 : Int) ≤ ((ji13) : Int) := of_decide_eq_true (by first | (with_reducible assumption) | assumption)
            have hcut19 := cut_from (P := Tryz.prog) 57 4 .i64 Tryz.underlying57 hi019 1 hsz19 Ao18 x3_1.length co18 (ji13) q019 q19
            have hr19 := Kd.C_drop (m := ((ji13) : Int).toNat) (c := co18) hC19 (by omega) hroom19
            obtain ⟨A19, hA19⟩ : ∃ q_, q_ = (if co18 = ((ji13) : Int).toNat then Ao18 else (Ao18 : Option Addr).map (·.add (((ji13) : Int).toNat * 1))) := ⟨_, rfl⟩
            obtain ⟨c19, hc19⟩ : ∃ q_, q_ = co18 - ((ji13) : Int).toNat := ⟨_, rfl⟩
            have hy19 : y114.length = x3_1.length - ((ji13) : Int).toNat := (by rw [Ny114.out, List.length_drop] <;> omega)
            rw [show (x3_1).drop ((ji13) : Int).toNat = y114 from Ny114.out.symm] at hr19
            replace hr19 : Kd.C Kd.bool _ A19 y114.length y114 := (by rw [hA19]; exact hr19)
            rw [← hy19, ← hA19, ← hc19] at hcut19
            have HR117 := Aside0.mk hr19
            have HC117 := Aside0.mk (show y114.length ≤ c19 from by rw [hy19, hc19]; exact Nat.sub_le_sub_right hroom19 _)
            clear hr19 hC19 hroom19 hi019 hsz19 hc19
            have KY19 := Aside0.mk hy19
            have KA19 := Aside0.mk hA19
            clear hy19 hA19
            have KL19 := Aside0.mk (show ((ji13) : Int).toNat ≤ x3_1.length from by omega)
            replace q19 := eq_true q19
            go_wp2_with (first | ((with_reducible refine gate_callee (f := 26) rfl ?_); refine goesL_ (some 39) rfl rfl Tryz.func26 (by kernel_rfl) rfl #[.slice A19 y114.length c19, .bool (!t112)] rfl (by (try simp only [List.map_toArray, List.map_cons, List.map_nil]); first | done | rfl | (simp only [List.length_drop, List.length_take]; rfl)) ?_; (with_reducible refine (slices_Contains_bool_bool.calls kj5 _ _ y114 (!t112) true _ ?side1 ?side2 A16.out).mono ?_); (case side1 => repeat (first | exact (by repeat (first | (with_reducible exact HR117.out) | (with_reducible refine Kd.C_alloc ?_ _) | (with_reducible refine Kd.C_drewN ?_ _) | (with_reducible refine Kd.C_drew ?_) | exact HR117.out)) | (with_reducible refine Kd.C_alloc ?_ _) | (with_reducible refine Kd.C_drewN ?_ _) | (with_reducible refine Kd.C_drew ?_))); (case side2 => exact HC117.out); rintro e w' ⟨rfl, ⟨nd, rfl⟩⟩; refine ⟨_, rfl, ?_⟩))
            go_ret
            exact ⟨by first | rfl | (simp [errW_none, errW_some] <;> rfl) | (simp only [← hji13]; first | rfl | (simp [errW_none, errW_some] <;> rfl)) | (simp [*, errW_none, errW_some] <;> rfl), by repeat (first | (with_reducible first | exact HB.out | apply bal | apply pbN | apply bd1 | refine bst ?_ GE110.out) | exact HB.out)⟩
           ·replace c17 := Bool.eq_false_iff.mpr c17
            subst c17
            have H1 : ((some (x3_1.take ((ji13) : Int).toNat : List Bool)).bind fun y119 => (if y119.length < 140737488355328 then (guard_Good.l0 kj5 (y119 ++ [t113]) l0 (l0.length : Int) (wrap64 (x12_1 + 1))) else (none))) = some r := by rw [if_neg (show ¬ (false = true) by decide)] at H; exact H
            clear H
            have H := H1
            clear H1
            have c20b0 := eq_true (of_decide_eq_true (by first | (with_reducible assumption) | assumption) : (ji13) ≤ (x3_1.length : Int))
            obtain ⟨y119, hy119⟩ : ∃ y_ : List Bool, y_ = (x3_1.take ((ji13) : Int).toNat) := ⟨_, rfl⟩
            replace H : (if y119.length < 140737488355328 then (guard_Good.l0 kj5 (y119 ++ [t113]) l0 (l0.length : Int) (wrap64 (x12_1 + 1))) else (none)) = some r := by first | (rw [hy119]; with_reducible exact H) | (have H2_ := (Option.bind_some _ _).symm.trans H; rw [hy119]; with_reducible exact H2_) | (have H2_ := (Option.bind_some _ _).symm.trans H; with_reducible exact H2_) | with_reducible exact H | (rw [hy119]; exact H) | exact H
            have Ny119 := Aside0.mk hy119
            clear hy119
            by_cases c21 : y119.length < 140737488355328
            ·rw [if_pos c21] at H
             have LMc21 := Aside0.mk c21
             clear c21
             obtain ⟨y122, hy122⟩ : ∃ y_ : List Bool, y_ = (y119 ++ [t113]) := ⟨_, rfl⟩
             replace H : (guard_Good.l0 kj5 y122 l0 (l0.length : Int) (wrap64 (x12_1 + 1))) = some r := by first | (rw [hy122]; with_reducible exact H) | (have H2_ := (Option.bind_some _ _).symm.trans H; rw [hy122]; with_reducible exact H2_) | (have H2_ := (Option.bind_some _ _).symm.trans H; with_reducible exact H2_) | with_reducible exact H | (rw [hy122]; exact H) | exact H
             have Ny122 := Aside0.mk hy122
             clear hy122
             have H' := Aside0.mk H
             clear H
             obtain ⟨Ao22, co22, eo22⟩ := Kd.R_slice HO_3.out
             subst eo22
             have q23 : ((ji13) : Int) ≤ ((x3_1.length : Int) : Int) := of_decide_eq_true (by first | (with_reducible assumption) | assumption)
             obtain ⟨i023, hi023, _, hsz23, _⟩ := info_parts info4
             have hroom23 : x3_1.length ≤ co22 := (Kd.R_reads' HO_3.out).2.1
             have hC23 : Kd.C Kd.bool _ Ao22 x3_1.length x3_1 := (Kd.R_reads' HO_3.out).2.2
             have q023 : (0 : Int) ≤ ((ji13) : Int) := of_decide_eq_true (by first | (with_reducible assumption) | assumption)
             have hcut23 := cut_from (P := Tryz.prog) 57 4 .i64 Tryz.underlying57 hi023 1 hsz23 Ao22 x3_1.length co22 (ji13) q023 q23
             have hr23 := Kd.C_drop (m := ((ji13) : Int).toNat) (c := co22) hC23 (by omega) hroom23
             obtain ⟨A23, hA23⟩ : ∃ q_, q_ = (if co22 = ((ji13) : Int).toNat then Ao22 else (Ao22 : Option Addr).map (·.add (((ji13) : Int).toNat * 1))) := ⟨_, rfl⟩
             obtain ⟨c23, hc23⟩ : ∃ q_, q_ = co22 - ((ji13) : Int).toNat := ⟨_, rfl⟩
             have hy23 : y114.length = x3_1.length - ((ji13) : Int).toNat := (by rw [Ny114.out, List.length_drop] <;> omega)
             rw [show (x3_1).drop ((ji13) : Int).toNat = y114 from Ny114.out.symm] at hr23
             replace hr23 : Kd.C Kd.bool _ A23 y114.length y114 := (by rw [hA23]; exact hr23)
             rw [← hy23, ← hA23, ← hc23] at hcut23
             have HR117 := Aside0.mk hr23
             have HC117 := Aside0.mk (show y114.length ≤ c23 from by rw [hy23, hc23]; exact Nat.sub_le_sub_right hroom23 _)
             clear hr23 hC23 hroom23 hi023 hsz23 hc23
             have KY23 := Aside0.mk hy23
             have KA23 := Aside0.mk hA23
             clear hy23 hA23
             have KL23 := Aside0.mk (show ((ji13) : Int).toNat ≤ x3_1.length from by omega)
             replace q23 := eq_true q23
             go_wp2_with (first | ((with_reducible refine gate_callee (f := 26) rfl ?_); refine goesL_ (some 39) rfl rfl Tryz.func26 (by kernel_rfl) rfl #[.slice A23 y114.length c23, .bool (!t112)] rfl (by (try simp only [List.map_toArray, List.map_cons, List.map_nil]); first | done | rfl | (simp only [List.length_drop, List.length_take]; rfl)) ?_; (with_reducible refine (slices_Contains_bool_bool.calls kj5 _ _ y114 (!t112) false _ ?side1 ?side2 A16.out).mono ?_); (case side1 => repeat (first | exact (by repeat (first | (with_reducible exact HR117.out) | (with_reducible refine Kd.C_alloc ?_ _) | (with_reducible refine Kd.C_drewN ?_ _) | (with_reducible refine Kd.C_drew ?_) | exact HR117.out)) | (with_reducible refine Kd.C_alloc ?_ _) | (with_reducible refine Kd.C_drewN ?_ _) | (with_reducible refine Kd.C_drew ?_))); (case side2 => exact HC117.out); rintro e w' ⟨rfl, ⟨nd, rfl⟩⟩; refine ⟨_, rfl, ?_⟩; have q24 : ((ji13) : Int) ≤ ((x3_1.length : Int) : Int) := of_decide_eq_true (by first | (with_reducible assumption) | assumption); obtain ⟨i024, hi024, _, hsz24, _⟩ := info_parts info4; have hcut24 := cut_to (P := Tryz.prog) 57 4 .i64 Tryz.underlying57 hi024 Ao22 x3_1.length co22 (ji13) (of_decide_eq_true (by first | (with_reducible assumption) | assumption)) q24 (Kd.R_reads' HO_3.out).2.1; have hr24 := Kd.R_take (m := ((ji13) : Int).toNat) HO_3.out (by omega); have hy24 : y119.length = ((ji13) : Int).toNat := (by rw [Ny119.out, List.length_take]; omega); rw [← Ny119.out] at hr24; rw [← hy24] at hr24 hcut24; clear hy24 hi024 hsz24 HO_3; have HO121 := Aside0.mk hr24; clear hr24; replace q24 := eq_true q24) | ((with_reducible refine gate_builtin (b := .append) (xs := #[.tmp 42, .tmp 44]) rfl ?_); (try (refine gate_guard (by rfl) ?_; dsimp only)); at_builtin; refine Kd.R_append Kd.bool (w0 := w) w.heap.size rfl (.tmp 42) (.tmp 44) 57 4 (.bool false) 1 rfl Tryz.underlying57 info4 rfl (by decide) (by omega) (.slice Ao22 y119.length co22) y119 t113 [.bool t113] (fun _ => True) (fun _ => False) rfl rfl ?aP (fun _ hk => hk.elim) ?aF ?aO ?aB ?aS ?aL ?_; (case aP => exact rfl); (case aB => exact (by repeat (first | (with_reducible first | exact HB.out | apply bal | apply pbN | apply bd1 | refine bst ?_ GE110.out) | exact HB.out))); (case aF => exact (fun _ _ => trivial)); (case aO => exact (by (with_reducible repeat (first | apply Kd.R_alloc | apply Kd.R_drewN | apply Kd.R_drew)); exact HO121.out)); (case aS => exact (bsz (by repeat (first | (with_reducible first | exact HB.out | apply bal | apply pbN | apply bd1 | refine bst ?_ GE110.out) | exact HB.out)))); (case aL => have := LMc21.out; omega); intro v123 w25 ho hb hg hat; rw [← Ny122.out] at ho; have n0_ := Aside0.mk (blk_grown (g := gb110) (o := .cells #[.int .i64 ((rd_T39 l0 x12_1).f0), .int .i64 ((rd_T39 l0 x12_1).f1)] 39 (0, 0)) (by (with_reducible repeat (first | refine bkn ?_ _ | refine bkd ?_ | refine bka ?_ _)); exact BK110.out) hg (Kd.R_ne HO121.out BK110.out (by decide))); have n1_ := Aside0.mk (hb); have n2_ := Aside0.mk (ho); clear BK110; clear HB; clear HO121; have BK110 := n0_; have HB := n1_; have HO124 := n2_; clear n0_ n1_ n2_; clear ho hb hg hat))
             go_roundg kj5
             case measure => have := HK1.out; have := HJ5.out; omega
             case rel => exact ⟨(y122), (wrap64 (x12_1 + 1)), (by first | rfl | (simp; done) | (simp [*]; done)), H', ⟨by have := HK1.out; have := HJ5.out; omega⟩, ⟨by (with_reducible repeat (first | apply Kd.R_alloc | apply Kd.R_drewN | apply Kd.R_drew)); exact HO124.out⟩, ⟨by repeat (first | (with_reducible first | exact HB.out | apply bal | apply pbN | apply bd1 | refine bst ?_ GE110.out) | exact HB.out)⟩⟩
            ·rw [if_neg c21] at H
             exact absurd H (by simp)
          ·rw [if_neg c15] at H
           exact absurd H (by simp)
         ·rw [if_neg c14] at H
          exact absurd H (by simp)
     ·rw [if_neg c4] at H
      exact absurd H (by simp)
    ·rw [if_neg c3] at H
     exact absurd H (by simp)
   ·rw [if_neg c2] at H
    have c2b0 : decide (x12_1 < (l0.length : Int)) = false := decide_eq_false c2
    clear c2
    by_cases c26 : (x3_1.length : Int) = 1
    ·rw [if_pos c26] at H
     have c26b0 : ((x3_1.length : Int) == 1) = true := beq_iff_eq.mpr c26
     have c26b1 : ((x3_1.length : Int) != 1) = false := bne_eq_false_iff_eq.mpr c26
     clear c26
     by_cases c27 : 0 < (x3_1.length : Int)
     ·rw [if_pos c27] at H
      have c27b0 : decide (0 < (x3_1.length : Int)) = true := decide_eq_true c27
      have c27b1 : decide (0 < x3_1.length) = true := decide_eq_true (by omega)
      clear c27
      obtain rfl := Option.some.inj H
      obtain ⟨Ao28, co28, eo28⟩ := Kd.R_slice HO_3.out
      subst eo28
      have p108 : 0 ≤ (0 : Int) := (by omega)
      have q108 : 0 < (x3_1.length : Int) := of_decide_eq_true (by first | (with_reducible assumption) | assumption)
      obtain ⟨ad108, e108, hx108_0⟩ := Kd.at_bool (Kd.R_reads' HO_3.out).2.2 0 p108 q108
      cases e108
      have qi108 : (0 < x3_1.length) = True := eq_true (by omega)
      (try rw [show ((0 : Int)).toNat = 0 from rfl] at hx108_0)
      (try rw [Addr.add_zero'] at hx108_0)
      replace p108 := eq_true p108
      replace q108 := eq_true q108
      go_wp2
      go_ret
      exact ⟨by first | rfl | (simp [errW_none, errW_some] <;> rfl) | (simp [*, errW_none, errW_some] <;> rfl), by repeat (first | (with_reducible first | exact HB.out | apply bal | apply pbN | apply bd1) | exact HB.out)⟩
     ·rw [if_neg c27] at H
      exact absurd H (by simp)
    ·rw [if_neg c26] at H
     have c26b0 : ((x3_1.length : Int) == 1) = false := beq_eq_false_iff_ne.mpr c26
     have c26b1 : ((x3_1.length : Int) != 1) = true := bne_iff_ne.mpr c26
     obtain rfl := Option.some.inj H
     obtain ⟨Ao29, co29, eo29⟩ := Kd.R_slice HO_3.out
     subst eo29
     go_wp2
     go_ret
     exact ⟨by first | rfl | (simp [errW_none, errW_some] <;> rfl) | (simp [*, errW_none, errW_some] <;> rfl), by repeat (first | (with_reducible first | exact HB.out | apply bal | apply pbN | apply bd1) | exact HB.out)⟩

end Go.Proofs.YtikbgoppmailjaaGreatDoor.H
-- Written by hp.py (a program of this session, over the kit's print.py), with hand-made contracts beside it.
namespace Go.Proofs.YtikbgoppmailjaaGreatDoor.H
open Go.RowKit Go.Proofs.YtikbgoppmailjaaGreatDoorW.PrintWords Go.Proofs.YtikbgoppmailjaaGreatDoorW.PrintLast Go.Proofs.YtikbgoppmailjaaGreatDoorW.PrintMore
attribute [local go_sem] max2_int min2_int max_two min_two max_three min_three max_four min_four   -- for this text's walks alone
set_option linter.unusedVariables false
set_option linter.unusedSimpArgs false

theorem eqA39 (d : Nat) (w : World) (x0 y0 : Int) (x1 y1 : Int) :
    (Op.equalIn (d + 2) 39 (.agg #[.int .i64 x0, .int .i64 x1]) (.agg #[.int .i64 y0, .int .i64 y1])).run Tryz.prog w = .ok (x0 == y0 && (x1 == y1)) w := by
  refine eqA_of Tryz.underlying39 (by kernel_rfl) ?_
  refine eqf_cons (by rfl) (by go_simp; rfl) (by go_simp; rfl) (by go_simp) ?_
  exact eqf_last (by rfl) (by go_simp; rfl) (by go_simp; rfl) (by go_simp)
end Go.Proofs.YtikbgoppmailjaaGreatDoor.H
/- guard's reader, as plain functions on lists of signs: what is left, what lies behind; none: too few rounds; some none: it gives up. -/
namespace Go.Proofs.YtikbgoppmailjaaGreatDoor.H
set_option linter.unusedVariables false
/-- The signs that are left, and those that lie behind. -/
abbrev ST := List S39 × List S39
abbrev Rz := Option (Option ST)
def seesF (kind : Int) (st : ST) : Bool := match st.1 with | [] => false | a :: _ => a.f0 == kind
def takeF (kind : Int) (st : ST) : Rz := if seesF kind st = true then some (some (st.1.tail, st.2)) else some none
def putF (kind : Int) (st : ST) : Rz := some (some (st.1, st.2 ++ [(⟨kind, 0⟩ : S39)]))
def bnd (x : Rz) (f : ST → Rz) : Rz := match x with | none => none | some none => some none | some (some s) => f s
def rowL (th : ST → Rz) (ks : List Int) : Nat → ST → Rz
  | 0, _ => none
  | k + 1, st => match st.1 with
    | [] => some (some st)
    | a :: r => if ks.contains a.f0 = true then bnd (th (r, st.2)) fun s => bnd (putF a.f0 s) (rowL th ks k) else some (some st)
def rowF (th : ST → Rz) (ks : List Int) (k : Nat) (st : ST) : Rz := bnd (th st) (rowL th ks k)
def stepF (R : Nat → ST → Rz) (k : Nat) (lev : Nat) (st : ST) : Rz :=
  if lev = 0 then rowF (R 1) [13] k st
  else if lev = 1 then rowF (R 2) [12] k st
  else if lev = 2 then
    if seesF 14 st = true then bnd (R 2 (st.1.tail, st.2)) (putF 14)
    else if seesF 15 st = true then bnd (R 0 (st.1.tail, st.2)) (takeF 16)
    else bnd (R 3 st) fun s => match s.1 with
      | [] => some none
      | a :: r => if decide (6 ≤ a.f0 ∧ a.f0 ≤ 11) = true then bnd (R 3 (r, s.2)) (putF a.f0) else some none
  else if lev = 3 then rowF (R 4) [3, 4] k st
  else if lev = 4 then rowF (R 5) [5] k st
  else match st.1 with
    | [] => some none
    | a :: r =>
      if a.f0 = 1 ∨ a.f0 = 2 then some (some (r, st.2 ++ [a]))
      else if a.f0 = 4 then bnd (R 5 (r, st.2)) (putF 19)
      else if a.f0 = 17 then bnd (R 3 (r, st.2)) (takeF 18)
      else some none
def PF : Nat → Nat → ST → Rz
  | 0 => fun _ _ => none
  | k + 1 => stepF (PF k) k
end Go.Proofs.YtikbgoppmailjaaGreatDoor.H
/- Plain laws of guard's reader. -/
namespace Go.Proofs.YtikbgoppmailjaaGreatDoor.Pure
open Go.Proofs.YtikbgoppmailjaaGreatDoor.H
set_option linter.unusedVariables false
set_option linter.unusedSimpArgs false
theorem bnd_some {x : Rz} {f : ST → Rz} {r : Option ST} (h : bnd x f = some r) : (x = some none ∧ r = none) ∨ ∃ s, x = some (some s) ∧ f s = some r := by
  unfold bnd at h
  match x, h with
  | some none, h => exact .inl ⟨rfl, (Option.some.inj h).symm⟩
  | some (some s), h => exact .inr ⟨s, rfl, h⟩
theorem bnd_mk_none {x : Rz} {f : ST → Rz} (h : x = some none) : bnd x f = some none := by rw [h]; rfl
theorem bnd_mk {x : Rz} {f : ST → Rz} {s : ST} (h : x = some (some s)) : bnd x f = f s := by rw [h]; rfl
theorem bnd_mono {x x' : Rz} {f f' : ST → Rz} {r : Option ST} (hx : ∀ r, x = some r → x' = some r) (hf : ∀ s r, f s = some r → f' s = some r) (h : bnd x f = some r) : bnd x' f' = some r := by
  rcases bnd_some h with ⟨h1, rfl⟩ | ⟨s, h1, h2⟩
  · exact bnd_mk_none (hx _ h1)
  · rw [bnd_mk (hx _ h1)]; exact hf s r h2
theorem rowL_mono (th th' : ST → Rz) (ks : List Int) (h : ∀ st r, th st = some r → th' st = some r) : ∀ (k k' : Nat) (st : ST) (r : Option ST), k ≤ k' → rowL th ks k st = some r → rowL th' ks k' st = some r
  | 0, _, _, _, _, h1 => by cases h1
  | k + 1, k', st, r, hk, h1 => by
    obtain ⟨k', rfl⟩ : ∃ m, k' = m + 1 := ⟨k' - 1, by omega⟩
    obtain ⟨l, o⟩ := st
    cases l with
    | nil => exact h1
    | cons a l =>
      simp only [rowL] at h1 ⊢
      split at h1
      · rename_i hc
        rw [if_pos hc]
        exact bnd_mono (h _) (fun s r h2 => bnd_mono (fun _ h3 => h3) (fun s r h3 => rowL_mono th th' ks h k k' s r (by omega) h3) h2) h1
      · rename_i hc
        rw [if_neg hc]; exact h1
theorem rowF_mono (th th' : ST → Rz) (ks : List Int) (h : ∀ st r, th st = some r → th' st = some r) (k k' : Nat) (hk : k ≤ k') (st : ST) (r : Option ST) (h1 : rowF th ks k st = some r) : rowF th' ks k' st = some r :=
  bnd_mono (h st) (fun s r h2 => rowL_mono th th' ks h k k' s r hk h2) h1
theorem stepF_mono (R R' : Nat → ST → Rz) (h : ∀ lev st r, R lev st = some r → R' lev st = some r) (k k' : Nat) (hk : k ≤ k') (lev : Nat) (st : ST) (r : Option ST) (h1 : stepF R k lev st = some r) : stepF R' k' lev st = some r := by
  unfold stepF at h1 ⊢
  split at h1
  · rename_i c; rw [if_pos c]; exact rowF_mono _ _ _ (h 1) k k' hk st r h1
  · rename_i c; rw [if_neg c]
    split at h1
    · rename_i c; rw [if_pos c]; exact rowF_mono _ _ _ (h 2) k k' hk st r h1
    · rename_i c; rw [if_neg c]
      split at h1
      · rename_i c; rw [if_pos c]
        split at h1
        · rename_i c; rw [if_pos c]; exact bnd_mono (h _ _) (fun _ _ h2 => h2) h1
        · rename_i c; rw [if_neg c]
          split at h1
          · rename_i c; rw [if_pos c]; exact bnd_mono (h _ _) (fun _ _ h2 => h2) h1
          · rename_i c; rw [if_neg c]
            refine bnd_mono (h _ _) (fun s r h2 => ?_) h1
            obtain ⟨l, o⟩ := s
            cases l with
            | nil => exact h2
            | cons a l =>
              dsimp only at h2 ⊢
              split at h2
              · rename_i c; rw [if_pos c]; exact bnd_mono (h _ _) (fun _ _ h3 => h3) h2
              · rename_i c; rw [if_neg c]; exact h2
      · rename_i c; rw [if_neg c]
        split at h1
        · rename_i c; rw [if_pos c]; exact rowF_mono _ _ _ (h 4) k k' hk st r h1
        · rename_i c; rw [if_neg c]
          split at h1
          · rename_i c; rw [if_pos c]; exact rowF_mono _ _ _ (h 5) k k' hk st r h1
          · rename_i c; rw [if_neg c]
            obtain ⟨l, o⟩ := st
            cases l with
            | nil => exact h1
            | cons a l =>
              dsimp only at h1 ⊢
              split at h1
              · rename_i c; rw [if_pos c]; exact h1
              · rename_i c; rw [if_neg c]
                split at h1
                · rename_i c; rw [if_pos c]; exact bnd_mono (h _ _) (fun _ _ h3 => h3) h1
                · rename_i c; rw [if_neg c]
                  split at h1
                  · rename_i c; rw [if_pos c]; exact bnd_mono (h _ _) (fun _ _ h3 => h3) h1
                  · rename_i c; rw [if_neg c]; exact h1
theorem PF_mono1 : ∀ (k lev : Nat) (st : ST) (r : Option ST), PF k lev st = some r → PF (k + 1) lev st = some r
  | 0, _, _, _, h => by cases h
  | k + 1, lev, st, r, h => stepF_mono (PF k) (PF (k + 1)) (fun lev st r h => PF_mono1 k lev st r h) k (k + 1) (by omega) lev st r h
theorem PF_mono {k k' lev : Nat} {st : ST} {r : Option ST} (hk : k ≤ k') (h : PF k lev st = some r) : PF k' lev st = some r := by
  obtain ⟨d, rfl⟩ : ∃ d, k' = k + d := ⟨k' - k, by omega⟩
  clear hk
  induction d with
  | zero => exact h
  | succ d ih => exact PF_mono1 _ _ _ _ ih
end Go.Proofs.YtikbgoppmailjaaGreatDoor.Pure
/- guard's reader comes to an end; what stands behind a guard does not touch it. -/
namespace Go.Proofs.YtikbgoppmailjaaGreatDoor.Pure
open Go.Proofs.YtikbgoppmailjaaGreatDoor.H
set_option linter.unusedVariables false
set_option linter.unusedSimpArgs false
theorem PF_succ (k lev : Nat) (st : ST) : PF (k + 1) lev st = stepF (PF k) k lev st := rfl
theorem step2 (R : Nat → ST → Rz) (k : Nat) (st : ST) : stepF R k 2 st =
    if seesF 14 st = true then bnd (R 2 (st.1.tail, st.2)) (putF 14)
    else if seesF 15 st = true then bnd (R 0 (st.1.tail, st.2)) (takeF 16)
    else bnd (R 3 st) fun s => match s.1 with
      | [] => some none
      | a :: r => if decide (6 ≤ a.f0 ∧ a.f0 ≤ 11) = true then bnd (R 3 (r, s.2)) (putF a.f0) else some none := rfl
theorem step5 (R : Nat → ST → Rz) (k : Nat) (st : ST) : stepF R k 5 st =
    match st.1 with
    | [] => some none
    | a :: r =>
      if a.f0 = 1 ∨ a.f0 = 2 then some (some (r, st.2 ++ [a]))
      else if a.f0 = 4 then bnd (R 5 (r, st.2)) (putF 19)
      else if a.f0 = 17 then bnd (R 3 (r, st.2)) (takeF 18)
      else some none := rfl
/-- A reading that came well out of st: one sign at least was read; no more signs lie there than before. -/
def Well (st : ST) (r : Option ST) : Prop := ∀ s, r = some s → s.1.length < st.1.length ∧ s.2.length + s.1.length ≤ st.2.length + st.1.length
theorem putF_ok (kind : Int) (st : ST) : putF kind st = some (some (st.1, st.2 ++ [(⟨kind, 0⟩ : S39)])) := rfl
theorem row_total (th : Nat → ST → Rz) (hm : ∀ k k' st r, k ≤ k' → th k st = some r → th k' st = some r) (ks : List Int) : ∀ (n : Nat) (st : ST), st.1.length ≤ n → True →
    (∀ s : ST, s.1.length < st.1.length → True → ∃ k r, th k s = some r ∧ Well s r) →
    ∃ k r, (∀ k', k ≤ k' → rowL (th k') ks k' st = some r) ∧ (∀ s, r = some s → s.1.length ≤ st.1.length ∧ s.2.length + s.1.length ≤ st.2.length + st.1.length) := by
  intro n
  induction n with
  | zero =>
    intro st h hs _
    obtain ⟨l, o⟩ := st
    obtain rfl : l = [] := List.eq_nil_of_length_eq_zero (by simpa using h)
    refine ⟨1, some ([], o), fun k' hk => ?_, fun s hs => ?_⟩
    · obtain ⟨k', rfl⟩ : ∃ m, k' = m + 1 := ⟨k' - 1, by omega⟩
      rfl
    · obtain rfl := Option.some.inj hs
      exact ⟨Nat.le_refl _, Nat.le_refl _⟩
  | succ n ih =>
    intro st h hs hth
    obtain ⟨l, o⟩ := st
    cases l with
    | nil =>
      refine ⟨1, some ([], o), fun k' hk => ?_, fun s hs => ?_⟩
      · obtain ⟨k', rfl⟩ : ∃ m, k' = m + 1 := ⟨k' - 1, by omega⟩
        rfl
      · obtain rfl := Option.some.inj hs
        exact ⟨Nat.le_refl _, Nat.le_refl _⟩
    | cons a l =>
      simp only [List.length_cons] at h
      by_cases hc : ks.contains a.f0 = true
      · obtain ⟨k1, r1, h1, w1⟩ := hth (l, o) (by simp) trivial
        cases r1 with
        | none =>
          refine ⟨k1 + 1, none, fun k' hk => ?_, fun s hs => by cases hs⟩
          obtain ⟨k', rfl⟩ : ∃ m, k' = m + 1 := ⟨k' - 1, by omega⟩
          simp only [rowL]
          rw [if_pos hc, bnd_mk_none (hm k1 _ _ _ (by omega) h1)]
        | some s1 =>
          obtain ⟨w1a, w1b⟩ := w1 s1 rfl
          dsimp only at w1a w1b
          obtain ⟨k2, r2, h2, w2⟩ := ih (s1.1, s1.2 ++ [(⟨a.f0, 0⟩ : S39)]) (by dsimp only; omega) trivial
            (fun s hs1 hs2 => hth s (by dsimp only at hs1 ⊢; rw [List.length_cons]; omega) hs2)
          refine ⟨k1 + k2 + 1, r2, fun k' hk => ?_, fun s hs => ?_⟩
          · obtain ⟨k', rfl⟩ : ∃ m, k' = m + 1 := ⟨k' - 1, by omega⟩
            simp only [rowL]
            rw [if_pos hc, bnd_mk (hm k1 _ _ _ (by omega) h1), putF_ok]
            show rowL (th (k' + 1)) ks k' _ = some r2
            exact rowL_mono (th k') (th (k' + 1)) ks (fun st r => hm k' (k' + 1) st r (by omega)) k' k' _ _ (Nat.le_refl _) (h2 k' (by omega))
          · obtain ⟨q1, q2⟩ := w2 s hs
            dsimp only at q1 q2
            rw [List.length_append] at q2
            simp only [List.length_cons, List.length_nil] at q2 ⊢
            omega
      · refine ⟨1, some (a :: l, o), fun k' hk => ?_, fun s hs => ?_⟩
        · obtain ⟨k', rfl⟩ : ∃ m, k' = m + 1 := ⟨k' - 1, by omega⟩
          simp only [rowL]
          rw [if_neg hc]
        · obtain rfl := Option.some.inj hs
          exact ⟨Nat.le_refl _, Nat.le_refl _⟩
theorem rowF_total (lev lev2 : Nat) (ks : List Int) (hstep : ∀ k st, PF (k + 1) lev st = rowF (PF k lev2) ks k st) (st : ST) (hs : True)
    (h0 : ∃ k r, PF k lev2 st = some r ∧ Well st r) (h1 : ∀ s : ST, s.1.length < st.1.length → True → ∃ k r, PF k lev2 s = some r ∧ Well s r) : ∃ k r, PF k lev st = some r ∧ Well st r := by
  obtain ⟨k1, r1, e1, w1⟩ := h0
  cases r1 with
  | none => exact ⟨k1 + 1, none, by rw [hstep]; exact bnd_mk_none e1, fun s hs => by cases hs⟩
  | some s1 =>
    obtain ⟨w1a, w1b⟩ := w1 s1 rfl
    obtain ⟨k2, r2, e2, w2⟩ := row_total (fun k => PF k lev2) (fun k k' st r hk h => PF_mono hk h) ks s1.1.length s1 (Nat.le_refl _) trivial (fun s hs1 hs2 => h1 s (by omega) hs2)
    refine ⟨k1 + k2 + 1, r2, ?_, fun s hs => ?_⟩
    · rw [hstep]
      unfold rowF
      rw [bnd_mk (PF_mono (by omega) e1)]
      exact e2 (k1 + k2) (by omega)
    · obtain ⟨q1, q2⟩ := w2 s hs
      exact ⟨by omega, by omega⟩
theorem PF_total : ∀ (m n lev : Nat) (st : ST), m = 6 * n + (5 - lev) → lev ≤ 5 → st.1.length = n → True → ∃ k r, PF k lev st = some r ∧ Well st r := by
 intro m
 induction m using Nat.strongRecOn with
 | _ m ih =>
  intro n lev st hm hl hn hs
  have up : ∀ lev2, lev < lev2 → lev2 ≤ 5 → ∃ k r, PF k lev2 st = some r ∧ Well st r := fun lev2 h1 h2 => ih (6 * n + (5 - lev2)) (by omega) n lev2 st rfl h2 hn hs
  have down : ∀ lev2, lev2 ≤ 5 → ∀ s : ST, s.1.length < st.1.length → True → ∃ k r, PF k lev2 s = some r ∧ Well s r :=
   fun lev2 h2 s h3 h4 => ih (6 * s.1.length + (5 - lev2)) (by omega) s.1.length lev2 s rfl h2 rfl h4
  rcases (by omega : lev = 0 ∨ lev = 1 ∨ lev = 2 ∨ lev = 3 ∨ lev = 4 ∨ lev = 5) with rfl | rfl | rfl | rfl | rfl | rfl
  ·exact rowF_total 0 1 [13] (fun _ _ => rfl) st hs (up 1 (by omega) (by omega)) (down 1 (by omega))
  ·exact rowF_total 1 2 [12] (fun _ _ => rfl) st hs (up 2 (by omega) (by omega)) (down 2 (by omega))
  ·-- one
   obtain ⟨l, o⟩ := st
   have tail : ∀ (lev2 : Nat) (f : ST → Rz), lev2 ≤ 5 → l ≠ [] → (∀ s : ST, s.1.length < l.tail.length → s.2.length + s.1.length ≤ o.length + l.tail.length → ∃ r, f s = some r ∧ ∀ q, r = some q → q.1.length ≤ s.1.length ∧ q.2.length + q.1.length ≤ s.2.length + s.1.length + 1) →
     ∃ k r, bnd (PF k lev2 (l.tail, o)) f = some r ∧ Well (l, o) r := by
    intro lev2 f h2 hne hf
    cases l with
    | nil => exact absurd rfl hne
    | cons a l =>
     dsimp only [List.tail_cons] at hf ⊢
     obtain ⟨k1, r1, e1, w1⟩ := down lev2 h2 (l, o) (by simp) trivial
     cases r1 with
     | none => exact ⟨k1, none, bnd_mk_none e1, fun s hs => by cases hs⟩
     | some s1 =>
      obtain ⟨w1a, w1b⟩ := w1 s1 rfl
      dsimp only at w1a w1b
      obtain ⟨r, e2, w2⟩ := hf s1 w1a w1b
      refine ⟨k1, r, by rw [bnd_mk e1]; exact e2, fun s hs => ?_⟩
      obtain ⟨q1, q2⟩ := w2 s hs
      simp only [List.length_cons]
      exact ⟨by omega, by omega⟩
   have hput : ∀ kind (s : ST), ∃ r, putF kind s = some r ∧ ∀ q, r = some q → q.1.length ≤ s.1.length ∧ q.2.length + q.1.length ≤ s.2.length + s.1.length + 1 := by
    intro kind s
    refine ⟨some (s.1, s.2 ++ [(⟨kind, 0⟩ : S39)]), putF_ok kind s, fun q hq => ?_⟩
    obtain rfl := Option.some.inj hq
    dsimp only
    rw [List.length_append]
    simp only [List.length_cons, List.length_nil]
    omega
   have htake : ∀ kind (s : ST), ∃ r, takeF kind s = some r ∧ ∀ q, r = some q → q.1.length ≤ s.1.length ∧ q.2.length + q.1.length ≤ s.2.length + s.1.length + 1 := by
    intro kind s
    unfold takeF
    split
    ·refine ⟨_, rfl, fun q hq => ?_⟩
     obtain rfl := Option.some.inj hq
     dsimp only
     rw [List.length_tail]
     omega
    ·exact ⟨none, rfl, fun q hq => by cases hq⟩
   have hlt : l.tail.length ≤ l.length := by rw [List.length_tail]; omega
   by_cases c1 : seesF 14 (l, o) = true
   ·obtain ⟨k, r, e, w⟩ := tail 2 (putF 14) (by omega) (by rintro rfl; cases c1) (fun s h1 h2 => hput 14 s)
    exact ⟨k + 1, r, by rw [PF_succ, step2, if_pos c1]; exact e, w⟩
   ·by_cases c2 : seesF 15 (l, o) = true
    ·obtain ⟨k, r, e, w⟩ := tail 0 (takeF 16) (by omega) (by rintro rfl; cases c2) (fun s h1 h2 => htake 16 s)
     exact ⟨k + 1, r, by rw [PF_succ, step2, if_neg c1, if_pos c2]; exact e, w⟩
    ·obtain ⟨k1, r1, e1, w1⟩ := up 3 (by omega) (by omega)
     cases r1 with
     | none => exact ⟨k1 + 1, none, by rw [PF_succ, step2, if_neg c1, if_neg c2]; exact bnd_mk_none e1, fun s hs => by cases hs⟩
     | some s1 =>
      obtain ⟨w1a, w1b⟩ := w1 s1 rfl
      obtain ⟨l1, o1⟩ := s1
      dsimp only at w1a w1b
      cases l1 with
      | nil => exact ⟨k1 + 1, none, by rw [PF_succ, step2, if_neg c1, if_neg c2, bnd_mk e1], fun s hs => by cases hs⟩
      | cons a l1 =>
       simp only [List.length_cons] at w1a w1b
       by_cases c3 : decide (6 ≤ a.f0 ∧ a.f0 ≤ 11) = true
       ·obtain ⟨k2, r2, e2, w2⟩ := down 3 (by omega) (l1, o1) (by dsimp only; omega) trivial
        cases r2 with
        | none =>
         refine ⟨k1 + k2 + 1, none, ?_, fun s hs => by cases hs⟩
         rw [PF_succ, step2, if_neg c1, if_neg c2, bnd_mk (PF_mono (by omega) e1)]
         dsimp only
         rw [if_pos c3, bnd_mk_none (PF_mono (by omega) e2)]
        | some s2 =>
         obtain ⟨w2a, w2b⟩ := w2 s2 rfl
         dsimp only at w2a w2b
         refine ⟨k1 + k2 + 1, some (s2.1, s2.2 ++ [(⟨a.f0, 0⟩ : S39)]), ?_, fun s hs1 => ?_⟩
         ·rw [PF_succ, step2, if_neg c1, if_neg c2, bnd_mk (PF_mono (by omega) e1)]
          dsimp only
          rw [if_pos c3, bnd_mk (PF_mono (by omega) e2), putF_ok]
         ·obtain rfl := Option.some.inj hs1
          dsimp only
          rw [List.length_append]
          simp only [List.length_cons, List.length_nil]
          omega
       ·exact ⟨k1 + 1, none, by rw [PF_succ, step2, if_neg c1, if_neg c2, bnd_mk e1]; dsimp only; rw [if_neg c3], fun s hs => by cases hs⟩
  ·exact rowF_total 3 4 [3, 4] (fun _ _ => rfl) st hs (up 4 (by omega) (by omega)) (down 4 (by omega))
  ·exact rowF_total 4 5 [5] (fun _ _ => rfl) st hs (up 5 (by omega) (by omega)) (down 5 (by omega))
  ·-- factor
   obtain ⟨l, o⟩ := st
   cases l with
   | nil => exact ⟨1, none, rfl, fun s hs => by cases hs⟩
   | cons a l =>
    by_cases c1 : a.f0 = 1 ∨ a.f0 = 2
    ·refine ⟨1, some (l, o ++ [a]), ?_, fun s hs1 => ?_⟩
     ·rw [PF_succ, step5]
      dsimp only
      rw [if_pos c1]
     ·obtain rfl := Option.some.inj hs1
      dsimp only
      rw [List.length_append]
      simp only [List.length_cons, List.length_nil]
      omega
    ·by_cases c2 : a.f0 = 4
     ·obtain ⟨k1, r1, e1, w1⟩ := down 5 (by omega) (l, o) (by simp) trivial
      cases r1 with
      | none => exact ⟨k1 + 1, none, by rw [PF_succ, step5]; dsimp only; rw [if_neg c1, if_pos c2, bnd_mk_none e1], fun s hs => by cases hs⟩
      | some s1 =>
       obtain ⟨w1a, w1b⟩ := w1 s1 rfl
       dsimp only at w1a w1b
       refine ⟨k1 + 1, some (s1.1, s1.2 ++ [(⟨19, 0⟩ : S39)]), ?_, fun s hs1 => ?_⟩
       ·rw [PF_succ, step5]; dsimp only; rw [if_neg c1, if_pos c2, bnd_mk e1, putF_ok]
       ·obtain rfl := Option.some.inj hs1
        dsimp only
        rw [List.length_append]
        simp only [List.length_cons, List.length_nil]
        omega
     ·by_cases c3 : a.f0 = 17
      ·obtain ⟨k1, r1, e1, w1⟩ := down 3 (by omega) (l, o) (by simp) trivial
       cases r1 with
       | none => exact ⟨k1 + 1, none, by rw [PF_succ, step5]; dsimp only; rw [if_neg c1, if_neg c2, if_pos c3, bnd_mk_none e1], fun s hs => by cases hs⟩
       | some s1 =>
        obtain ⟨w1a, w1b⟩ := w1 s1 rfl
        dsimp only at w1a w1b
        refine ⟨k1 + 1, if seesF 18 s1 = true then some (s1.1.tail, s1.2) else none, ?_, fun s hs1 => ?_⟩
        ·rw [PF_succ, step5]; dsimp only; rw [if_neg c1, if_neg c2, if_pos c3, bnd_mk e1]
         unfold takeF
         split <;> rfl
        ·split at hs1
         ·obtain rfl := Option.some.inj hs1
          dsimp only
          rw [List.length_tail]
          simp only [List.length_cons]
          omega
         ·cases hs1
      ·exact ⟨1, none, by rw [PF_succ, step5]; dsimp only; rw [if_neg c1, if_neg c2, if_neg c3], fun s hs => by cases hs⟩
end Go.Proofs.YtikbgoppmailjaaGreatDoor.Pure
/- What stands behind a guard does not touch it; what lies there before, neither. -/
namespace Go.Proofs.YtikbgoppmailjaaGreatDoor.Pure
open Go.Proofs.YtikbgoppmailjaaGreatDoor.H
set_option linter.unusedVariables false
set_option linter.unusedSimpArgs false
theorem rowL_nil (th : ST → Rz) (ks : List Int) (k : Nat) (o : List S39) (r : Option ST) (h : rowL th ks k ([], o) = some r) : r = some ([], o) := by
  cases k with
  | zero => cases h
  | succ k => exact (Option.some.inj h).symm
theorem rowL_cons {th : ST → Rz} {ks : List Int} {k : Nat} {a : S39} {l o : List S39} {r : Option ST} (h : rowL th ks (k + 1) (a :: l, o) = some r) :
    (ks.contains a.f0 = false ∧ r = some (a :: l, o)) ∨ (ks.contains a.f0 = true ∧ ((th (l, o) = some none ∧ r = none) ∨ ∃ l1 o1, th (l, o) = some (some (l1, o1)) ∧ rowL th ks k (l1, o1 ++ [(⟨a.f0, 0⟩ : S39)]) = some r)) := by
  simp only [rowL] at h
  split at h
  · rename_i hc
    refine .inr ⟨hc, ?_⟩
    rcases bnd_some h with ⟨h1, rfl⟩ | ⟨s, h1, h2⟩
    · exact .inl ⟨h1, rfl⟩
    · obtain ⟨l1, o1⟩ := s
      exact .inr ⟨l1, o1, h1, h2⟩
  · rename_i hc
    exact .inl ⟨by simpa using hc, (Option.some.inj h).symm⟩
theorem rowL_go {th : ST → Rz} {ks : List Int} {k : Nat} {a : S39} {l o : List S39} (hc : ks.contains a.f0 = true) {l1 o1 : List S39} (h : th (l, o) = some (some (l1, o1))) : rowL th ks (k + 1) (a :: l, o) = rowL th ks k (l1, o1 ++ [(⟨a.f0, 0⟩ : S39)]) := by
  simp only [rowL]
  rw [if_pos hc, bnd_mk h]
  rfl
theorem rowL_stop {th : ST → Rz} {ks : List Int} {k : Nat} {a : S39} {l o : List S39} (hc : ks.contains a.f0 = false) : rowL th ks (k + 1) (a :: l, o) = some (some (a :: l, o)) := by
  simp only [rowL]
  rw [if_neg (by rw [hc]; decide)]
theorem rowF_some {th : ST → Rz} {ks : List Int} {k : Nat} {st : ST} {r : Option ST} (h : rowF th ks k st = some r) : (th st = some none ∧ r = none) ∨ ∃ l1 o1, th st = some (some (l1, o1)) ∧ rowL th ks k (l1, o1) = some r := by
  rcases bnd_some h with ⟨h1, rfl⟩ | ⟨s, h1, h2⟩
  · exact .inl ⟨h1, rfl⟩
  · obtain ⟨l1, o1⟩ := s
    exact .inr ⟨l1, o1, h1, h2⟩
theorem rowF_mk {th : ST → Rz} {ks : List Int} {k : Nat} {st : ST} {l1 o1 : List S39} (h : th st = some (some (l1, o1))) : rowF th ks k st = rowL th ks k (l1, o1) := bnd_mk h
theorem nosucc : ∀ (k lev : Nat) (o : List S39) (s : ST), PF k lev ([], o) ≠ some (some s)
  | 0, _, _, _, h => by cases h
  | k + 1, lev, o, s, h => by
    rw [PF_succ] at h
    have row : ∀ lev2 ks, rowF (PF k lev2) ks k ([], o) = some (some s) → False := fun lev2 ks h => by
      rcases rowF_some h with ⟨_, h2⟩ | ⟨l1, o1, h1, _⟩
      · cases h2
      · exact nosucc k lev2 o _ h1
    unfold stepF at h
    split at h
    · exact row _ _ h
    · split at h
      · exact row _ _ h
      · split at h
        · rw [if_neg (show ¬ (seesF 14 ([], o) = true) from Bool.false_ne_true), if_neg (show ¬ (seesF 15 ([], o) = true) from Bool.false_ne_true)] at h
          rcases bnd_some h with ⟨_, h2⟩ | ⟨s1, h1, _⟩
          · cases h2
          · exact nosucc k 3 o _ h1
        · split at h
          · exact row _ _ h
          · split at h
            · exact row _ _ h
            · cases h
theorem ext_row {th : ST → Rz} {ks : List Int} {c : S39} {r : List S39} (P : Prop) (hP : P → ks.contains c.f0 = false)
    (hth : ∀ l o l' o', th (l, o) = some (some (l', o')) → (l' = [] → P) → th (l ++ c :: r, o) = some (some (l' ++ c :: r, o'))) :
    ∀ (k : Nat) (l o l' o' : List S39), rowL th ks k (l, o) = some (some (l', o')) → (l' = [] → P) → rowL th ks k (l ++ c :: r, o) = some (some (l' ++ c :: r, o'))
  | 0, _, _, _, _, h, _ => by cases h
  | k + 1, [], o, l', o', h, hp => by
    have := rowL_nil _ _ _ _ _ h
    obtain ⟨rfl, rfl⟩ := Prod.mk.inj (Option.some.inj this)
    exact rowL_stop (hP (hp rfl))
  | k + 1, a :: l, o, l', o', h, hp => by
    rcases rowL_cons h with ⟨hc, h1⟩ | ⟨hc, ⟨_, h1⟩ | ⟨l1, o1, h1, h2⟩⟩
    · obtain ⟨rfl, rfl⟩ := Prod.mk.inj (Option.some.inj h1)
      exact rowL_stop hc
    · cases h1
    · have hp1 : l1 = [] → P := by
        rintro rfl
        have := rowL_nil _ _ _ _ _ h2
        exact hp (Prod.mk.inj (Option.some.inj this)).1
      have h3 := hth _ _ _ _ h1 hp1
      show rowL th ks (k + 1) (a :: (l ++ c :: r), o) = _
      rw [rowL_go hc h3]
      exact ext_row P hP hth k l1 _ l' o' h2 hp
def OKc (lev : Nat) (x : Int) : Prop := (lev ≤ 0 → x ≠ 13) ∧ (lev ≤ 1 → x ≠ 12) ∧ (lev ≤ 3 → x ≠ 3 ∧ x ≠ 4) ∧ (lev ≤ 4 → x ≠ 5)
theorem OKc.up {lev lev2 : Nat} {x : Int} (h : OKc lev x) (hl : lev ≤ lev2) : OKc lev2 x := ⟨fun q => h.1 (by omega), fun q => h.2.1 (by omega), fun q => h.2.2.1 (by omega), fun q => h.2.2.2 (by omega)⟩
theorem seesF_app (kind : Int) (l t o : List S39) (h : l ≠ []) : seesF kind (l ++ t, o) = seesF kind (l, o) := by
  cases l with
  | nil => exact absurd rfl h
  | cons a l => rfl
theorem ext (c : S39) (r : List S39) : ∀ (k lev : Nat) (l o l' o' : List S39), PF k lev (l, o) = some (some (l', o')) → (l' = [] → OKc lev c.f0) → PF k lev (l ++ c :: r, o) = some (some (l' ++ c :: r, o'))
 | 0, _, _, _, _, _, h, _ => by cases h
 | k + 1, lev, l, o, l', o', h, hp => by
  have hne : l ≠ [] := by rintro rfl; exact nosucc _ _ _ _ h
  have row : ∀ lev2 ks, lev < lev2 → (OKc lev c.f0 → ks.contains c.f0 = false) → rowF (PF k lev2) ks k (l, o) = some (some (l', o')) → rowF (PF k lev2) ks k (l ++ c :: r, o) = some (some (l' ++ c :: r, o')) := by
   intro lev2 ks hl hks h
   rcases rowF_some h with ⟨_, h2⟩ | ⟨l1, o1, h1, h2⟩
   ·cases h2
   ·have hp1 : l1 = [] → OKc lev c.f0 := by
     rintro rfl
     have := rowL_nil _ _ _ _ _ h2
     exact hp (Prod.mk.inj (Option.some.inj this)).1
    have hth : ∀ l o l' o', PF k lev2 (l, o) = some (some (l', o')) → (l' = [] → OKc lev c.f0) → PF k lev2 (l ++ c :: r, o) = some (some (l' ++ c :: r, o')) :=
     fun l o l' o' q1 q2 => ext c r k lev2 l o l' o' q1 (fun e => (q2 e).up (by omega))
    rw [rowF_mk (hth _ _ _ _ h1 hp1)]
    exact ext_row (OKc lev c.f0) hks hth k l1 o1 l' o' h2 hp
  have htl : ∀ t : List S39, l.tail ++ t = (l ++ t).tail := fun t => by cases l with
   | nil => exact absurd rfl hne
   | cons a l => rfl
  rw [PF_succ] at h ⊢
  unfold stepF at h ⊢
  by_cases c0 : lev = 0
  ·subst c0
   rw [if_pos rfl] at h ⊢
   exact row 1 [13] (by omega) (fun q => by have := q.1 (by omega); simp; omega) h
  ·rw [if_neg c0] at h ⊢
   by_cases c1 : lev = 1
   ·subst c1
    rw [if_pos rfl] at h ⊢
    exact row 2 [12] (by omega) (fun q => by have := q.2.1 (by omega); simp; omega) h
   ·rw [if_neg c1] at h ⊢
    by_cases c2 : lev = 2
    ·subst c2
     rw [if_pos rfl] at h ⊢
     rw [seesF_app 14 _ _ _ hne, seesF_app 15 _ _ _ hne]
     dsimp only at h ⊢
     rw [← htl]
     split at h
     ·rename_i q
      rw [if_pos q]
      rcases bnd_some h with ⟨_, h2⟩ | ⟨⟨l1, o1⟩, h1, h2⟩
      ·cases h2
      ·obtain ⟨rfl, rfl⟩ := Prod.mk.inj (Option.some.inj (Option.some.inj h2))
       rw [bnd_mk (ext c r k 2 _ _ _ _ h1 hp)]
       rfl
     ·rename_i q
      rw [if_neg q]
      split at h
      ·rename_i q
       rw [if_pos q]
       rcases bnd_some h with ⟨_, h2⟩ | ⟨⟨l1, o1⟩, h1, h2⟩
       ·cases h2
       ·unfold takeF at h2
        split at h2
        ·rename_i q2
         have hne1 : l1 ≠ [] := by rintro rfl; cases q2
         obtain ⟨rfl, rfl⟩ := Prod.mk.inj (Option.some.inj (Option.some.inj h2))
         rw [bnd_mk (ext c r k 0 _ _ _ _ h1 (fun e => absurd e hne1))]
         unfold takeF
         rw [seesF_app _ _ _ _ hne1, if_pos q2]
         cases l1 with
         | nil => exact absurd rfl hne1
         | cons a l1 => rfl
        ·cases h2
      ·rename_i q
       rw [if_neg q]
       rcases bnd_some h with ⟨_, h2⟩ | ⟨⟨l1, o1⟩, h1, h2⟩
       ·cases h2
       ·cases l1 with
        | nil => cases h2
        | cons a l1 =>
         dsimp only at h2
         rw [bnd_mk (ext c r k 3 _ _ _ _ h1 (fun e => by cases e))]
         show (if decide (6 ≤ a.f0 ∧ a.f0 ≤ 11) = true then bnd (PF k 3 (l1 ++ c :: r, o1)) (putF a.f0) else some none) = _
         split at h2
         ·rename_i q
          rw [if_pos q]
          rcases bnd_some h2 with ⟨_, h3⟩ | ⟨⟨l2, o2⟩, h3, h4⟩
          ·cases h3
          ·obtain ⟨rfl, rfl⟩ := Prod.mk.inj (Option.some.inj (Option.some.inj h4))
           rw [bnd_mk (ext c r k 3 _ _ _ _ h3 (fun e => (hp e).up (by omega)))]
           rfl
         ·cases h2
    ·rw [if_neg c2] at h ⊢
     by_cases c3 : lev = 3
     ·subst c3
      rw [if_pos rfl] at h ⊢
      exact row 4 [3, 4] (by omega) (fun q => by have := q.2.2.1 (by omega); simp; omega) h
     ·rw [if_neg c3] at h ⊢
      by_cases c4 : lev = 4
      ·subst c4
       rw [if_pos rfl] at h ⊢
       exact row 5 [5] (by omega) (fun q => by have := q.2.2.2 (by omega); simp; omega) h
      ·rw [if_neg c4] at h ⊢
       cases l with
       | nil => exact absurd rfl hne
       | cons a l =>
        dsimp only [List.cons_append] at h ⊢
        split at h
        ·rename_i q
         rw [if_pos q]
         obtain ⟨rfl, rfl⟩ := Prod.mk.inj (Option.some.inj (Option.some.inj h))
         rfl
        ·rename_i q
         rw [if_neg q]
         split at h
         ·rename_i q
          rw [if_pos q]
          rcases bnd_some h with ⟨_, h2⟩ | ⟨⟨l1, o1⟩, h1, h2⟩
          ·cases h2
          ·obtain ⟨rfl, rfl⟩ := Prod.mk.inj (Option.some.inj (Option.some.inj h2))
           rw [bnd_mk (ext c r k 5 _ _ _ _ h1 (fun e => ⟨fun q => by omega, fun q => by omega, fun q => by omega, fun q => by omega⟩))]
           rfl
         ·rename_i q
          rw [if_neg q]
          split at h
          ·rename_i q
           rw [if_pos q]
           rcases bnd_some h with ⟨_, h2⟩ | ⟨⟨l1, o1⟩, h1, h2⟩
           ·cases h2
           ·unfold takeF at h2
            split at h2
            ·rename_i q2
             have hne1 : l1 ≠ [] := by rintro rfl; cases q2
             obtain ⟨rfl, rfl⟩ := Prod.mk.inj (Option.some.inj (Option.some.inj h2))
             rw [bnd_mk (ext c r k 3 _ _ _ _ h1 (fun e => absurd e hne1))]
             unfold takeF
             rw [seesF_app _ _ _ _ hne1, if_pos q2]
             cases l1 with
             | nil => exact absurd rfl hne1
             | cons a l1 => rfl
            ·cases h2
          ·cases h
/-- A row goes on where it ended, if a sign of its own follows. -/
theorem cont_row {th : ST → Rz} {ks : List Int} {c : S39} {r : List S39}
    (hth : ∀ l o l' o', th (l, o) = some (some (l', o')) → th (l ++ c :: r, o) = some (some (l' ++ c :: r, o'))) :
    ∀ (k : Nat) (l o o' : List S39), rowL th ks k (l, o) = some (some ([], o')) → ∀ (k2 : Nat) (res : Option ST), rowL th ks k2 (c :: r, o') = some res → rowL th ks (k + k2) (l ++ c :: r, o) = some res
  | 0, _, _, _, h, _, _, _ => by cases h
  | k + 1, [], o, o', h, k2, res, h2 => by
    have := rowL_nil _ _ _ _ _ h
    obtain ⟨-, rfl⟩ := Prod.mk.inj (Option.some.inj this)
    exact rowL_mono th th ks (fun _ _ q => q) k2 (k + 1 + k2) _ _ (by omega) h2
  | k + 1, a :: l, o, o', h, k2, res, h2 => by
    rcases rowL_cons h with ⟨hc, h1⟩ | ⟨hc, ⟨_, h1⟩ | ⟨l1, o1, h1, h3⟩⟩
    · cases (Prod.mk.inj (Option.some.inj h1)).1
    · cases h1
    · have e : k + 1 + k2 = (k + k2) + 1 := by omega
      rw [e]
      show rowL th ks ((k + k2) + 1) (a :: (l ++ c :: r), o) = _
      rw [rowL_go hc (hth _ _ _ _ h1)]
      exact cont_row hth k l1 _ o' h3 k2 res h2
/-- What lies there before stays ahead. -/
def ahead (p : List S39) (r : Option ST) : Option ST := r.map fun s => (s.1, p ++ s.2)
theorem acc_row {th : ST → Rz} {ks : List Int} (p : List S39) (hth : ∀ l o r, th (l, o) = some r → th (l, p ++ o) = some (ahead p r)) :
    ∀ (k : Nat) (l o : List S39) (r : Option ST), rowL th ks k (l, o) = some r → rowL th ks k (l, p ++ o) = some (ahead p r)
  | 0, _, _, _, h => by cases h
  | k + 1, [], o, r, h => by
    obtain rfl := rowL_nil _ _ _ _ _ h
    rfl
  | k + 1, a :: l, o, r, h => by
    rcases rowL_cons h with ⟨hc, rfl⟩ | ⟨hc, ⟨h0, rfl⟩ | ⟨l1, o1, h1, h2⟩⟩
    · exact rowL_stop hc
    · simp only [rowL]
      rw [if_pos hc, bnd_mk_none (hth _ _ _ h0)]
      rfl
    · rw [rowL_go hc (hth _ _ _ h1), List.append_assoc]
      exact acc_row p hth k l1 _ r h2
theorem acc (p : List S39) : ∀ (k lev : Nat) (l o : List S39) (r : Option ST), PF k lev (l, o) = some r → PF k lev (l, p ++ o) = some (ahead p r)
 | 0, _, _, _, _, h => by cases h
 | k + 1, lev, l, o, r, h => by
  have ih := acc p k
  have row : ∀ lev2 ks, rowF (PF k lev2) ks k (l, o) = some r → rowF (PF k lev2) ks k (l, p ++ o) = some (ahead p r) := by
   intro lev2 ks h
   rcases rowF_some h with ⟨h1, rfl⟩ | ⟨l1, o1, h1, h2⟩
   ·exact bnd_mk_none (ih _ _ _ _ h1)
   ·rw [rowF_mk (ih _ _ _ _ h1)]
    exact acc_row p (fun l o r q => ih lev2 l o r q) k l1 o1 r h2
  have put : ∀ lev2 l kind, bnd (PF k lev2 (l, o)) (putF kind) = some r → bnd (PF k lev2 (l, p ++ o)) (putF kind) = some (ahead p r) := by
   intro lev2 l kind h
   rcases bnd_some h with ⟨h1, rfl⟩ | ⟨⟨l1, o1⟩, h1, h2⟩
   ·exact bnd_mk_none (ih _ _ _ _ h1)
   ·rw [bnd_mk (ih _ _ _ _ h1)]
    obtain rfl := Option.some.inj h2
    show some (some (l1, (p ++ o1) ++ [_])) = _
    rw [List.append_assoc]
    rfl
  have take : ∀ lev2 l kind, bnd (PF k lev2 (l, o)) (takeF kind) = some r → bnd (PF k lev2 (l, p ++ o)) (takeF kind) = some (ahead p r) := by
   intro lev2 l kind h
   rcases bnd_some h with ⟨h1, rfl⟩ | ⟨⟨l1, o1⟩, h1, h2⟩
   ·exact bnd_mk_none (ih _ _ _ _ h1)
   ·rw [bnd_mk (ih _ _ _ _ h1)]
    unfold takeF at h2
    show takeF kind (l1, p ++ o1) = _
    unfold takeF
    split at h2
    ·rename_i q
     rw [if_pos (show seesF kind (l1, p ++ o1) = true from q)]
     obtain rfl := Option.some.inj h2
     rfl
    ·rename_i q
     rw [if_neg (show ¬ seesF kind (l1, p ++ o1) = true from q)]
     obtain rfl := Option.some.inj h2
     rfl
  have hs : ∀ kind, seesF kind (l, p ++ o) = seesF kind (l, o) := fun _ => rfl
  rw [PF_succ] at h ⊢
  unfold stepF at h ⊢
  split at h
  ·rename_i q; rw [if_pos q]; exact row _ _ h
  ·rename_i q; rw [if_neg q]
   split at h
   ·rename_i q; rw [if_pos q]; exact row _ _ h
   ·rename_i q; rw [if_neg q]
    split at h
    ·rename_i q; rw [if_pos q, hs, hs]
     split at h
     ·rename_i q; rw [if_pos q]; exact put _ _ _ h
     ·rename_i q; rw [if_neg q]
      split at h
      ·rename_i q; rw [if_pos q]; exact take _ _ _ h
      ·rename_i q; rw [if_neg q]
       rcases bnd_some h with ⟨h1, rfl⟩ | ⟨⟨l1, o1⟩, h1, h2⟩
       ·exact bnd_mk_none (ih _ _ _ _ h1)
       ·rw [bnd_mk (ih _ _ _ _ h1)]
        cases l1 with
        | nil => obtain rfl := Option.some.inj h2; rfl
        | cons a l1 =>
         dsimp only at h2
         show (if decide (6 ≤ a.f0 ∧ a.f0 ≤ 11) = true then bnd (PF k 3 (l1, p ++ o1)) (putF a.f0) else some none) = _
         split at h2
         ·rename_i q
          rw [if_pos q]
          rcases bnd_some h2 with ⟨h3, rfl⟩ | ⟨⟨l2, o2⟩, h3, h4⟩
          ·exact bnd_mk_none (ih _ _ _ _ h3)
          ·rw [bnd_mk (ih _ _ _ _ h3)]
           obtain rfl := Option.some.inj h4
           show some (some (l2, (p ++ o2) ++ [_])) = _
           rw [List.append_assoc]
           rfl
         ·rename_i q
          rw [if_neg q]
          obtain rfl := Option.some.inj h2
          rfl
    ·rename_i q; rw [if_neg q]
     split at h
     ·rename_i q; rw [if_pos q]; exact row _ _ h
     ·rename_i q; rw [if_neg q]
      split at h
      ·rename_i q; rw [if_pos q]; exact row _ _ h
      ·rename_i q; rw [if_neg q]
       cases l with
       | nil => obtain rfl := Option.some.inj h; rfl
       | cons a l =>
        dsimp only at h ⊢
        split at h
        ·rename_i q
         rw [if_pos q]
         obtain rfl := Option.some.inj h
         show some (some (l, (p ++ o) ++ [a])) = _
         rw [List.append_assoc]
         rfl
        ·rename_i q
         rw [if_neg q]
         split at h
         ·rename_i q; rw [if_pos q]; exact put _ _ _ h
         ·rename_i q
          rw [if_neg q]
          split at h
          ·rename_i q; rw [if_pos q]; exact take _ _ _ h
          ·rename_i q
           rw [if_neg q]
           obtain rfl := Option.some.inj h
           rfl
end Go.Proofs.YtikbgoppmailjaaGreatDoor.Pure
/- Guards in brackets, turned, joined. -/
namespace Go.Proofs.YtikbgoppmailjaaGreatDoor.Pure
open Go.Proofs.YtikbgoppmailjaaGreatDoor.H
set_option linter.unusedVariables false
set_option linter.unusedSimpArgs false
/-- The signs are a guard, and this is how it lies behind. -/
def Guard (x o : List S39) : Prop := ∃ k, PF k 0 (x, []) = some (some ([], o))
theorem ok16 (lev : Nat) : OKc lev 16 := ⟨fun _ => by decide, fun _ => by decide, fun _ => by decide, fun _ => by decide⟩
/-- In brackets. -/
theorem br {x o : List S39} (h : Guard x o) (t p : List S39) (n m : Int) : ∃ k, PF k 2 ((⟨15, n⟩ : S39) :: (x ++ (⟨16, m⟩ : S39) :: t), p) = some (some (t, p ++ o)) := by
  obtain ⟨k, hk⟩ := h
  have h1 := ext (⟨16, m⟩ : S39) t k 0 x [] [] o hk (fun _ => ok16 0)
  have h2 := acc p k 0 _ [] _ h1
  rw [List.append_nil] at h2
  refine ⟨k + 1, ?_⟩
  rw [PF_succ, step2, if_neg (show ¬ (seesF 14 _ = true) by show ¬ (((15 : Int) == 14) = true); decide), if_pos (show seesF 15 _ = true by show ((15 : Int) == 15) = true; decide)]
  show bnd (PF k 0 (x ++ (⟨16, m⟩ : S39) :: t, p)) (takeF 16) = _
  rw [bnd_mk h2]
  show takeF 16 ((⟨16, m⟩ : S39) :: t, p ++ o) = _
  unfold takeF
  rw [if_pos (show seesF 16 _ = true by show ((16 : Int) == 16) = true; decide)]
  rfl
/-- With ! ahead. -/
theorem nt {l p t q : List S39} (n : Int) (h : ∃ k, PF k 2 (l, p) = some (some (t, q))) : ∃ k, PF k 2 ((⟨14, n⟩ : S39) :: l, p) = some (some (t, q ++ [(⟨14, 0⟩ : S39)])) := by
  obtain ⟨k, hk⟩ := h
  refine ⟨k + 1, ?_⟩
  rw [PF_succ, step2, if_pos (show seesF 14 _ = true by show ((14 : Int) == 14) = true; decide)]
  show bnd (PF k 2 (l, p)) (putF 14) = _
  rw [bnd_mk hk]
  rfl
/-- One level up, at the end. -/
theorem up_end {lev lev2 : Nat} {ks : List Int} (hs : ∀ k st, PF (k + 1) lev st = rowF (PF k lev2) ks k st) {l p q : List S39} (h : ∃ k, PF k lev2 (l, p) = some (some ([], q))) : ∃ k, PF k lev (l, p) = some (some ([], q)) := by
  obtain ⟨k, hk⟩ := h
  refine ⟨k + 2, ?_⟩
  rw [hs, rowF_mk (PF_mono (by omega) hk)]
  rfl
end Go.Proofs.YtikbgoppmailjaaGreatDoor.Pure
/- What the reader lays behind is a guard, behind. -/
namespace Go.Proofs.YtikbgoppmailjaaGreatDoor.Pure
open Go.Proofs.YtikbgoppmailjaaGreatDoor.H
set_option linter.unusedVariables false
set_option linter.unusedSimpArgs false
/-- A guard (true), or a number (false), behind. -/
inductive Post : Bool → List S39 → Prop
  | num (n : Int) : 0 ≤ n → n ≤ 2147483647 → Post false [⟨1, n⟩]
  | name (n : Int) : 0 ≤ n → n < 26 → Post false [⟨2, n⟩]
  | neg {p} : Post false p → Post false (p ++ [⟨19, 0⟩])
  | op {p q} (k : Int) : 3 ≤ k → k ≤ 5 → Post false p → Post false q → Post false (p ++ q ++ [⟨k, 0⟩])
  | cmp {p q} (k : Int) : 6 ≤ k → k ≤ 11 → Post false p → Post false q → Post true (p ++ q ++ [⟨k, 0⟩])
  | con {p q} (k : Int) : (k = 12 ∨ k = 13) → Post true p → Post true q → Post true (p ++ q ++ [⟨k, 0⟩])
  | nt {p} : Post true p → Post true (p ++ [⟨14, 0⟩])
/-- What a sign that is read may be. -/
def tok (s : S39) : Prop := (s.f0 = 1 → 0 ≤ s.f1 ∧ s.f1 ≤ 2147483647) ∧ (s.f0 = 2 → 0 ≤ s.f1 ∧ s.f1 ≤ 25)
def Lays (b : Bool) (th : ST → Rz) : Prop := ∀ l o l' o', (∀ s ∈ l, tok s) → th (l, o) = some (some (l', o')) → (∀ s ∈ l', tok s) ∧ ∃ p, Post b p ∧ o' = o ++ p
theorem lays_row {b : Bool} {th : ST → Rz} {ks : List Int} (hth : Lays b th) (hop : ∀ k, ks.contains k = true → ∀ p q, Post b p → Post b q → Post b (p ++ q ++ [⟨k, 0⟩])) :
    ∀ (k : Nat) (l o p l' o' : List S39), (∀ s ∈ l, tok s) → Post b p → rowL th ks k (l, o ++ p) = some (some (l', o')) → (∀ s ∈ l', tok s) ∧ ∃ p, Post b p ∧ o' = o ++ p
  | 0, _, _, _, _, _, _, _, h => by cases h
  | k + 1, [], o, p, l', o', ht, hp, h => by
    obtain ⟨rfl, rfl⟩ := Prod.mk.inj (Option.some.inj (rowL_nil _ _ _ _ _ h))
    exact ⟨ht, p, hp, rfl⟩
  | k + 1, a :: l, o, p, l', o', ht, hp, h => by
    rcases rowL_cons h with ⟨hc, h1⟩ | ⟨hc, ⟨_, h1⟩ | ⟨l1, o1, h1, h2⟩⟩
    · obtain ⟨rfl, rfl⟩ := Prod.mk.inj (Option.some.inj h1)
      exact ⟨ht, p, hp, rfl⟩
    · cases h1
    · obtain ⟨ht1, q, hq, rfl⟩ := hth _ _ _ _ (fun s hs => ht s (by simp [hs])) h1
      have e : o ++ p ++ q ++ [(⟨a.f0, 0⟩ : S39)] = o ++ (p ++ q ++ [(⟨a.f0, 0⟩ : S39)]) := by simp
      rw [e] at h2
      exact lays_row hth hop k l1 o _ l' o' ht1 (hop _ hc _ _ hp hq) h2
theorem lays_rowF {b : Bool} {th : ST → Rz} {ks : List Int} (hth : Lays b th) (hop : ∀ k, ks.contains k = true → ∀ p q, Post b p → Post b q → Post b (p ++ q ++ [⟨k, 0⟩])) (k : Nat) : Lays b (rowF th ks k) := by
  intro l o l' o' ht h
  rcases rowF_some h with ⟨_, h2⟩ | ⟨l1, o1, h1, h2⟩
  · cases h2
  · obtain ⟨ht1, p, hp, rfl⟩ := hth _ _ _ _ ht h1
    exact lays_row hth hop k l1 o p l' o' ht1 hp h2
theorem lays : ∀ (k lev : Nat), Lays (decide (lev ≤ 2)) (PF k lev)
  | 0, _ => fun _ _ _ _ _ h => by cases h
  | k + 1, lev => by
    intro l o l' o' ht h
    have ih := lays k
    rw [PF_succ] at h
    unfold stepF at h
    have htl : ∀ {a : S39} {t : List S39}, l = a :: t → ∀ s ∈ t, tok s := by
      rintro a t rfl s hs
      exact ht s (by simp [hs])
    have htt : ∀ s ∈ l.tail, tok s := fun s hs => ht s (List.mem_of_mem_tail hs)
    by_cases c0 : lev = 0
    · subst c0
      rw [if_pos rfl] at h
      exact lays_rowF (b := true) (ih 1) (fun k hk p q hp hq => by have e : k = 13 := by simpa using hk
                                                                   exact Post.con k (Or.inr e) hp hq) k l o l' o' ht h
    · rw [if_neg c0] at h
      by_cases c1 : lev = 1
      · subst c1
        rw [if_pos rfl] at h
        exact lays_rowF (b := true) (ih 2) (fun k hk p q hp hq => by have e : k = 12 := by simpa using hk
                                                                     exact Post.con k (Or.inl e) hp hq) k l o l' o' ht h
      · rw [if_neg c1] at h
        by_cases c2 : lev = 2
        · subst c2
          rw [if_pos rfl] at h
          dsimp only at h
          split at h
          · rcases bnd_some h with ⟨_, h2⟩ | ⟨⟨l1, o1⟩, h1, h2⟩
            · cases h2
            · obtain ⟨rfl, rfl⟩ := Prod.mk.inj (Option.some.inj (Option.some.inj h2))
              obtain ⟨ht1, p, hp, rfl⟩ := ih 2 _ _ _ _ htt h1
              exact ⟨ht1, _, Post.nt hp, by simp⟩
          · split at h
            · rcases bnd_some h with ⟨_, h2⟩ | ⟨⟨l1, o1⟩, h1, h2⟩
              · cases h2
              · obtain ⟨ht1, p, hp, rfl⟩ := ih 0 _ _ _ _ htt h1
                unfold takeF at h2
                split at h2
                · obtain ⟨rfl, rfl⟩ := Prod.mk.inj (Option.some.inj (Option.some.inj h2))
                  exact ⟨fun s hs => ht1 s (List.mem_of_mem_tail hs), p, hp, rfl⟩
                · cases h2
            · rcases bnd_some h with ⟨_, h2⟩ | ⟨⟨l1, o1⟩, h1, h2⟩
              · cases h2
              · obtain ⟨ht1, p, hp, rfl⟩ := ih 3 _ _ _ _ ht h1
                cases l1 with
                | nil => cases h2
                | cons a l1 =>
                  dsimp only at h2
                  split at h2
                  · rename_i q
                    rcases bnd_some h2 with ⟨_, h3⟩ | ⟨⟨l2, o2⟩, h3, h4⟩
                    · cases h3
                    · obtain ⟨rfl, rfl⟩ := Prod.mk.inj (Option.some.inj (Option.some.inj h4))
                      obtain ⟨ht2, p2, hp2, rfl⟩ := ih 3 _ _ _ _ (fun s hs => ht1 s (by simp [hs])) h3
                      have q2 := of_decide_eq_true q
                      exact ⟨ht2, _, Post.cmp a.f0 q2.1 q2.2 hp hp2, by simp⟩
                  · cases h2
        · rw [if_neg c2] at h
          by_cases c3 : lev = 3
          · subst c3
            rw [if_pos rfl] at h
            exact lays_rowF (b := false) (ih 4) (fun k hk p q hp hq => by have e : k = 3 ∨ k = 4 := by simpa using hk
                                                                          exact Post.op k (by omega) (by omega) hp hq) k l o l' o' ht h
          · rw [if_neg c3] at h
            by_cases c4 : lev = 4
            · subst c4
              rw [if_pos rfl] at h
              exact lays_rowF (b := false) (ih 5) (fun k hk p q hp hq => by have e : k = 5 := by simpa using hk
                                                                            exact Post.op k (by omega) (by omega) hp hq) k l o l' o' ht h
            · rw [if_neg c4] at h
              have hd : decide (lev ≤ 2) = false := decide_eq_false (by omega)
              rw [hd]
              cases l with
              | nil => cases h
              | cons a l =>
                dsimp only at h
                have hta := ht a (by simp)
                split at h
                · rename_i q
                  obtain ⟨rfl, rfl⟩ := Prod.mk.inj (Option.some.inj (Option.some.inj h))
                  refine ⟨htl rfl, [a], ?_, rfl⟩
                  obtain ⟨a0, a1⟩ := a
                  rcases q with q | q
                  · obtain rfl : a0 = 1 := q
                    exact Post.num _ (hta.1 rfl).1 (hta.1 rfl).2
                  · obtain rfl : a0 = 2 := q
                    exact Post.name _ (hta.2 rfl).1 (by have := (hta.2 rfl).2; show a1 < 26; have e : (a1 : Int) ≤ 25 := this; omega)
                · split at h
                  · rcases bnd_some h with ⟨_, h2⟩ | ⟨⟨l1, o1⟩, h1, h2⟩
                    · cases h2
                    · obtain ⟨rfl, rfl⟩ := Prod.mk.inj (Option.some.inj (Option.some.inj h2))
                      obtain ⟨ht1, p, hp, rfl⟩ := ih 5 _ _ _ _ (htl rfl) h1
                      exact ⟨ht1, _, Post.neg hp, by simp⟩
                  · split at h
                    · rcases bnd_some h with ⟨_, h2⟩ | ⟨⟨l1, o1⟩, h1, h2⟩
                      · cases h2
                      · obtain ⟨ht1, p, hp, rfl⟩ := ih 3 _ _ _ _ (htl rfl) h1
                        unfold takeF at h2
                        split at h2
                        · obtain ⟨rfl, rfl⟩ := Prod.mk.inj (Option.some.inj (Option.some.inj h2))
                          exact ⟨fun s hs => ht1 s (List.mem_of_mem_tail hs), p, hp, rfl⟩
                        · cases h2
                    · cases h
theorem guard_post {x o : List S39} (hx : ∀ s ∈ x, tok s) (h : Guard x o) : Post true o := by
  obtain ⟨k, hk⟩ := h
  obtain ⟨_, p, hp, rfl⟩ := lays k 0 _ _ _ _ hx hk
  exact hp
end Go.Proofs.YtikbgoppmailjaaGreatDoor.Pure
/- Small laws of this session, over any program: an operation met by its run; a scope with several labels. -/
namespace Go.HK
open Go Go.RowKit

theorem wpList_doTo {P : Program} {ops : Array Oper} {rest : List Oper} {o : Oper} {a : Act} {w : World} {Q : Exit → Act → World → Prop} (hg : o.guard = none) (w' : World)
    (hrun : (execOp a.eval o).run P w = .ok .skip w')
    (h : wpList P ops Q rest (a.put o.dst undef) w') : wpList P ops Q (o :: rest) a w := by
  refine wpList_plain hg fun K hK => ?_
  unfold Oper.wp
  rw [hrun, Oper.upon_skip]
  exact hK _ _ h
theorem results_cell1 {fn : Func} {p : Tmp} {ty : TypeId} (h : fn.results = #[.cell p ty]) (tmps : Array Value) (P : Program) (w w' : World) (ad : Addr) (v : Value) (hp : tmps.getD p undef = .pointer (some ad)) (hl : (loadVar ty ad).run P w = .ok v w') :
    (results fn tmps).run P w = .ok v w' := by
  simp only [results, h]
  simp only [List.mapM_toArray, List.mapM_cons, List.mapM_nil, hp, asAddr]
  simp [hl]
theorem exec_store {P : Program} {ρ : Operand → Value} {o : Oper} {t : TypeId} {a x : Operand} (ho : o.op = .store t a x) {w w' : World} (h : (Instr.storeAt t (ρ a) (ρ x)).run P w = .ok () w') : (execOp ρ o).run P w = .ok .skip w' := by
  unfold execOp
  rw [ho]
  simp only [Sem.run_bind, h, Result.andThen]
  rfl
theorem exec_index {P : Program} {ρ : Operand → Value} {o : Oper} {t : TypeId} {a x : Operand} (ho : o.op = .index t a x) {w w' : World} {v : Value} (h : (Instr.index t (ρ a) (ρ x)).run P w = .ok v w') : (execOp ρ o).run P w = .ok (.value v) w' := by
  unfold execOp
  rw [ho]
  simp only [Sem.run_bind, h, Result.andThen]
  rfl

/-- As Q; by a goto to label l: J l. -/
def jumps (J : Nat → Act → World → Prop) (Q : Exit → Act → World → Prop) : Exit → Act → World → Prop
  | .goto l, a, w => J l a w
  | e, a, w => Q e a w

section
variable {P : Program} {a : Act} {w : World} {Q : Exit → Act → World → Prop}
theorem jumps_ret {J : Nat → Act → World → Prop} (h : Q .ret a w) : jumps J Q .ret a w := h
theorem wp_scope_labels {c : Code} (I : Nat → Nat → Act → World → Prop)
    (pass : ∀ l n a w, I l n a w → ∀ K : Nat → Act → World → Prop, (∀ l' n' a' w', n' < n → I l' n' a' w' → K l' a' w') → ∃ rest, findLabel c l = some (.seq .skip rest) ∧ rest.wp P (jumps K Q) a w)
    (first : ∀ K : Nat → Act → World → Prop, (∀ l n a' w', I l n a' w' → K l a' w') → (∀ l rest, findLabel c l = some (.seq .skip rest) → ∀ n a' w', I l n a' w' → rest.wp P (jumps K Q) a' w') → c.wp P (jumps K Q) a w) : (Code.scope c).wp P Q a w := by
  intro b k cs
  have key : ∀ n l a w, I l n a w → ∃ rest, findLabel c l = some rest ∧ ∃ e a' w', Q e a' w' ∧ Arrives P (lone (b.at a (.code rest :: .inScope c :: k)) cs w) b k cs e a' w' := by
    intro n
    induction n using Nat.strongRecOn with
    | _ n ih =>
      intro l a w hJ
      obtain ⟨rest, hr, hw0⟩ := pass l n a w hJ (fun l' a' w' => ∃ n', n' < n ∧ I l' n' a' w') (fun l' n' a' w' h1 h2 => ⟨n', h1, h2⟩)
      refine ⟨_, hr, ?_⟩
      have hw := wp_seq (x := Code.skip) (y := rest) (P := P) (Q := jumps (fun l' a' w' => ∃ n', n' < n ∧ I l' n' a' w') Q) (wp_skip hw0)
      obtain ⟨e, a₁, w₁, hq, harr⟩ := hw b (.inScope c :: k) cs
      cases e with
      | normal => exact ⟨.normal, a₁, w₁, hq, Steps.trans harr (.one step_inScope)⟩
      | exit id => exact ⟨.exit id, a₁, w₁, hq, fun k' hk => harr k' (by simp [exitTo, hk])⟩
      | goto l' =>
        obtain ⟨n', hlt, hJ'⟩ := hq
        obtain ⟨rest', hr', e₂, a₂, w₂, hq₂, harr₂⟩ := ih n' hlt l' a₁ w₁ hJ'
        exact ⟨e₂, a₂, w₂, hq₂, .of_steps (harr _ (by simp [gotoIn, hr'])) harr₂⟩
      | ret => exact ⟨_, a₁, w₁, hq, harr⟩
      | panic ch => exact ⟨_, a₁, w₁, hq, harr⟩
      | outgrown => exact ⟨_, a₁, w₁, hq, harr⟩
  obtain ⟨e, a₁, w₁, hq, harr⟩ := first (fun l a w => ∃ n, I l n a w) (fun l n a' w' h => ⟨n, h⟩) (fun l rest hr n a' w' h => by
    obtain ⟨rest', hr', hw⟩ := pass l n a' w' h (fun l a w => ∃ n, I l n a w) (fun l' n' a' w' _ h2 => ⟨n', h2⟩)
    rw [hr] at hr'
    simp only [Option.some.injEq, Code.seq.injEq, true_and] at hr'
    subst hr'
    exact hw) b (.inScope c :: k) cs
  cases e with
  | normal => exact ⟨.normal, a₁, w₁, hq, .head step_scope (Steps.trans harr (.one step_inScope))⟩
  | exit id => exact ⟨.exit id, a₁, w₁, hq, fun k' hk => .head step_scope (harr k' (by simp [exitTo, hk]))⟩
  | goto l' =>
    obtain ⟨n', hJ'⟩ := hq
    obtain ⟨rest', hr', e₂, a₂, w₂, hq₂, harr₂⟩ := key n' l' a₁ w₁ hJ'
    exact ⟨e₂, a₂, w₂, hq₂, .of_steps (.head step_scope (harr _ (by simp [gotoIn, hr']))) harr₂⟩
  | ret => exact ⟨_, a₁, w₁, hq, .of_steps (.one step_scope) harr⟩
  | panic ch => exact ⟨_, a₁, w₁, hq, .of_steps (.one step_scope) harr⟩
  | outgrown => exact ⟨_, a₁, w₁, hq, .of_steps (.one step_scope) harr⟩
end
end Go.HK
/- The shelf's contracts at this dump, in plain words (lay-plain.mjs), only those that are used. -/
namespace Go.Proofs
open Go.Shelf
def Tryz.lays156_ren : Go.Shelf.Ren := ⟨fun | 156 => 43 | 165 => 67 | 166 => 68 | 169 => 69 | 240 => 97 | 241 => 98 | 276 => 113 | 277 => 114 | n => n, fun | 31 => 72 | 9 => 9 | 3 => 3 | 4 => 4 | 0 => 0 | 20 => 20 | 72 => 99 | 76 => 66 | 70 => 96 | 37 => 97 | 75 => 44 | 127 => 126 | 164 => 141 | 5 => 5 | 80 => 100 | n => n, fun | n => n⟩
theorem Tryz.lays156 : Go.Proofs.Lays.n156 Tryz.prog Tryz.lays156_ren := {
  mixed := by kernel_rfl
  f156 := Tryz.func43.trans (congrArg some (by kernel_rfl))
  f165 := Tryz.func67.trans (congrArg some (by kernel_rfl))
  f166 := Tryz.func68.trans (congrArg some (by kernel_rfl))
  f169 := Tryz.func69.trans (congrArg some (by kernel_rfl))
  f240 := Tryz.func97.trans (congrArg some (by kernel_rfl))
  f241 := Tryz.func98.trans (congrArg some (by kernel_rfl))
  f276 := Tryz.func113.trans (congrArg some (by kernel_rfl))
  f277 := Tryz.func114.trans (congrArg some (by kernel_rfl))
  t0 := Tryz.underlying0
  a0 := Tryz.isAgg0
  z0 := Tryz.sizeOf0
  v0 := Tryz.zeroValue0
  t3 := Tryz.underlying3
  a3 := Tryz.isAgg3
  z3 := Tryz.sizeOf3
  v3 := Tryz.zeroValue3
  t4 := Tryz.underlying4
  a4 := Tryz.isAgg4
  z4 := Tryz.sizeOf4
  v4 := Tryz.zeroValue4
  t9 := Tryz.underlying9
  a9 := Tryz.isAgg9
  z9 := Tryz.sizeOf9
  v9 := Tryz.zeroValue9
  t20 := Tryz.underlying20
  a20 := Tryz.isAgg20
  z20 := Tryz.sizeOf20
  v20 := Tryz.zeroValue20
  t31 := Tryz.underlying72
  a31 := Tryz.isAgg72
  z31 := Tryz.sizeOf72
  v31 := Tryz.zeroValue72
  t37 := Tryz.underlying97
  a37 := Tryz.isAgg97
  z37 := Tryz.sizeOf97
  v37 := Tryz.zeroValue97
  t70 := Tryz.underlying96
  a70 := Tryz.isAgg96
  z70 := Tryz.sizeOf96
  v70 := Tryz.zeroValue96
  t72 := Tryz.underlying99
  a72 := Tryz.isAgg99
  z72 := Tryz.sizeOf99
  v72 := Tryz.zeroValue99
  t75 := Tryz.underlying44
  a75 := Tryz.isAgg44
  z75 := Tryz.sizeOf44
  v75 := Tryz.zeroValue44
  t76 := Tryz.underlying66
  a76 := Tryz.isAgg66
  z76 := Tryz.sizeOf66
  v76 := Tryz.zeroValue66
  t127 := Tryz.underlying126
  a127 := Tryz.isAgg126
  z127 := Tryz.sizeOf126
  v127 := Tryz.zeroValue126
  t164 := Tryz.underlying141
  a164 := Tryz.isAgg141
  z164 := Tryz.sizeOf141
  v164 := Tryz.zeroValue141 }
theorem Tryz.Builder_Extra_156 : Builder.Extra Tryz.prog Tryz.lays156_ren := {
  sizeBuilder := by kernel_rfl
  liesBuilder := by kernel_rfl
  t5 := Tryz.underlying5
  a5 := Tryz.isAgg5
  z5 := Tryz.sizeOf5
  v5 := Tryz.zeroValue5
  infoByte := by kernel_rfl
  cellsByte := by kernel_rfl
  sizeByte := by kernel_rfl
  neB5 := by decide }
open Go.RowKit in
theorem Tryz.strings_Join_none (a : Option Addr) (c : Nat) (sep : ByteArray) (w : World) :
    Calls Tryz.prog 43 #[.slice a 0 c, .string sep] w fun e w' => e = .returned (.string ⟨#[]⟩) ∧ w' = w := Any.strings_Join_none Tryz.lays156 Tryz.Builder_Extra_156 a c sep w
open Go.RowKit in
theorem Tryz.strings_Join (bk o c : Nat) (xs : List ByteArray) (sep : ByteArray) (w : World) (hcells : ∀ (j : Nat) x, xs[j]? = some x → w.cell? ⟨bk, o + j, none⟩ = some (.string x)) (hbk : bk < w.heap.size) (hN : xs.length ≤ 140737488355328) (hcap : xs.length ≤ c) (hlen : (Lib.join (xs.map (·.data.toList)) sep.data.toList).length ≤ 140737488355328) :
    Calls Tryz.prog 43 #[.slice (some ⟨bk, o, none⟩) xs.length c, .string sep] w fun e w' => e = .returned (.string ⟨(Lib.join (xs.map (·.data.toList)) sep.data.toList).toArray⟩) ∧ Below w.heap.size w w' := Any.strings_Join Tryz.lays156 Tryz.Builder_Extra_156 bk o c xs sep w hcells hbk hN hcap hlen
def Tryz.lays161_ren : Go.Shelf.Ren := ⟨fun | 161 => 30 | 231 => 52 | 227 => 53 | 233 => 54 | 235 => 55 | 228 => 82 | 197 => 83 | 151 => 84 | 260 => 105 | 152 => 106 | 137 => 116 | 119 => 117 | 224 => 118 | 225 => 119 | 217 => 128 | 266 => 133 | n => n, fun | 9 => 9 | 4 => 4 | 3 => 3 | 5 => 5 | 117 => 87 | 116 => 86 | 0 => 0 | 124 => 90 | 105 => 116 | 21 => 21 | 119 => 146 | 46 => 83 | 139 => 149 | 138 => 148 | n => n, fun | 3 => 3 | 4 => 4 | n => n⟩
theorem Tryz.lays161 : Go.Proofs.Lays.n161 Tryz.prog Tryz.lays161_ren := {
  mixed := by kernel_rfl
  f119 := Tryz.func117.trans (congrArg some (by kernel_rfl))
  f137 := Tryz.func116.trans (congrArg some (by kernel_rfl))
  f151 := Tryz.func84.trans (congrArg some (by kernel_rfl))
  f152 := Tryz.func106.trans (congrArg some (by kernel_rfl))
  f161 := Tryz.func30.trans (congrArg some (by kernel_rfl))
  f197 := Tryz.func83.trans (congrArg some (by kernel_rfl))
  f217 := Tryz.func128.trans (congrArg some (by kernel_rfl))
  f224 := Tryz.func118.trans (congrArg some (by kernel_rfl))
  f225 := Tryz.func119.trans (congrArg some (by kernel_rfl))
  f227 := Tryz.func53.trans (congrArg some (by kernel_rfl))
  f228 := Tryz.func82.trans (congrArg some (by kernel_rfl))
  f231 := Tryz.func52.trans (congrArg some (by kernel_rfl))
  f233 := Tryz.func54.trans (congrArg some (by kernel_rfl))
  f235 := Tryz.func55.trans (congrArg some (by kernel_rfl))
  f260 := Tryz.func105.trans (congrArg some (by kernel_rfl))
  f266 := Tryz.func133.trans (congrArg some (by kernel_rfl))
  t0 := Tryz.underlying0
  a0 := Tryz.isAgg0
  z0 := Tryz.sizeOf0
  v0 := Tryz.zeroValue0
  t3 := Tryz.underlying3
  a3 := Tryz.isAgg3
  z3 := Tryz.sizeOf3
  v3 := Tryz.zeroValue3
  t4 := Tryz.underlying4
  a4 := Tryz.isAgg4
  z4 := Tryz.sizeOf4
  v4 := Tryz.zeroValue4
  t5 := Tryz.underlying5
  a5 := Tryz.isAgg5
  z5 := Tryz.sizeOf5
  v5 := Tryz.zeroValue5
  t9 := Tryz.underlying9
  a9 := Tryz.isAgg9
  z9 := Tryz.sizeOf9
  v9 := Tryz.zeroValue9
  t21 := Tryz.underlying21
  a21 := Tryz.isAgg21
  z21 := Tryz.sizeOf21
  v21 := Tryz.zeroValue21
  t46 := Tryz.underlying83
  a46 := Tryz.isAgg83
  z46 := Tryz.sizeOf83
  v46 := Tryz.zeroValue83
  t105 := Tryz.underlying116
  a105 := Tryz.isAgg116
  z105 := Tryz.sizeOf116
  v105 := Tryz.zeroValue116
  t116 := Tryz.underlying86
  a116 := Tryz.isAgg86
  z116 := Tryz.sizeOf86
  t117 := Tryz.underlying87
  a117 := Tryz.isAgg87
  z117 := Tryz.sizeOf87
  v117 := Tryz.zeroValue87
  t119 := Tryz.underlying146
  a119 := Tryz.isAgg146
  z119 := Tryz.sizeOf146
  t124 := Tryz.underlying90
  a124 := Tryz.isAgg90
  z124 := Tryz.sizeOf90
  v124 := Tryz.zeroValue90
  t138 := Tryz.underlying148
  a138 := Tryz.isAgg148
  z138 := Tryz.sizeOf148
  v138 := Tryz.zeroValue148
  t139 := Tryz.underlying149
  a139 := Tryz.isAgg149
  z139 := Tryz.sizeOf149
  v139 := Tryz.zeroValue149
  g3 := by kernel_rfl
  g4 := by kernel_rfl }
open Go.RowKit in
theorem Tryz.strings_TrimLeft_one (s : ByteArray) (c : UInt8) (hc : c.toNat < 128) (w : World) :
    Calls Tryz.prog 30 #[.string s, .string ⟨#[c]⟩] w fun e w' => e = .returned (.string ⟨(Lib.trimLeftB s.data.toList c).toArray⟩) ∧ w' = w := Any.strings_TrimLeft_one Tryz.lays161 s c hc w
def Tryz.lays172_ren : Go.Shelf.Ren := ⟨fun | 172 => 33 | 244 => 58 | 245 => 59 | 247 => 86 | 279 => 87 | 280 => 88 | 281 => 89 | 282 => 90 | 287 => 107 | 316 => 108 | 171 => 66 | 205 => 109 | 321 => 120 | 322 => 121 | 243 => 96 | 246 => 112 | 283 => 124 | 284 => 125 | 285 => 126 | 286 => 127 | 129 => 81 | 317 => 129 | 318 => 130 | 319 => 131 | 320 => 132 | 337 => 134 | 338 => 135 | n => n, fun | 9 => 9 | 3 => 3 | 75 => 44 | 76 => 66 | 4 => 4 | 5 => 5 | 167 => 119 | 37 => 97 | 0 => 0 | 85 => 120 | 2 => 2 | 168 => 122 | 53 => 102 | 175 => 134 | 46 => 83 | 210 => 138 | 127 => 126 | 145 => 157 | 143 => 155 | 21 => 21 | 171 => 158 | 173 => 160 | 212 => 163 | 51 => 113 | 20 => 20 | 213 => 164 | 232 => 165 | 233 => 166 | 80 => 100 | n => n, fun | 15 => 1 | 16 => 2 | 17 => 6 | 18 => 7 | 19 => 8 | n => n⟩
theorem Tryz.lays172 : Go.Proofs.Lays.n172 Tryz.prog Tryz.lays172_ren := {
  mixed := by kernel_rfl
  f129 := Tryz.func81.trans (congrArg some (by kernel_rfl))
  f171 := Tryz.func66.trans (congrArg some (by kernel_rfl))
  f172 := Tryz.func33.trans (congrArg some (by kernel_rfl))
  f205 := Tryz.func109.trans (congrArg some (by kernel_rfl))
  f243 := Tryz.func96.trans (congrArg some (by kernel_rfl))
  f244 := Tryz.func58.trans (congrArg some (by kernel_rfl))
  f245 := Tryz.func59.trans (congrArg some (by kernel_rfl))
  f246 := Tryz.func112.trans (congrArg some (by kernel_rfl))
  f247 := Tryz.func86.trans (congrArg some (by kernel_rfl))
  f279 := Tryz.func87.trans (congrArg some (by kernel_rfl))
  f280 := Tryz.func88.trans (congrArg some (by kernel_rfl))
  f281 := Tryz.func89.trans (congrArg some (by kernel_rfl))
  f282 := Tryz.func90.trans (congrArg some (by kernel_rfl))
  f283 := Tryz.func124.trans (congrArg some (by kernel_rfl))
  f284 := Tryz.func125.trans (congrArg some (by kernel_rfl))
  f285 := Tryz.func126.trans (congrArg some (by kernel_rfl))
  f286 := Tryz.func127.trans (congrArg some (by kernel_rfl))
  f287 := Tryz.func107.trans (congrArg some (by kernel_rfl))
  f316 := Tryz.func108.trans (congrArg some (by kernel_rfl))
  f317 := Tryz.func129.trans (congrArg some (by kernel_rfl))
  f318 := Tryz.func130.trans (congrArg some (by kernel_rfl))
  f319 := Tryz.func131.trans (congrArg some (by kernel_rfl))
  f320 := Tryz.func132.trans (congrArg some (by kernel_rfl))
  f321 := Tryz.func120.trans (congrArg some (by kernel_rfl))
  f322 := Tryz.func121.trans (congrArg some (by kernel_rfl))
  f337 := Tryz.func134.trans (congrArg some (by kernel_rfl))
  f338 := Tryz.func135.trans (congrArg some (by kernel_rfl))
  t0 := Tryz.underlying0
  a0 := Tryz.isAgg0
  z0 := Tryz.sizeOf0
  v0 := Tryz.zeroValue0
  t2 := Tryz.underlying2
  a2 := Tryz.isAgg2
  z2 := Tryz.sizeOf2
  v2 := Tryz.zeroValue2
  t3 := Tryz.underlying3
  a3 := Tryz.isAgg3
  z3 := Tryz.sizeOf3
  v3 := Tryz.zeroValue3
  t4 := Tryz.underlying4
  a4 := Tryz.isAgg4
  z4 := Tryz.sizeOf4
  v4 := Tryz.zeroValue4
  t5 := Tryz.underlying5
  a5 := Tryz.isAgg5
  z5 := Tryz.sizeOf5
  v5 := Tryz.zeroValue5
  t9 := Tryz.underlying9
  a9 := Tryz.isAgg9
  z9 := Tryz.sizeOf9
  v9 := Tryz.zeroValue9
  t20 := Tryz.underlying20
  a20 := Tryz.isAgg20
  z20 := Tryz.sizeOf20
  v20 := Tryz.zeroValue20
  t21 := Tryz.underlying21
  a21 := Tryz.isAgg21
  z21 := Tryz.sizeOf21
  v21 := Tryz.zeroValue21
  t37 := Tryz.underlying97
  a37 := Tryz.isAgg97
  z37 := Tryz.sizeOf97
  v37 := Tryz.zeroValue97
  t46 := Tryz.underlying83
  a46 := Tryz.isAgg83
  z46 := Tryz.sizeOf83
  v46 := Tryz.zeroValue83
  t51 := Tryz.underlying113
  a51 := Tryz.isAgg113
  z51 := Tryz.sizeOf113
  v51 := Tryz.zeroValue113
  t53 := Tryz.underlying102
  a53 := Tryz.isAgg102
  z53 := Tryz.sizeOf102
  v53 := Tryz.zeroValue102
  t75 := Tryz.underlying44
  a75 := Tryz.isAgg44
  z75 := Tryz.sizeOf44
  v75 := Tryz.zeroValue44
  t76 := Tryz.underlying66
  a76 := Tryz.isAgg66
  z76 := Tryz.sizeOf66
  v76 := Tryz.zeroValue66
  t85 := Tryz.underlying120
  a85 := Tryz.isAgg120
  z85 := Tryz.sizeOf120
  v85 := Tryz.zeroValue120
  t127 := Tryz.underlying126
  a127 := Tryz.isAgg126
  z127 := Tryz.sizeOf126
  v127 := Tryz.zeroValue126
  t143 := Tryz.underlying155
  a143 := Tryz.isAgg155
  z143 := Tryz.sizeOf155
  v143 := Tryz.zeroValue155
  t145 := Tryz.underlying157
  a145 := Tryz.isAgg157
  z145 := Tryz.sizeOf157
  v145 := Tryz.zeroValue157
  t167 := Tryz.underlying119
  a167 := Tryz.isAgg119
  z167 := Tryz.sizeOf119
  v167 := Tryz.zeroValue119
  t168 := Tryz.underlying122
  a168 := Tryz.isAgg122
  z168 := Tryz.sizeOf122
  v168 := Tryz.zeroValue122
  t171 := Tryz.underlying158
  a171 := Tryz.isAgg158
  z171 := Tryz.sizeOf158
  v171 := Tryz.zeroValue158
  t173 := Tryz.underlying160
  a173 := Tryz.isAgg160
  z173 := Tryz.sizeOf160
  v173 := Tryz.zeroValue160
  t175 := Tryz.underlying134
  a175 := Tryz.isAgg134
  z175 := Tryz.sizeOf134
  v175 := Tryz.zeroValue134
  t210 := Tryz.underlying138
  a210 := Tryz.isAgg138
  z210 := Tryz.sizeOf138
  v210 := Tryz.zeroValue138
  t212 := Tryz.underlying163
  a212 := Tryz.isAgg163
  z212 := Tryz.sizeOf163
  v212 := Tryz.zeroValue163
  t213 := Tryz.underlying164
  a213 := Tryz.isAgg164
  z213 := Tryz.sizeOf164
  t232 := Tryz.underlying165
  a232 := Tryz.isAgg165
  z232 := Tryz.sizeOf165
  v232 := Tryz.zeroValue165
  t233 := Tryz.underlying166
  a233 := Tryz.isAgg166
  z233 := Tryz.sizeOf166
  v233 := Tryz.zeroValue166
  g15 := by kernel_rfl
  g16 := by kernel_rfl
  g17 := by kernel_rfl
  g18 := by kernel_rfl
  g19 := by kernel_rfl }
open Go.RowKit in
theorem Tryz.strconv_Atoi (s : ByteArray) (n : Int) (hl : s.size ≤ 18) (h : Lib.atoi s.data.toList = some n) (w : World) :
    Calls Tryz.prog 33 #[.string s] w fun e w' => e = .returned (.tuple #[.int .i64 n, .nilIface]) ∧ ∃ t, w' = Lib.bytesWorld w 5 t := Any.strconv_Atoi Tryz.lays172 s n hl h w
def Tryz.laysM171_ren : Go.Shelf.Ren := ⟨fun | 171 => 66 | 243 => 96 | 246 => 112 | 283 => 124 | 284 => 125 | 285 => 126 | 286 => 127 | 129 => 81 | 317 => 129 | 318 => 130 | 319 => 131 | 320 => 132 | 337 => 134 | 338 => 135 | n => n, fun | 3 => 3 | 9 => 9 | 2 => 2 | 4 => 4 | 171 => 158 | 0 => 0 | 53 => 102 | 37 => 97 | 5 => 5 | 173 => 160 | 212 => 163 | 51 => 113 | 20 => 20 | 213 => 164 | 46 => 83 | 232 => 165 | 233 => 166 | n => n, fun | 17 => 6 | 18 => 7 | 19 => 8 | n => n⟩
theorem Tryz.laysM171 : Go.Proofs.LaysM.n171 Tryz.prog Tryz.laysM171_ren := {
  mixed := by kernel_rfl
  f129 := Tryz.func81.trans (congrArg some (by kernel_rfl))
  f171 := Tryz.func66.trans (congrArg some (by kernel_rfl))
  f243 := Tryz.func96.trans (congrArg some (by kernel_rfl))
  f246 := Tryz.func112.trans (congrArg some (by kernel_rfl))
  f283 := Tryz.func124.trans (congrArg some (by kernel_rfl))
  f284 := Tryz.func125.trans (congrArg some (by kernel_rfl))
  f285 := Tryz.func126.trans (congrArg some (by kernel_rfl))
  f286 := Tryz.func127.trans (congrArg some (by kernel_rfl))
  f317 := Tryz.func129.trans (congrArg some (by kernel_rfl))
  f318 := Tryz.func130.trans (congrArg some (by kernel_rfl))
  f319 := Tryz.func131.trans (congrArg some (by kernel_rfl))
  f320 := Tryz.func132.trans (congrArg some (by kernel_rfl))
  f337 := Tryz.func134.trans (congrArg some (by kernel_rfl))
  f338 := Tryz.func135.trans (congrArg some (by kernel_rfl))
  t0 := Tryz.underlying0
  a0 := Tryz.isAgg0
  z0 := Tryz.sizeOf0
  v0 := Tryz.zeroValue0
  t2 := Tryz.underlying2
  a2 := Tryz.isAgg2
  z2 := Tryz.sizeOf2
  v2 := Tryz.zeroValue2
  t3 := Tryz.underlying3
  a3 := Tryz.isAgg3
  z3 := Tryz.sizeOf3
  v3 := Tryz.zeroValue3
  t4 := Tryz.underlying4
  a4 := Tryz.isAgg4
  z4 := Tryz.sizeOf4
  v4 := Tryz.zeroValue4
  t5 := Tryz.underlying5
  a5 := Tryz.isAgg5
  z5 := Tryz.sizeOf5
  v5 := Tryz.zeroValue5
  t9 := Tryz.underlying9
  a9 := Tryz.isAgg9
  z9 := Tryz.sizeOf9
  v9 := Tryz.zeroValue9
  t20 := Tryz.underlying20
  a20 := Tryz.isAgg20
  z20 := Tryz.sizeOf20
  v20 := Tryz.zeroValue20
  t37 := Tryz.underlying97
  a37 := Tryz.isAgg97
  z37 := Tryz.sizeOf97
  v37 := Tryz.zeroValue97
  t46 := Tryz.underlying83
  a46 := Tryz.isAgg83
  z46 := Tryz.sizeOf83
  v46 := Tryz.zeroValue83
  t51 := Tryz.underlying113
  a51 := Tryz.isAgg113
  z51 := Tryz.sizeOf113
  v51 := Tryz.zeroValue113
  t53 := Tryz.underlying102
  a53 := Tryz.isAgg102
  z53 := Tryz.sizeOf102
  v53 := Tryz.zeroValue102
  t171 := Tryz.underlying158
  a171 := Tryz.isAgg158
  z171 := Tryz.sizeOf158
  v171 := Tryz.zeroValue158
  t173 := Tryz.underlying160
  a173 := Tryz.isAgg160
  z173 := Tryz.sizeOf160
  v173 := Tryz.zeroValue160
  t212 := Tryz.underlying163
  a212 := Tryz.isAgg163
  z212 := Tryz.sizeOf163
  v212 := Tryz.zeroValue163
  t213 := Tryz.underlying164
  a213 := Tryz.isAgg164
  z213 := Tryz.sizeOf164
  t232 := Tryz.underlying165
  a232 := Tryz.isAgg165
  z232 := Tryz.sizeOf165
  v232 := Tryz.zeroValue165
  t233 := Tryz.underlying166
  a233 := Tryz.isAgg166
  z233 := Tryz.sizeOf166
  v233 := Tryz.zeroValue166
  g17 := by kernel_rfl
  g18 := by kernel_rfl
  g19 := by kernel_rfl
  i0 := by kernel_rfl
  i2 := by kernel_rfl
  i3 := by kernel_rfl
  i4 := by kernel_rfl
  i5 := by kernel_rfl
  i9 := by kernel_rfl
  i20 := by kernel_rfl
  i37 := by kernel_rfl
  i46 := by kernel_rfl
  i51 := by kernel_rfl
  i53 := by kernel_rfl
  i171 := by kernel_rfl
  i173 := by kernel_rfl
  i212 := by kernel_rfl
  i232 := by kernel_rfl
  i233 := by kernel_rfl
  m17 := by kernel_rfl
  m18 := by kernel_rfl
  m19 := by kernel_rfl }
open Go.RowKit Go.Sort Go.Lib in
theorem Tryz.strconv_Itoa (n : Int) (h0 : -9223372036854775808 ≤ n) (h1 : n ≤ 9223372036854775807) (w : World) (htab : Lib.TabIs Tryz.prog w "internal/strconv.uint64pow10" .u64 Lib.pow10Tab) :
    Calls Tryz.prog 66 #[.int .i64 n] w fun e w' => e = .returned (.string ⟨(Lib.itoa n).toArray⟩) ∧ ∃ k os, w' = grow (w.drewN k) os := Any.strconv_Itoa Tryz.laysM171 n h0 h1 w htab
def Tryz.lays189_ren : Go.Shelf.Ren := ⟨fun | 189 => 28 | 125 => 51 | 257 => 50 | 128 => 80 | 129 => 81 | 294 => 71 | 295 => 72 | 296 => 73 | 297 => 74 | 298 => 75 | 299 => 76 | 216 => 77 | 300 => 78 | 301 => 79 | 328 => 99 | 329 => 100 | 330 => 101 | 331 => 102 | 332 => 103 | 215 => 104 | 343 => 115 | n => n, fun | 28 => 36 | 3 => 3 | 46 => 83 | 0 => 0 | 51 => 113 | 53 => 102 | 4 => 4 | 183 => 105 | 182 => 104 | 131 => 110 | 5 => 5 | 9 => 9 | 218 => 127 | 222 => 131 | 228 => 144 | 229 => 64 | n => n, fun | n => n⟩
theorem Tryz.lays189 : Go.Proofs.Lays.n189 Tryz.prog Tryz.lays189_ren := {
  mixed := by kernel_rfl
  f125 := Tryz.func51.trans (congrArg some (by kernel_rfl))
  f128 := Tryz.func80.trans (congrArg some (by kernel_rfl))
  f129 := Tryz.func81.trans (congrArg some (by kernel_rfl))
  f189 := Tryz.func28.trans (congrArg some (by kernel_rfl))
  f215 := Tryz.func104.trans (congrArg some (by kernel_rfl))
  f216 := Tryz.func77.trans (congrArg some (by kernel_rfl))
  f257 := Tryz.func50.trans (congrArg some (by kernel_rfl))
  f294 := Tryz.func71.trans (congrArg some (by kernel_rfl))
  f295 := Tryz.func72.trans (congrArg some (by kernel_rfl))
  f296 := Tryz.func73.trans (congrArg some (by kernel_rfl))
  f297 := Tryz.func74.trans (congrArg some (by kernel_rfl))
  f298 := Tryz.func75.trans (congrArg some (by kernel_rfl))
  f299 := Tryz.func76.trans (congrArg some (by kernel_rfl))
  f300 := Tryz.func78.trans (congrArg some (by kernel_rfl))
  f301 := Tryz.func79.trans (congrArg some (by kernel_rfl))
  f328 := Tryz.func99.trans (congrArg some (by kernel_rfl))
  f329 := Tryz.func100.trans (congrArg some (by kernel_rfl))
  f330 := Tryz.func101.trans (congrArg some (by kernel_rfl))
  f331 := Tryz.func102.trans (congrArg some (by kernel_rfl))
  f332 := Tryz.func103.trans (congrArg some (by kernel_rfl))
  f343 := Tryz.func115.trans (congrArg some (by kernel_rfl))
  t0 := Tryz.underlying0
  a0 := Tryz.isAgg0
  z0 := Tryz.sizeOf0
  v0 := Tryz.zeroValue0
  t3 := Tryz.underlying3
  a3 := Tryz.isAgg3
  z3 := Tryz.sizeOf3
  v3 := Tryz.zeroValue3
  t4 := Tryz.underlying4
  a4 := Tryz.isAgg4
  z4 := Tryz.sizeOf4
  v4 := Tryz.zeroValue4
  t5 := Tryz.underlying5
  a5 := Tryz.isAgg5
  z5 := Tryz.sizeOf5
  v5 := Tryz.zeroValue5
  t9 := Tryz.underlying9
  a9 := Tryz.isAgg9
  z9 := Tryz.sizeOf9
  v9 := Tryz.zeroValue9
  t28 := Tryz.underlying36
  a28 := Tryz.isAgg36
  z28 := Tryz.sizeOf36
  v28 := Tryz.zeroValue36
  t46 := Tryz.underlying83
  a46 := Tryz.isAgg83
  z46 := Tryz.sizeOf83
  v46 := Tryz.zeroValue83
  t51 := Tryz.underlying113
  a51 := Tryz.isAgg113
  z51 := Tryz.sizeOf113
  v51 := Tryz.zeroValue113
  t53 := Tryz.underlying102
  a53 := Tryz.isAgg102
  z53 := Tryz.sizeOf102
  v53 := Tryz.zeroValue102
  t131 := Tryz.underlying110
  a131 := Tryz.isAgg110
  z131 := Tryz.sizeOf110
  v131 := Tryz.zeroValue110
  t182 := Tryz.underlying104
  a182 := Tryz.isAgg104
  z182 := Tryz.sizeOf104
  v182 := Tryz.zeroValue104
  t183 := Tryz.underlying105
  a183 := Tryz.isAgg105
  z183 := Tryz.sizeOf105
  v183 := Tryz.zeroValue105
  t218 := Tryz.underlying127
  a218 := Tryz.isAgg127
  z218 := Tryz.sizeOf127
  v218 := Tryz.zeroValue127
  t222 := Tryz.underlying131
  a222 := Tryz.isAgg131
  z222 := Tryz.sizeOf131
  v222 := Tryz.zeroValue131
  t228 := Tryz.underlying144
  a228 := Tryz.isAgg144
  z228 := Tryz.sizeOf144
  v228 := Tryz.zeroValue144
  t229 := Tryz.underlying64
  a229 := Tryz.isAgg64
  z229 := Tryz.sizeOf64
  v229 := Tryz.zeroValue64 }
open Go.Sort Go.RowKit in
theorem Tryz.slices_Sort_int (blk off cap : Nat) (zs : List Int) (w : World) (hH : Holds (Value.int .i64) w blk off zs.toArray) (hblk : blk < w.heap.size) (hsz : zs.length < 4611686018427387904) :
    Calls Tryz.prog 28 #[.slice (some ⟨blk, off, none⟩) zs.length cap] w fun e w' =>
      e = .returned (.tuple #[]) ∧ ∃ n os, w' = grow (putRow (Value.int .i64) (Sort.ahead w n) blk off (zs.mergeSort fun x y => decide (x ≤ y)).toArray) os := Any.slices_Sort_int Tryz.lays189 blk off cap zs w hH hblk hsz
def Tryz.lays99_ren : Go.Shelf.Ren := ⟨fun | 99 => 57 | 206 => 85 | n => n, fun | 9 => 9 | 4 => 4 | 3 => 3 | n => n, fun | n => n⟩
theorem Tryz.lays99 : Go.Proofs.Lays.n99 Tryz.prog Tryz.lays99_ren := {
  mixed := by kernel_rfl
  f99 := Tryz.func57.trans (congrArg some (by kernel_rfl))
  f206 := Tryz.func85.trans (congrArg some (by kernel_rfl))
  t3 := Tryz.underlying3
  a3 := Tryz.isAgg3
  z3 := Tryz.sizeOf3
  v3 := Tryz.zeroValue3
  t4 := Tryz.underlying4
  a4 := Tryz.isAgg4
  z4 := Tryz.sizeOf4
  v4 := Tryz.zeroValue4
  t9 := Tryz.underlying9
  a9 := Tryz.isAgg9
  z9 := Tryz.sizeOf9
  v9 := Tryz.zeroValue9 }
open Go.RowKit Go.Lib in
theorem Tryz.strings_HasPrefix (s p : ByteArray) (w : World) :
    Calls Tryz.prog 57 #[.string s, .string p] w fun e w' => e = .returned (.bool (Lib.hasPrefix s.data.toList p.data.toList)) ∧ w' = w := Any.strings_HasPrefix Tryz.lays99 s p w
def Tryz.laysNm220_ren : Go.Shelf.Ren := ⟨fun | 20 => 29 | n => n, fun | 22 => 36 | 3 => 3 | 4 => 4 | 0 => 0 | n => n, fun | n => n⟩
theorem Tryz.laysNm220 : Go.Proofs.Lays2.n20 Tryz.prog Tryz.laysNm220_ren := {
  mixed := by kernel_rfl
  f20 := Tryz.func29.trans (congrArg some (by kernel_rfl))
  t0 := Tryz.underlying0
  a0 := Tryz.isAgg0
  z0 := Tryz.sizeOf0
  v0 := Tryz.zeroValue0
  t3 := Tryz.underlying3
  a3 := Tryz.isAgg3
  z3 := Tryz.sizeOf3
  v3 := Tryz.zeroValue3
  t4 := Tryz.underlying4
  a4 := Tryz.isAgg4
  z4 := Tryz.sizeOf4
  v4 := Tryz.zeroValue4
  t22 := Tryz.underlying36
  a22 := Tryz.isAgg36
  z22 := Tryz.sizeOf36
  v22 := Tryz.zeroValue36
  i3 := by kernel_rfl }
open Go.RowKit Go.Lib Go.Sort in
theorem Tryz.slices_Compact_int (blk off cap : Nat) (zs : List Int) (w : World) (hH : Holds (Value.int .i64) w blk off zs.toArray) (hsz : zs.length ≤ 9223372036854775807) (hcap : zs.length ≤ cap) :
    Calls Tryz.prog 29 #[.slice (some ⟨blk, off, none⟩) zs.length cap] w fun e w' => e = .returned (.slice (some ⟨blk, off, none⟩) (Lib.compact zs).length cap) ∧ ∃ q, w' = putRow (Value.int .i64) (Sort.ahead w q) blk off (Lib.compact zs ++ List.replicate (zs.length - (Lib.compact zs).length) 0).toArray := Any.slices_Compact_int Tryz.laysNm220 blk off cap zs w hH hsz hcap
open Go.RowKit Go.Lib Go.Sort in
theorem Tryz.slices_Compact_int_empty (a : Option Addr) (cap : Nat) (w : World) :
    Calls Tryz.prog 29 #[.slice a 0 cap] w fun e w' => e = .returned (.slice a 0 cap) ∧ w' = w := Any.slices_Compact_int_empty Tryz.laysNm220 a cap w
open Go.RowKit Go.Sort in
theorem Tryz.slices_Sort_int_none (p : Option Addr) (cap : Nat) (w : World) :
    Calls Tryz.prog 28 #[.slice p 0 cap] w fun e w' => e = .returned (.tuple #[]) ∧ w' = w := Any.slices_Sort_int_none Tryz.lays189 p cap w
open Go.RowKit in
theorem Tryz.strings_TrimLeft_set (s cutset : ByteArray) (w : World) (hcs : cutset.size < 4294967281) (hascii : ∀ (j : Nat) b, cutset.data.toList[j]? = some b → b.toNat < 128) :
    Calls Tryz.prog 30 #[.string s, .string cutset] w fun e w' => e = .returned (.string ⟨(Lib.trimLeftS s.data.toList cutset.data.toList).toArray⟩) ∧ Below w.heap.size w w' :=
  Any.strings_TrimLeft_laid Tryz.lays161 (by kernel_rfl) s cutset w hcs hascii
end Go.Proofs
