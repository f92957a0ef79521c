/- Parts of the proof of LawGuardWrong: words, contracts of the functions, plain laws. -/
import Derived.Test.YtikbgoppmailjaaDoorProg
import Derived.Below
import Derived.Deep.Draws
import Derived.Deep.AppendLies
import Derived.Maps.AppendAt
import Derived.OwnWalk
import Derived.Laws.BytesArg
import Derived.Laws.MakeOwn
import Derived.Laws.OwnMore
import Derived.Deep.OwnRows
import Derived.Tactics
import Derived.Lib.ConvBytes
import Derived.Laws.Slices
import Derived.WalkKit
import Derived.KernelRfl
import Derived.RowKit3
import Derived.Deep.LoopGhost
import Derived.Deep.QuietTactic
import Derived.BigQuiet
import Derived.WideLaws
import Derived.Deep.DeepCutAuto
import Derived.Deep.CutBlock
import Derived.Deep.RegionHeld3
import Derived.Laws.Rows
import Derived.Lib.AppendStr
import Derived.ArgAppend
import Derived.Laws.IdiomCopy
import Derived.OrdersHeld
import Derived.Laws.BitsLemmas
import Derived.RowKit
import Derived.Test.YtikbgoppmailjaaDoorXA01
import Derived.Great.Walk
import Derived.Deep.WholeRow
import Derived.ScopeJumps
import Derived.Laws.NewBlocks
import Derived.Laws.Tables
import Derived.Shelf.Strings.Builder1
import Derived.Shelf.Strings.Builder2
import Derived.Shelf.Strings.OnBuilder
import Derived.Shelf.Strings.Trim
import Derived.Shelf.Small.Utf8
import Derived.Shelf.Small.Strs
import Derived.Shelf.Strconv.Atoi
import Derived.Shelf.Strconv.Itoa0
import Derived.Shelf.Strconv.Itoa1
import Derived.Shelf.LaysM
import Derived.Shelf.Strconv.Itoa2
import Derived.Shelf.Strconv.Itoa3
import Derived.Shelf.Strconv.AtoiErrFast
import Derived.Shelf.Strconv.ParseIntEmpty
import Derived.Shelf.Strconv.AtoiFail
import Derived.Shelf.Strconv.Clone
import Derived.Shelf.Strconv.SyntaxError
import Derived.Shelf.LaysC
import Derived.Shelf.Strconv.ToError
import Derived.Shelf.Strconv.Lower
import Derived.Shelf.Strconv.ParseUint10
import Derived.Shelf.Strconv.ParseUint10Empty
import Derived.Shelf.Strconv.ParseUint10Any
import Derived.Shelf.Strconv.ParseInt10
import Derived.Shelf.Strconv.AtoiLong
import Derived.Shelf.Strconv.AtoiInnerAll
import Derived.Shelf.Strconv.RangeError
import Derived.Shelf.Strconv.ToErrorRange
import Derived.Shelf.Strconv.AtoiAll
import Derived.Shelf.Strings.Search1
import Derived.Shelf.Strings.Prefix
import Derived.Shelf.Strings.Runes
import Derived.Shelf.Strings.AsciiSet
import Derived.Shelf.Unicode.DecodeSlow
import Derived.Shelf.Slices.Turned
import Derived.Shelf.Strings.SlTrimAscii
import Derived.WalkSmall
import Derived.Sort.Grow
-- Written by hp.py (a program of this session, over the kit's print.py), with hand-made contracts beside it.
namespace Go.Proofs.YtikbgoppmailjaaDoor.H
open Go.RowKit Go.Proofs.YtikbgoppmailjaaDoorW.PrintWords Go.Proofs.YtikbgoppmailjaaDoorW.PrintLast Go.Proofs.YtikbgoppmailjaaDoorW.PrintMore
attribute [local go_sem] max2_int min2_int max_two min_two max_three min_three max_four min_four   -- for this text's walks alone
set_option linter.unusedVariables false
set_option linter.unusedSimpArgs false



def errW : Option Int → Value
  | none => .nilIface
  | some c => .iface 0 (.int .i64 c)
theorem errW_none : errW none = .nilIface := rfl
theorem errW_some (c : Int) : errW (some c) = .iface 0 (.int .i64 c) := rfl

theorem info4 : (Tryd.prog.info? 4).map (fun i => (i.zero, i.size, i.bytes)) = some (some (.bool false), 1, 1) := by kernel_rfl
theorem info9 : (Tryd.prog.info? 9).map (fun i => (i.zero, i.size, i.bytes)) = some (some (.string ⟨#[]⟩), 1, 16) := by kernel_rfl
theorem info33 : (Tryd.prog.info? 33).map (fun i => (i.zero, i.size, i.bytes)) = some (some (.agg #[(.int .i64 0), (.int .i64 0)]), 2, 16) := by kernel_rfl
-- the values' own types
/-! #### struct type 33 -/
structure S33 where
  f0 : Int
  f1 : Int
def z33 : S33 := ⟨(0 : Int), (0 : Int)⟩
def k33 : Kd S33 := Kd.iso (Kd.pair (Kd.int .i64) (Kd.int .i64)) (fun x : S33 => (x.f0, x.f1))
theorem k33_open {w : World} {x : S33} {cs : List Value} (h : k33.K w x cs) : cs = [.int .i64 x.f0, .int .i64 x.f1] := by
  obtain ⟨_, _, rfl, rfl, rfl⟩ := h
  exact rfl
theorem k33_mkM (w : World) (base : Nat) (ok : Nat → Prop) (x : S33)  : k33.M w base ok x [.int .i64 x.f0, .int .i64 x.f1] := ⟨[.int .i64 x.f0], [.int .i64 x.f1], rfl, rfl, rfl⟩
def rd_T33 (xs : List S33) (i : Int) : S33 := xs.getD i.toNat z33
theorem at_T33 {w : World} {A : Option Addr} {n : Nat} {xs : List S33} (h : Kd.C k33 w A n xs) (i : Int) (h0 : 0 ≤ i) (h1 : i < n) : ∃ ad , A = some ad ∧ w.cell? (ad.add (i.toNat * 2)) = some (.int .i64 (rd_T33 xs i).f0) ∧ w.cell? ⟨(ad.add (i.toNat * 2)).block, (ad.add (i.toNat * 2)).off + 1, none⟩ = some (.int .i64 (rd_T33 xs i).f1) := by
  obtain ⟨ad, c, e, _, hK, hc0⟩ := Kd.C_get h z33 i h0 h1
  have hc : ∀ j u, c[j]? = some u → w.cell? (ad.add (i.toNat * 2 + j)) = some u := hc0
  obtain rfl := k33_open hK
  exact ⟨ad, e, hc 0 _ rfl, by rw [← add_field _ _ 1 (by omega)]; exact hc 1 _ rfl⟩

def rd_L4 (xs : List (List ByteArray)) (i : Int) : (List ByteArray) := xs.getD i.toNat ([] : List ByteArray)
def rd_L5 (xs : List (List S33)) (i : Int) : (List S33) := xs.getD i.toNat ([] : List S33)
end Go.Proofs.YtikbgoppmailjaaDoor.H
-- Written by hp.py (a program of this session, over the kit's print.py), with hand-made contracts beside it.
namespace Go.Proofs.YtikbgoppmailjaaDoor.H
open Go.RowKit Go.Proofs.YtikbgoppmailjaaDoorW.PrintWords Go.Proofs.YtikbgoppmailjaaDoorW.PrintLast Go.Proofs.YtikbgoppmailjaaDoorW.PrintMore
attribute [local go_sem] max2_int min2_int max_two min_two max_three min_three max_four min_four   -- for this text's walks alone
set_option linter.unusedVariables false
set_option linter.unusedSimpArgs false

/-! ### guard_sums: function 25 -/
def guard_sums.f (a0 : Int) : Option (Bool) := if a0 = 3 then (some true) else (some (a0 == 4))
set_option maxHeartbeats 8000000 in
set_option maxRecDepth 100000 in
theorem guard_sums.calls (a0 : Int) (r : Bool) (w : World) (h : guard_sums.f a0 = some r) :
    Calls Tryd.prog 25 #[.int .i64 a0] w fun e w' => e = .returned (.bool r) ∧ Drawn0 w w' := by
  have H : (if a0 = 3 then (some true) else (some (a0 == 4))) = some r := h
  clear h
  by_cases c2 : a0 = 3
  · rw [if_pos c2] at H
    have c2b0 : (a0 == 3) = true := beq_iff_eq.mpr c2
    have c2b1 : (a0 != 3) = false := bne_eq_false_iff_eq.mpr c2
    clear c2
    obtain rfl := Option.some.inj H
    go_enter Tryd.func25, Tryd.ntmps25
    go_wp2
    go_ret
    exact ⟨by first | rfl | (simp; done) | (simp [*]; done), by repeat (first | exact Drawn0.refl _ | apply Drawn0.step)⟩
  · rw [if_neg c2] at H
    have c2b0 : (a0 == 3) = false := beq_eq_false_iff_ne.mpr c2
    have c2b1 : (a0 != 3) = true := bne_iff_ne.mpr c2
    obtain rfl := Option.some.inj H
    go_enter Tryd.func25, Tryd.ntmps25
    go_wp2
    go_ret
    exact ⟨by first | rfl | (simp; done) | (simp [*]; done), by repeat (first | exact Drawn0.refl _ | apply Drawn0.step)⟩

/-! ### guard_compares: function 26 -/
def guard_compares.f (a0 : Int) : Option (Bool) := if a0 ≥ 6 then (some (decide (a0 ≤ 11))) else (some false)
set_option maxHeartbeats 8000000 in
set_option maxRecDepth 100000 in
theorem guard_compares.calls (a0 : Int) (r : Bool) (w : World) (h : guard_compares.f a0 = some r) :
    Calls Tryd.prog 26 #[.int .i64 a0] w fun e w' => e = .returned (.bool r) ∧ Drawn0 w w' := by
  have H : (if a0 ≥ 6 then (some (decide (a0 ≤ 11))) else (some false)) = some r := h
  clear h
  by_cases c2 : a0 ≥ 6
  · rw [if_pos c2] at H
    have c2b0 : decide (6 ≤ a0) = true := decide_eq_true c2
    clear c2
    obtain rfl := Option.some.inj H
    go_enter Tryd.func26, Tryd.ntmps26
    go_wp2
    go_ret
    exact ⟨by first | rfl | (simp; done) | (simp [*]; done), by repeat (first | exact Drawn0.refl _ | apply Drawn0.step)⟩
  · rw [if_neg c2] at H
    have c2b0 : decide (6 ≤ a0) = false := decide_eq_false c2
    clear c2
    obtain rfl := Option.some.inj H
    go_enter Tryd.func26, Tryd.ntmps26
    go_wp2
    go_ret
    exact ⟨by first | rfl | (simp; done) | (simp [*]; done), by repeat (first | exact Drawn0.refl _ | apply Drawn0.step)⟩

end Go.Proofs.YtikbgoppmailjaaDoor.H
-- Written by hp.py (a program of this session, over the kit's print.py), with hand-made contracts beside it.
namespace Go.Proofs.YtikbgoppmailjaaDoor.H
open Go.RowKit Go.Proofs.YtikbgoppmailjaaDoorW.PrintWords Go.Proofs.YtikbgoppmailjaaDoorW.PrintLast Go.Proofs.YtikbgoppmailjaaDoorW.PrintMore
attribute [local go_sem] max2_int min2_int max_two min_two max_three min_three max_four min_four   -- for this text's walks alone
set_option linter.unusedVariables false
set_option linter.unusedSimpArgs false

/-! ### guard_takes: function 15 -/
mutual
def guard_takes.j0 : Nat → Bool → Int → Int → Option (Int × Bool × Bool)
  | 0, _, _, _ => none
  | k + 1, x5, x102000, x102001 => if x5 = true then (guard_takes.j1 k x5 x102000 x102001) else (if x102000 = 2 then (if x102001 ≥ 0 then (guard_takes.j1 k (decide (x102001 < 26)) x102000 x102001) else (guard_takes.j1 k false x102000 x102001)) else (guard_takes.j1 k false x102000 x102001))
def guard_takes.j1 : Nat → Bool → Int → Int → Option (Int × Bool × Bool)
  | 0, _, _, _ => none
  | k + 1, x5, x102000, x102001 => if x5 = true then (some (0, false, false)) else (if x102000 = 1 then (guard_takes.j2 k (x102000 == 1) x102000 x102001) else (if x102000 = 2 then (guard_takes.j2 k (x102000 == 2) x102000 x102001) else (guard_takes.j2 k (x102001 != 0) x102000 x102001)))
def guard_takes.j2 : Nat → Bool → Int → Int → Option (Int × Bool × Bool)
  | 0, _, _, _ => none
  | k + 1, x32, x102000, x102001 => if x32 = true then (some ((-1), false, false)) else (if x102000 = 19 then (some (1, false, false)) else ((guard_sums.f x102000).bind fun t102 => (if t102 = true then (guard_takes.j3 k t102 x102000 x102001) else (guard_takes.j3 k (x102000 == 5) x102000 x102001))))
def guard_takes.j3 : Nat → Bool → Int → Int → Option (Int × Bool × Bool)
  | 0, _, _, _ => none
  | k + 1, x46, x102000, x102001 => if x46 = true then (some (2, false, false)) else ((guard_compares.f x102000).bind fun t103 => (if t103 = true then (some (2, false, true)) else (if x102000 = 12 then (guard_takes.j4 k (x102000 == 12) x102000 x102001) else (guard_takes.j4 k (x102000 == 13) x102000 x102001))))
def guard_takes.j4 : Nat → Bool → Int → Int → Option (Int × Bool × Bool)
  | 0, _, _, _ => none
  | k + 1, x57, x102000, x102001 => if x57 = true then (some (2, true, true)) else (if x102000 = 14 then (some (1, true, true)) else (some ((-1), false, false)))
end
def guard_takes.f (k : Nat) (a0_0 : Int) (a0_1 : Int) : Option (Int × Bool × Bool) := if a0_0 = 1 then (if a0_1 ≥ 0 then (guard_takes.j0 k (decide (a0_1 ≤ 2147483647)) a0_0 a0_1) else (guard_takes.j0 k false a0_0 a0_1)) else (guard_takes.j0 k false a0_0 a0_1)
theorem guard_takes.mono_l : ∀ k, (∀ y0 y1 y2, LeO (guard_takes.j0 k y0 y1 y2) (guard_takes.j0 (k + 1) y0 y1 y2)) ∧ (∀ y0 y1 y2, LeO (guard_takes.j1 k y0 y1 y2) (guard_takes.j1 (k + 1) y0 y1 y2)) ∧ (∀ y0 y1 y2, LeO (guard_takes.j2 k y0 y1 y2) (guard_takes.j2 (k + 1) y0 y1 y2)) ∧ (∀ y0 y1 y2, LeO (guard_takes.j3 k y0 y1 y2) (guard_takes.j3 (k + 1) y0 y1 y2)) ∧ (∀ y0 y1 y2, LeO (guard_takes.j4 k y0 y1 y2) (guard_takes.j4 (k + 1) y0 y1 y2))
  | 0 => ⟨fun _ _ _ r h => by simp [guard_takes.j0] at h, fun _ _ _ r h => by simp [guard_takes.j1] at h, fun _ _ _ r h => by simp [guard_takes.j2] at h, fun _ _ _ r h => by simp [guard_takes.j3] at h, fun _ _ _ r h => by simp [guard_takes.j4] at h⟩
  | k + 1 => by
    obtain ⟨ih0, ih1, ih2, ih3, ih4⟩ := guard_takes.mono_l k
    refine ⟨?_, ?_, ?_, ?_, ?_⟩
    · intro y0 y1 y2
      unfold guard_takes.j0
      repeat' first
      | (with_reducible exact ih0 _ _ _)
      | (with_reducible exact ih1 _ _ _)
      | (with_reducible exact ih2 _ _ _)
      | (with_reducible exact ih3 _ _ _)
      | (with_reducible exact ih4 _ _ _)
      | (with_reducible exact LeO.refl _)
      | (with_reducible exact LeO.none _)
      | (with_reducible refine LeO.ite ?_ ?_)
      | (with_reducible refine LeO.bind ?_ (fun _ => ?_))
      | exact ih0 _ _ _
      | exact ih1 _ _ _
      | exact ih2 _ _ _
      | exact ih3 _ _ _
      | exact ih4 _ _ _
      | exact LeO.none _
      | refine LeO.ite ?_ ?_
      | refine LeO.bind ?_ (fun _ => ?_)
    · intro y0 y1 y2
      unfold guard_takes.j1
      repeat' first
      | (with_reducible exact ih0 _ _ _)
      | (with_reducible exact ih1 _ _ _)
      | (with_reducible exact ih2 _ _ _)
      | (with_reducible exact ih3 _ _ _)
      | (with_reducible exact ih4 _ _ _)
      | (with_reducible exact LeO.refl _)
      | (with_reducible exact LeO.none _)
      | (with_reducible refine LeO.ite ?_ ?_)
      | (with_reducible refine LeO.bind ?_ (fun _ => ?_))
      | exact ih0 _ _ _
      | exact ih1 _ _ _
      | exact ih2 _ _ _
      | exact ih3 _ _ _
      | exact ih4 _ _ _
      | exact LeO.none _
      | refine LeO.ite ?_ ?_
      | refine LeO.bind ?_ (fun _ => ?_)
    · intro y0 y1 y2
      unfold guard_takes.j2
      repeat' first
      | (with_reducible exact ih0 _ _ _)
      | (with_reducible exact ih1 _ _ _)
      | (with_reducible exact ih2 _ _ _)
      | (with_reducible exact ih3 _ _ _)
      | (with_reducible exact ih4 _ _ _)
      | (with_reducible exact LeO.refl _)
      | (with_reducible exact LeO.none _)
      | (with_reducible refine LeO.ite ?_ ?_)
      | (with_reducible refine LeO.bind ?_ (fun _ => ?_))
      | exact ih0 _ _ _
      | exact ih1 _ _ _
      | exact ih2 _ _ _
      | exact ih3 _ _ _
      | exact ih4 _ _ _
      | exact LeO.none _
      | refine LeO.ite ?_ ?_
      | refine LeO.bind ?_ (fun _ => ?_)
    · intro y0 y1 y2
      unfold guard_takes.j3
      repeat' first
      | (with_reducible exact ih0 _ _ _)
      | (with_reducible exact ih1 _ _ _)
      | (with_reducible exact ih2 _ _ _)
      | (with_reducible exact ih3 _ _ _)
      | (with_reducible exact ih4 _ _ _)
      | (with_reducible exact LeO.refl _)
      | (with_reducible exact LeO.none _)
      | (with_reducible refine LeO.ite ?_ ?_)
      | (with_reducible refine LeO.bind ?_ (fun _ => ?_))
      | exact ih0 _ _ _
      | exact ih1 _ _ _
      | exact ih2 _ _ _
      | exact ih3 _ _ _
      | exact ih4 _ _ _
      | exact LeO.none _
      | refine LeO.ite ?_ ?_
      | refine LeO.bind ?_ (fun _ => ?_)
    · intro y0 y1 y2
      unfold guard_takes.j4
      repeat' first
      | (with_reducible exact ih0 _ _ _)
      | (with_reducible exact ih1 _ _ _)
      | (with_reducible exact ih2 _ _ _)
      | (with_reducible exact ih3 _ _ _)
      | (with_reducible exact ih4 _ _ _)
      | (with_reducible exact LeO.refl _)
      | (with_reducible exact LeO.none _)
      | (with_reducible refine LeO.ite ?_ ?_)
      | (with_reducible refine LeO.bind ?_ (fun _ => ?_))
      | exact ih0 _ _ _
      | exact ih1 _ _ _
      | exact ih2 _ _ _
      | exact ih3 _ _ _
      | exact ih4 _ _ _
      | exact LeO.none _
      | refine LeO.ite ?_ ?_
      | refine LeO.bind ?_ (fun _ => ?_)
theorem guard_takes.mono : ∀ a0 a1 k, LeO (guard_takes.f k a0 a1) (guard_takes.f (k + 1) a0 a1) := by
  intro a0 a1 k
  obtain ⟨ih0, ih1, ih2, ih3, ih4⟩ := guard_takes.mono_l k
  unfold guard_takes.f
  repeat' first
      | (with_reducible exact ih0 _ _ _)
      | (with_reducible exact ih1 _ _ _)
      | (with_reducible exact ih2 _ _ _)
      | (with_reducible exact ih3 _ _ _)
      | (with_reducible exact ih4 _ _ _)
      | (with_reducible exact LeO.refl _)
      | (with_reducible exact LeO.none _)
      | (with_reducible refine LeO.ite ?_ ?_)
      | (with_reducible refine LeO.bind ?_ (fun _ => ?_))
      | exact ih0 _ _ _
      | exact ih1 _ _ _
      | exact ih2 _ _ _
      | exact ih3 _ _ _
      | exact ih4 _ _ _
      | exact LeO.none _
      | refine LeO.ite ?_ ?_
      | refine LeO.bind ?_ (fun _ => ?_)
set_option maxHeartbeats 8000000 in
set_option maxRecDepth 100000 in
theorem guard_takes.calls (k : Nat) (a0_0 : Int) (a0_1 : Int) (r1 : Int) (r2 : Bool) (r3 : Bool) (w : World) (h : guard_takes.f k a0_0 a0_1 = some (r1, r2, r3)) :
    Calls Tryd.prog 15 #[.agg #[.int .i64 a0_0, .int .i64 a0_1]] w fun e w' => e = .returned (.tuple #[.int .i64 r1, .bool r2, .bool r3]) ∧ Below w.heap.size w w' := by
  have hu33 := Tryd.underlying33
  have HB := Aside0.mk (Below.refl w.heap.size w)
  have H : (if a0_0 = 1 then (if a0_1 ≥ 0 then (guard_takes.j0 k (decide (a0_1 ≤ 2147483647)) a0_0 a0_1) else (guard_takes.j0 k false a0_0 a0_1)) else (guard_takes.j0 k false a0_0 a0_1)) = some (r1, r2, r3) := h
  clear h
  have HC2 := Aside0.mk H
  clear H
  go_enter Tryd.func15, Tryd.ntmps15
  go_upto_region 1 with (first | ((with_reducible refine gate_dst (N := 1) rfl ?_); refine box_event ?hg (N := 1) ?hd (cs := #[.int .i64 a0_0, .int .i64 a0_1]) (t := 33) ?hr ?_; (case hd => rfl); (case hg => rfl); (case hr => first | (go_simp; done) | (go_simp; rfl)); intro gb101 hg w3 hbox hb; have n0_ := Aside0.mk (below_step (by repeat (first | (with_reducible first | exact HB.out | apply below_alloc | apply pw_below_drewN | apply below_drew1) | exact HB.out)) hb); have n1_ := Aside0.mk (hbox); have n2_ := Aside0.mk ((by rw [hg]; exact (below_size (by repeat (first | (with_reducible first | exact HB.out | apply below_alloc | apply pw_below_drewN | apply below_drew1) | exact HB.out))) : w.heap.size ≤ gb101)); have n3_ := Aside0.mk ((by rw [hg]; exact (below_size (by repeat (first | (with_reducible first | exact HB.out | apply below_alloc | apply pw_below_drewN | apply below_drew1) | exact HB.out))) : w.heap.size ≤ gb101)); clear HB; have HB := n0_; have BK101 := n1_; have GW101 := n2_; have GE101 := n3_; clear n0_ n1_ n2_ n3_; clear hb hbox hg))
  (try simp only [Act.put, List.setIfInBounds_toArray, List.set_cons_zero, List.set_cons_succ])
  go_cut [5] (fun v5 wc => ∃ (kq : Nat) (x5_1 : Bool), v5 = .bool x5_1 ∧ Aside0 (guard_takes.j0 kq x5_1 a0_0 a0_1 = some (r1, r2, r3)) ∧ Aside0 (kq ≤ k) ∧ Aside0 (wc.heap[gb101]? = some (.cells #[.int .i64 a0_0, .int .i64 a0_1] 33 (0, 0))) ∧ Aside0 (Below w.heap.size w wc))
  case first =>
    have H := HC2.out
    clear HC2
    by_cases c4 : a0_0 = 1
    · rw [if_pos c4] at H
      have c4b0 : (a0_0 == 1) = true := beq_iff_eq.mpr c4
      have c4b1 : (a0_0 != 1) = false := bne_eq_false_iff_eq.mpr c4
      clear c4
      (first | rw [c4b0] | (simp only [i64_w, i32_w]; rw [c4b0]) | skip)
      by_cases c5 : a0_1 ≥ 0
      · rw [if_pos c5] at H
        have c5b0 : decide (0 ≤ a0_1) = true := decide_eq_true c5
        clear c5
        have H' := Aside0.mk H
        clear H
        have hcz6_0 : w3.cell? ⟨gb101, 0, none⟩ = some (.int .i64 a0_0) := (blk_cell BK101.out 0).trans rfl
        have hcz6_1 : w3.cell? ⟨gb101, 1, none⟩ = some (.int .i64 a0_1) := (blk_cell BK101.out 1).trans rfl
        have hfz6_0 := blk_frozen BK101.out 0
        have hfz6_1 := blk_frozen BK101.out 1
        go_wp2
        go_meet
        case rel => exact ⟨_, (decide (a0_1 ≤ 2147483647)), (by first | rfl | (simp; done) | (simp [*]; done)), H', ⟨by first | omega | exact Nat.le_refl _⟩, ⟨by (with_reducible repeat (first | refine blk_drewN ?_ _ | refine blk_drew ?_ | refine blk_alloc ?_ _)); exact BK101.out⟩, ⟨by repeat (first | (with_reducible first | exact HB.out | apply below_alloc | apply pw_below_drewN | apply below_drew1 | refine below_set ?_ GE101.out) | exact HB.out)⟩⟩
      · rw [if_neg c5] at H
        have c5b0 : decide (0 ≤ a0_1) = false := decide_eq_false c5
        clear c5
        have H' := Aside0.mk H
        clear H
        have hcz7_0 : w3.cell? ⟨gb101, 0, none⟩ = some (.int .i64 a0_0) := (blk_cell BK101.out 0).trans rfl
        have hcz7_1 : w3.cell? ⟨gb101, 1, none⟩ = some (.int .i64 a0_1) := (blk_cell BK101.out 1).trans rfl
        have hfz7_0 := blk_frozen BK101.out 0
        have hfz7_1 := blk_frozen BK101.out 1
        go_wp2
        go_meet
        case rel => exact ⟨_, (false), (by first | rfl | (simp; done) | (simp [*]; done)), H', ⟨by first | omega | exact Nat.le_refl _⟩, ⟨by (with_reducible repeat (first | refine blk_drewN ?_ _ | refine blk_drew ?_ | refine blk_alloc ?_ _)); exact BK101.out⟩, ⟨by repeat (first | (with_reducible first | exact HB.out | apply below_alloc | apply pw_below_drewN | apply below_drew1 | refine below_set ?_ GE101.out) | exact HB.out)⟩⟩
    · rw [if_neg c4] at H
      have c4b0 : (a0_0 == 1) = false := beq_eq_false_iff_ne.mpr c4
      have c4b1 : (a0_0 != 1) = true := bne_iff_ne.mpr c4
      (first | rw [c4b0] | (simp only [i64_w, i32_w]; rw [c4b0]) | skip)
      have H' := Aside0.mk H
      clear H
      have hcz8_0 : w3.cell? ⟨gb101, 0, none⟩ = some (.int .i64 a0_0) := (blk_cell BK101.out 0).trans rfl
      have hcz8_1 : w3.cell? ⟨gb101, 1, none⟩ = some (.int .i64 a0_1) := (blk_cell BK101.out 1).trans rfl
      have hfz8_0 := blk_frozen BK101.out 0
      have hfz8_1 := blk_frozen BK101.out 1
      go_wp2
      go_meet
      case rel => exact ⟨_, (false), (by first | rfl | (simp; done) | (simp [*]; done)), H', ⟨by first | omega | exact Nat.le_refl _⟩, ⟨by (with_reducible repeat (first | refine blk_drewN ?_ _ | refine blk_drew ?_ | refine blk_alloc ?_ _)); exact BK101.out⟩, ⟨by repeat (first | (with_reducible first | exact HB.out | apply below_alloc | apply pw_below_drewN | apply below_drew1 | refine below_set ?_ GE101.out) | exact HB.out)⟩⟩
  case rest =>
    clear HC2
    try clear c1
    try clear p2
    try clear c4
    try clear c4b0
    try clear c4b1
    try clear c5
    try clear c5b0
    try clear hcz6_0
    try clear hcz6_1
    try clear hcz7_0
    try clear hcz7_1
    try clear hcz8_0
    try clear hcz8_1
    try clear hfz6_0
    try clear hfz6_1
    try clear hfz7_0
    try clear hfz7_1
    try clear hfz8_0
    try clear hfz8_1
    obtain ⟨kq, x5_1, rfl, HA, HJ1, BK101, HB⟩ := hcut
    cases kq with
    | zero => exact absurd HA.out (by simp [guard_takes.j0])
    | succ kj1 =>
      have H := HA.out
      clear HA
      simp only [guard_takes.j0] at H
      have HC9 := Aside0.mk H
      clear H
      go_upto_if 5 with (fail)
      go_cut [5] (fun v5 wc => ∃ (kq : Nat) (x5_8 : Bool), v5 = .bool x5_8 ∧ Aside0 (guard_takes.j1 kq x5_8 a0_0 a0_1 = some (r1, r2, r3)) ∧ Aside0 (kq ≤ kj1) ∧ Aside0 (wc.heap[gb101]? = some (.cells #[.int .i64 a0_0, .int .i64 a0_1] 33 (0, 0))) ∧ Aside0 (Below w.heap.size w wc))
      case first =>
        have H := HC9.out
        clear HC9
        by_cases c10 : x5_1 = true
        · subst c10
          have H1 : (guard_takes.j1 kj1 true a0_0 a0_1) = some (r1, r2, r3) := by rw [if_pos rfl] at H; exact H
          clear H
          have H := H1
          clear H1
          have H' := Aside0.mk H
          clear H
          go_wp2
          go_meet
          case rel => exact ⟨_, (true), (by first | rfl | (simp; done) | (simp [*]; done)), H', ⟨by have := HJ1.out; first | omega | exact Nat.le_refl _⟩, ⟨by (with_reducible repeat (first | refine blk_drewN ?_ _ | refine blk_drew ?_ | refine blk_alloc ?_ _)); exact BK101.out⟩, ⟨by repeat (first | (with_reducible first | exact HB.out | apply below_alloc | apply pw_below_drewN | apply below_drew1 | refine below_set ?_ GE101.out) | exact HB.out)⟩⟩
        · replace c10 := Bool.eq_false_iff.mpr c10
          subst c10
          have H1 : (if a0_0 = 2 then (if a0_1 ≥ 0 then (guard_takes.j1 kj1 (decide (a0_1 < 26)) a0_0 a0_1) else (guard_takes.j1 kj1 false a0_0 a0_1)) else (guard_takes.j1 kj1 false a0_0 a0_1)) = some (r1, r2, r3) := by rw [if_neg (show ¬ (false = true) by decide)] at H; exact H
          clear H
          have H := H1
          clear H1
          by_cases c11 : a0_0 = 2
          · rw [if_pos c11] at H
            have c11b0 : (a0_0 == 2) = true := beq_iff_eq.mpr c11
            have c11b1 : (a0_0 != 2) = false := bne_eq_false_iff_eq.mpr c11
            clear c11
            (first | rw [c11b0] | (simp only [i64_w, i32_w]; rw [c11b0]) | skip)
            by_cases c12 : a0_1 ≥ 0
            · rw [if_pos c12] at H
              have c12b0 : decide (0 ≤ a0_1) = true := decide_eq_true c12
              clear c12
              have H' := Aside0.mk H
              clear H
              have hcz13_0 : wc.cell? ⟨gb101, 0, none⟩ = some (.int .i64 a0_0) := (blk_cell BK101.out 0).trans rfl
              have hcz13_1 : wc.cell? ⟨gb101, 1, none⟩ = some (.int .i64 a0_1) := (blk_cell BK101.out 1).trans rfl
              have hfz13_0 := blk_frozen BK101.out 0
              have hfz13_1 := blk_frozen BK101.out 1
              go_wp2
              go_meet
              case rel => exact ⟨_, (decide (a0_1 < 26)), (by first | rfl | (simp; done) | (simp [*]; done)), H', ⟨by have := HJ1.out; first | omega | exact Nat.le_refl _⟩, ⟨by (with_reducible repeat (first | refine blk_drewN ?_ _ | refine blk_drew ?_ | refine blk_alloc ?_ _)); exact BK101.out⟩, ⟨by repeat (first | (with_reducible first | exact HB.out | apply below_alloc | apply pw_below_drewN | apply below_drew1 | refine below_set ?_ GE101.out) | exact HB.out)⟩⟩
            · rw [if_neg c12] at H
              have c12b0 : decide (0 ≤ a0_1) = false := decide_eq_false c12
              clear c12
              have H' := Aside0.mk H
              clear H
              have hcz14_0 : wc.cell? ⟨gb101, 0, none⟩ = some (.int .i64 a0_0) := (blk_cell BK101.out 0).trans rfl
              have hcz14_1 : wc.cell? ⟨gb101, 1, none⟩ = some (.int .i64 a0_1) := (blk_cell BK101.out 1).trans rfl
              have hfz14_0 := blk_frozen BK101.out 0
              have hfz14_1 := blk_frozen BK101.out 1
              go_wp2
              go_meet
              case rel => exact ⟨_, (false), (by first | rfl | (simp; done) | (simp [*]; done)), H', ⟨by have := HJ1.out; first | omega | exact Nat.le_refl _⟩, ⟨by (with_reducible repeat (first | refine blk_drewN ?_ _ | refine blk_drew ?_ | refine blk_alloc ?_ _)); exact BK101.out⟩, ⟨by repeat (first | (with_reducible first | exact HB.out | apply below_alloc | apply pw_below_drewN | apply below_drew1 | refine below_set ?_ GE101.out) | exact HB.out)⟩⟩
          · rw [if_neg c11] at H
            have c11b0 : (a0_0 == 2) = false := beq_eq_false_iff_ne.mpr c11
            have c11b1 : (a0_0 != 2) = true := bne_iff_ne.mpr c11
            (first | rw [c11b0] | (simp only [i64_w, i32_w]; rw [c11b0]) | skip)
            have H' := Aside0.mk H
            clear H
            have hcz15_0 : wc.cell? ⟨gb101, 0, none⟩ = some (.int .i64 a0_0) := (blk_cell BK101.out 0).trans rfl
            have hcz15_1 : wc.cell? ⟨gb101, 1, none⟩ = some (.int .i64 a0_1) := (blk_cell BK101.out 1).trans rfl
            have hfz15_0 := blk_frozen BK101.out 0
            have hfz15_1 := blk_frozen BK101.out 1
            go_wp2
            go_meet
            case rel => exact ⟨_, (false), (by first | rfl | (simp; done) | (simp [*]; done)), H', ⟨by have := HJ1.out; first | omega | exact Nat.le_refl _⟩, ⟨by (with_reducible repeat (first | refine blk_drewN ?_ _ | refine blk_drew ?_ | refine blk_alloc ?_ _)); exact BK101.out⟩, ⟨by repeat (first | (with_reducible first | exact HB.out | apply below_alloc | apply pw_below_drewN | apply below_drew1 | refine below_set ?_ GE101.out) | exact HB.out)⟩⟩
      case rest =>
        clear HC9
        try clear c1
        try clear p2
        try clear c4
        try clear c4b0
        try clear c4b1
        try clear c5
        try clear c5b0
        try clear c10
        try clear c11
        try clear c11b0
        try clear c11b1
        try clear c12
        try clear c12b0
        try clear c15
        try clear hcz13_0
        try clear hcz13_1
        try clear hcz14_0
        try clear hcz14_1
        try clear hcz15_0
        try clear hcz15_1
        try clear hcz6_0
        try clear hcz6_1
        try clear hcz7_0
        try clear hcz7_1
        try clear hcz8_0
        try clear hcz8_1
        try clear hfz13_0
        try clear hfz13_1
        try clear hfz14_0
        try clear hfz14_1
        try clear hfz15_0
        try clear hfz15_1
        try clear hfz6_0
        try clear hfz6_1
        try clear hfz7_0
        try clear hfz7_1
        try clear hfz8_0
        try clear hfz8_1
        try clear p2
        obtain ⟨kq, x5_8, rfl, HA, HJ8, BK101, HB⟩ := hcut
        cases kq with
        | zero => exact absurd HA.out (by simp [guard_takes.j1])
        | succ kj8 =>
          have H := HA.out
          clear HA
          simp only [guard_takes.j1] at H
          by_cases c16 : x5_8 = true
          · subst c16
            have H1 : (some (0, false, false)) = some (r1, r2, r3) := by rw [if_pos rfl] at H; exact H
            clear H
            have H := H1
            clear H1
            simp only [Option.some.injEq, Prod.mk.injEq] at H
            obtain ⟨rfl, rfl, rfl⟩ := H
            go_wp2
            go_ret3
            exact ⟨by first | rfl | (simp [errW_none, errW_some] <;> rfl) | (simp [*, errW_none, errW_some] <;> rfl), by repeat (first | (with_reducible first | exact HB.out | apply below_alloc | apply pw_below_drewN | apply below_drew1 | refine below_set ?_ GE101.out) | exact HB.out)⟩
          · replace c16 := Bool.eq_false_iff.mpr c16
            subst c16
            have H1 : (if a0_0 = 1 then (guard_takes.j2 kj8 (a0_0 == 1) a0_0 a0_1) else (if a0_0 = 2 then (guard_takes.j2 kj8 (a0_0 == 2) a0_0 a0_1) else (guard_takes.j2 kj8 (a0_1 != 0) a0_0 a0_1))) = some (r1, r2, r3) := by rw [if_neg (show ¬ (false = true) by decide)] at H; exact H
            clear H
            have H := H1
            clear H1
            have HC17 := Aside0.mk H
            clear H
            have hcz18_0 : wc.cell? ⟨gb101, 0, none⟩ = some (.int .i64 a0_0) := (blk_cell BK101.out 0).trans rfl
            have hcz18_1 : wc.cell? ⟨gb101, 1, none⟩ = some (.int .i64 a0_1) := (blk_cell BK101.out 1).trans rfl
            have hfz18_0 := blk_frozen BK101.out 0
            have hfz18_1 := blk_frozen BK101.out 1
            go_upto_if 32 with (fail)
            go_cut [32] (fun v32 wc => ∃ (kq : Nat) (x32_16 : Bool), v32 = .bool x32_16 ∧ Aside0 (guard_takes.j2 kq x32_16 a0_0 a0_1 = some (r1, r2, r3)) ∧ Aside0 (kq ≤ kj8) ∧ Aside0 (wc.heap[gb101]? = some (.cells #[.int .i64 a0_0, .int .i64 a0_1] 33 (0, 0))) ∧ Aside0 (Below w.heap.size w wc))
            case first =>
              have H := HC17.out
              clear HC17
              by_cases c19 : a0_0 = 1
              · rw [if_pos c19] at H
                have c19b0 : (a0_0 == 1) = true := beq_iff_eq.mpr c19
                have c19b1 : (a0_0 != 1) = false := bne_eq_false_iff_eq.mpr c19
                clear c19
                (first | rw [c19b0] | (simp only [i64_w, i32_w]; rw [c19b0]) | skip)
                have H' := Aside0.mk H
                clear H
                go_wp2
                go_meet
                case rel => exact ⟨_, ((a0_0 == 1)), (by first | rfl | (simp; done) | (simp [*]; done)), H', ⟨by have := HJ1.out; have := HJ8.out; first | omega | exact Nat.le_refl _⟩, ⟨by (with_reducible repeat (first | refine blk_drewN ?_ _ | refine blk_drew ?_ | refine blk_alloc ?_ _)); exact BK101.out⟩, ⟨by repeat (first | (with_reducible first | exact HB.out | apply below_alloc | apply pw_below_drewN | apply below_drew1 | refine below_set ?_ GE101.out) | exact HB.out)⟩⟩
              · rw [if_neg c19] at H
                have c19b0 : (a0_0 == 1) = false := beq_eq_false_iff_ne.mpr c19
                have c19b1 : (a0_0 != 1) = true := bne_iff_ne.mpr c19
                (first | rw [c19b0] | (simp only [i64_w, i32_w]; rw [c19b0]) | skip)
                by_cases c20 : a0_0 = 2
                · rw [if_pos c20] at H
                  have c20b0 : (a0_0 == 2) = true := beq_iff_eq.mpr c20
                  have c20b1 : (a0_0 != 2) = false := bne_eq_false_iff_eq.mpr c20
                  clear c20
                  have H' := Aside0.mk H
                  clear H
                  have hcz21_0 : wc.cell? ⟨gb101, 0, none⟩ = some (.int .i64 a0_0) := (blk_cell BK101.out 0).trans rfl
                  have hcz21_1 : wc.cell? ⟨gb101, 1, none⟩ = some (.int .i64 a0_1) := (blk_cell BK101.out 1).trans rfl
                  have hfz21_0 := blk_frozen BK101.out 0
                  have hfz21_1 := blk_frozen BK101.out 1
                  go_wp2
                  go_meet
                  case rel => exact ⟨_, ((a0_0 == 2)), (by first | rfl | (simp; done) | (simp [*]; done)), H', ⟨by have := HJ1.out; have := HJ8.out; first | omega | exact Nat.le_refl _⟩, ⟨by (with_reducible repeat (first | refine blk_drewN ?_ _ | refine blk_drew ?_ | refine blk_alloc ?_ _)); exact BK101.out⟩, ⟨by repeat (first | (with_reducible first | exact HB.out | apply below_alloc | apply pw_below_drewN | apply below_drew1 | refine below_set ?_ GE101.out) | exact HB.out)⟩⟩
                · rw [if_neg c20] at H
                  have c20b0 : (a0_0 == 2) = false := beq_eq_false_iff_ne.mpr c20
                  have c20b1 : (a0_0 != 2) = true := bne_iff_ne.mpr c20
                  have H' := Aside0.mk H
                  clear H
                  have hcz22_0 : wc.cell? ⟨gb101, 0, none⟩ = some (.int .i64 a0_0) := (blk_cell BK101.out 0).trans rfl
                  have hcz22_1 : wc.cell? ⟨gb101, 1, none⟩ = some (.int .i64 a0_1) := (blk_cell BK101.out 1).trans rfl
                  have hfz22_0 := blk_frozen BK101.out 0
                  have hfz22_1 := blk_frozen BK101.out 1
                  go_wp2
                  go_meet
                  case rel => exact ⟨_, ((a0_1 != 0)), (by first | rfl | (simp; done) | (simp [*]; done)), H', ⟨by have := HJ1.out; have := HJ8.out; first | omega | exact Nat.le_refl _⟩, ⟨by (with_reducible repeat (first | refine blk_drewN ?_ _ | refine blk_drew ?_ | refine blk_alloc ?_ _)); exact BK101.out⟩, ⟨by repeat (first | (with_reducible first | exact HB.out | apply below_alloc | apply pw_below_drewN | apply below_drew1 | refine below_set ?_ GE101.out) | exact HB.out)⟩⟩
            case rest =>
              clear HC17
              try clear c1
              try clear c2
              try clear p2
              try clear c4
              try clear c4b0
              try clear c4b1
              try clear c5
              try clear c5b0
              try clear c10
              try clear c11
              try clear c11b0
              try clear c11b1
              try clear c12
              try clear c12b0
              try clear c15
              try clear c16
              try clear c19
              try clear c19b0
              try clear c19b1
              try clear c20
              try clear c20b0
              try clear c20b1
              try clear hcz13_0
              try clear hcz13_1
              try clear hcz14_0
              try clear hcz14_1
              try clear hcz15_0
              try clear hcz15_1
              try clear hcz18_0
              try clear hcz18_1
              try clear hcz21_0
              try clear hcz21_1
              try clear hcz22_0
              try clear hcz22_1
              try clear hcz6_0
              try clear hcz6_1
              try clear hcz7_0
              try clear hcz7_1
              try clear hcz8_0
              try clear hcz8_1
              try clear hfz13_0
              try clear hfz13_1
              try clear hfz14_0
              try clear hfz14_1
              try clear hfz15_0
              try clear hfz15_1
              try clear hfz18_0
              try clear hfz18_1
              try clear hfz21_0
              try clear hfz21_1
              try clear hfz22_0
              try clear hfz22_1
              try clear hfz6_0
              try clear hfz6_1
              try clear hfz7_0
              try clear hfz7_1
              try clear hfz8_0
              try clear hfz8_1
              try clear p2
              obtain ⟨kq, x32_16, rfl, HA, HJ16, BK101, HB⟩ := hcut
              cases kq with
              | zero => exact absurd HA.out (by simp [guard_takes.j2])
              | succ kj16 =>
                have H := HA.out
                clear HA
                simp only [guard_takes.j2] at H
                by_cases c23 : x32_16 = true
                · subst c23
                  have H1 : (some ((-1), false, false)) = some (r1, r2, r3) := by rw [if_pos rfl] at H; exact H
                  clear H
                  have H := H1
                  clear H1
                  simp only [Option.some.injEq, Prod.mk.injEq] at H
                  obtain ⟨rfl, rfl, rfl⟩ := H
                  go_wp2
                  go_ret3
                  exact ⟨by first | rfl | (simp [errW_none, errW_some] <;> rfl) | (simp [*, errW_none, errW_some] <;> rfl), by repeat (first | (with_reducible first | exact HB.out | apply below_alloc | apply pw_below_drewN | apply below_drew1 | refine below_set ?_ GE101.out) | exact HB.out)⟩
                · replace c23 := Bool.eq_false_iff.mpr c23
                  subst c23
                  have H1 : (if a0_0 = 19 then (some (1, false, false)) else ((guard_sums.f a0_0).bind fun t102 => (if t102 = true then (guard_takes.j3 kj16 t102 a0_0 a0_1) else (guard_takes.j3 kj16 (a0_0 == 5) a0_0 a0_1)))) = some (r1, r2, r3) := by rw [if_neg (show ¬ (false = true) by decide)] at H; exact H
                  clear H
                  have H := H1
                  clear H1
                  by_cases c24 : a0_0 = 19
                  · rw [if_pos c24] at H
                    have c24b0 : (a0_0 == 19) = true := beq_iff_eq.mpr c24
                    have c24b1 : (a0_0 != 19) = false := bne_eq_false_iff_eq.mpr c24
                    clear c24
                    simp only [Option.some.injEq, Prod.mk.injEq] at H
                    obtain ⟨rfl, rfl, rfl⟩ := H
                    have hcz25_0 : wc.cell? ⟨gb101, 0, none⟩ = some (.int .i64 a0_0) := (blk_cell BK101.out 0).trans rfl
                    have hcz25_1 : wc.cell? ⟨gb101, 1, none⟩ = some (.int .i64 a0_1) := (blk_cell BK101.out 1).trans rfl
                    have hfz25_0 := blk_frozen BK101.out 0
                    have hfz25_1 := blk_frozen BK101.out 1
                    go_wp2
                    go_ret3
                    exact ⟨by first | rfl | (simp [errW_none, errW_some] <;> rfl) | (simp [*, errW_none, errW_some] <;> rfl), by repeat (first | (with_reducible first | exact HB.out | apply below_alloc | apply pw_below_drewN | apply below_drew1 | refine below_set ?_ GE101.out) | exact HB.out)⟩
                  · rw [if_neg c24] at H
                    have c24b0 : (a0_0 == 19) = false := beq_eq_false_iff_ne.mpr c24
                    have c24b1 : (a0_0 != 19) = true := bne_iff_ne.mpr c24
                    replace H := Option.bind_eq_some_iff.mp H
                    obtain ⟨t102, A260, H⟩ := H
                    replace H : (if t102 = true then (guard_takes.j3 kj16 t102 a0_0 a0_1) else (guard_takes.j3 kj16 (a0_0 == 5) a0_0 a0_1)) = some (r1, r2, r3) := H
                    have A26 := Aside0.mk A260
                    clear A260
                    have HC27 := Aside0.mk H
                    clear H
                    have hcz28_0 : wc.cell? ⟨gb101, 0, none⟩ = some (.int .i64 a0_0) := (blk_cell BK101.out 0).trans rfl
                    have hcz28_1 : wc.cell? ⟨gb101, 1, none⟩ = some (.int .i64 a0_1) := (blk_cell BK101.out 1).trans rfl
                    have hfz28_0 := blk_frozen BK101.out 0
                    have hfz28_1 := blk_frozen BK101.out 1
                    go_upto_if 46 with (first | ((with_reducible refine gate_callee (f := 25) rfl ?_); refine goesL_ (some 49) rfl rfl Tryd.func25 (by kernel_rfl) rfl #[.int .i64 a0_0] rfl (by (try simp only [List.map_toArray, List.map_cons, List.map_nil]); first | done | rfl | (simp only [List.length_drop, List.length_take]; rfl)) ?_; (with_reducible refine (guard_sums.calls a0_0 t102 _ A26.out).mono ?_); rintro e w' ⟨rfl, ⟨nd, rfl⟩⟩; refine ⟨_, rfl, ?_⟩))
                    (try simp only [Act.put, List.setIfInBounds_toArray, List.set_cons_zero, List.set_cons_succ])
                    go_cut [46] (fun v46 wc => ∃ (kq : Nat) (x46_26 : Bool), v46 = .bool x46_26 ∧ Aside0 (guard_takes.j3 kq x46_26 a0_0 a0_1 = some (r1, r2, r3)) ∧ Aside0 (kq ≤ kj16) ∧ Aside0 (wc.heap[gb101]? = some (.cells #[.int .i64 a0_0, .int .i64 a0_1] 33 (0, 0))) ∧ Aside0 (Below w.heap.size w wc))
                    case first =>
                      have H := HC27.out
                      clear HC27
                      by_cases c29 : t102 = true
                      · subst c29
                        have H1 : (guard_takes.j3 kj16 true a0_0 a0_1) = some (r1, r2, r3) := by rw [if_pos rfl] at H; exact H
                        clear H
                        have H := H1
                        clear H1
                        have H' := Aside0.mk H
                        clear H
                        go_wp2
                        go_meet
                        case rel => exact ⟨_, (true), (by first | rfl | (simp; done) | (simp [*]; done)), H', ⟨by have := HJ1.out; have := HJ8.out; have := HJ16.out; first | omega | exact Nat.le_refl _⟩, ⟨by (with_reducible repeat (first | refine blk_drewN ?_ _ | refine blk_drew ?_ | refine blk_alloc ?_ _)); exact BK101.out⟩, ⟨by repeat (first | (with_reducible first | exact HB.out | apply below_alloc | apply pw_below_drewN | apply below_drew1 | refine below_set ?_ GE101.out) | exact HB.out)⟩⟩
                      · replace c29 := Bool.eq_false_iff.mpr c29
                        subst c29
                        have H1 : (guard_takes.j3 kj16 (a0_0 == 5) a0_0 a0_1) = some (r1, r2, r3) := by rw [if_neg (show ¬ (false = true) by decide)] at H; exact H
                        clear H
                        have H := H1
                        clear H1
                        have H' := Aside0.mk H
                        clear H
                        have hcz30_0 : wc.cell? ⟨gb101, 0, none⟩ = some (.int .i64 a0_0) := (blk_cell BK101.out 0).trans rfl
                        have hcz30_1 : wc.cell? ⟨gb101, 1, none⟩ = some (.int .i64 a0_1) := (blk_cell BK101.out 1).trans rfl
                        have hfz30_0 := blk_frozen BK101.out 0
                        have hfz30_1 := blk_frozen BK101.out 1
                        go_wp2
                        go_meet
                        case rel => exact ⟨_, ((a0_0 == 5)), (by first | rfl | (simp; done) | (simp [*]; done)), H', ⟨by have := HJ1.out; have := HJ8.out; have := HJ16.out; first | omega | exact Nat.le_refl _⟩, ⟨by (with_reducible repeat (first | refine blk_drewN ?_ _ | refine blk_drew ?_ | refine blk_alloc ?_ _)); exact BK101.out⟩, ⟨by repeat (first | (with_reducible first | exact HB.out | apply below_alloc | apply pw_below_drewN | apply below_drew1 | refine below_set ?_ GE101.out) | exact HB.out)⟩⟩
                    case rest =>
                      clear HC27
                      try clear c1
                      try clear c2
                      try clear p2
                      try clear c4
                      try clear c4b0
                      try clear c4b1
                      try clear c5
                      try clear c5b0
                      try clear c10
                      try clear c11
                      try clear c11b0
                      try clear c11b1
                      try clear c12
                      try clear c12b0
                      try clear c15
                      try clear c16
                      try clear c19
                      try clear c19b0
                      try clear c19b1
                      try clear c20
                      try clear c20b0
                      try clear c20b1
                      try clear c23
                      try clear c24
                      try clear c24b0
                      try clear c24b1
                      try clear c25
                      try clear c29
                      try clear hcz13_0
                      try clear hcz13_1
                      try clear hcz14_0
                      try clear hcz14_1
                      try clear hcz15_0
                      try clear hcz15_1
                      try clear hcz18_0
                      try clear hcz18_1
                      try clear hcz21_0
                      try clear hcz21_1
                      try clear hcz22_0
                      try clear hcz22_1
                      try clear hcz25_0
                      try clear hcz25_1
                      try clear hcz28_0
                      try clear hcz28_1
                      try clear hcz30_0
                      try clear hcz30_1
                      try clear hcz6_0
                      try clear hcz6_1
                      try clear hcz7_0
                      try clear hcz7_1
                      try clear hcz8_0
                      try clear hcz8_1
                      try clear hfz13_0
                      try clear hfz13_1
                      try clear hfz14_0
                      try clear hfz14_1
                      try clear hfz15_0
                      try clear hfz15_1
                      try clear hfz18_0
                      try clear hfz18_1
                      try clear hfz21_0
                      try clear hfz21_1
                      try clear hfz22_0
                      try clear hfz22_1
                      try clear hfz25_0
                      try clear hfz25_1
                      try clear hfz28_0
                      try clear hfz28_1
                      try clear hfz30_0
                      try clear hfz30_1
                      try clear hfz6_0
                      try clear hfz6_1
                      try clear hfz7_0
                      try clear hfz7_1
                      try clear hfz8_0
                      try clear hfz8_1
                      try clear p2
                      obtain ⟨kq, x46_26, rfl, HA, HJ26, BK101, HB⟩ := hcut
                      cases kq with
                      | zero => exact absurd HA.out (by simp [guard_takes.j3])
                      | succ kj26 =>
                        have H := HA.out
                        clear HA
                        simp only [guard_takes.j3] at H
                        by_cases c31 : x46_26 = true
                        · subst c31
                          have H1 : (some (2, false, false)) = some (r1, r2, r3) := by rw [if_pos rfl] at H; exact H
                          clear H
                          have H := H1
                          clear H1
                          simp only [Option.some.injEq, Prod.mk.injEq] at H
                          obtain ⟨rfl, rfl, rfl⟩ := H
                          go_wp2
                          go_ret3
                          exact ⟨by first | rfl | (simp [errW_none, errW_some] <;> rfl) | (simp [*, errW_none, errW_some] <;> rfl), by repeat (first | (with_reducible first | exact HB.out | apply below_alloc | apply pw_below_drewN | apply below_drew1 | refine below_set ?_ GE101.out) | exact HB.out)⟩
                        · replace c31 := Bool.eq_false_iff.mpr c31
                          subst c31
                          have H1 : ((guard_compares.f a0_0).bind fun t103 => (if t103 = true then (some (2, false, true)) else (if a0_0 = 12 then (guard_takes.j4 kj26 (a0_0 == 12) a0_0 a0_1) else (guard_takes.j4 kj26 (a0_0 == 13) a0_0 a0_1)))) = some (r1, r2, r3) := by rw [if_neg (show ¬ (false = true) by decide)] at H; exact H
                          clear H
                          have H := H1
                          clear H1
                          replace H := Option.bind_eq_some_iff.mp H
                          obtain ⟨t103, A320, H⟩ := H
                          replace H : (if t103 = true then (some (2, false, true)) else (if a0_0 = 12 then (guard_takes.j4 kj26 (a0_0 == 12) a0_0 a0_1) else (guard_takes.j4 kj26 (a0_0 == 13) a0_0 a0_1))) = some (r1, r2, r3) := H
                          have A32 := Aside0.mk A320
                          clear A320
                          by_cases c33 : t103 = true
                          · subst c33
                            have H1 : (some (2, false, true)) = some (r1, r2, r3) := by rw [if_pos rfl] at H; exact H
                            clear H
                            have H := H1
                            clear H1
                            simp only [Option.some.injEq, Prod.mk.injEq] at H
                            obtain ⟨rfl, rfl, rfl⟩ := H
                            have hcz34_0 : wc.cell? ⟨gb101, 0, none⟩ = some (.int .i64 a0_0) := (blk_cell BK101.out 0).trans rfl
                            have hcz34_1 : wc.cell? ⟨gb101, 1, none⟩ = some (.int .i64 a0_1) := (blk_cell BK101.out 1).trans rfl
                            have hfz34_0 := blk_frozen BK101.out 0
                            have hfz34_1 := blk_frozen BK101.out 1
                            go_wp2_with (first | ((with_reducible refine gate_callee (f := 26) rfl ?_); refine goesL_ (some 56) rfl rfl Tryd.func26 (by kernel_rfl) rfl #[.int .i64 a0_0] rfl (by (try simp only [List.map_toArray, List.map_cons, List.map_nil]); first | done | rfl | (simp only [List.length_drop, List.length_take]; rfl)) ?_; (with_reducible refine (guard_compares.calls a0_0 true _ A32.out).mono ?_); rintro e w' ⟨rfl, ⟨nd, rfl⟩⟩; refine ⟨_, rfl, ?_⟩))
                            go_ret3
                            exact ⟨by first | rfl | (simp [errW_none, errW_some] <;> rfl) | (simp [*, errW_none, errW_some] <;> rfl), by repeat (first | (with_reducible first | exact HB.out | apply below_alloc | apply pw_below_drewN | apply below_drew1 | refine below_set ?_ GE101.out) | exact HB.out)⟩
                          · replace c33 := Bool.eq_false_iff.mpr c33
                            subst c33
                            have H1 : (if a0_0 = 12 then (guard_takes.j4 kj26 (a0_0 == 12) a0_0 a0_1) else (guard_takes.j4 kj26 (a0_0 == 13) a0_0 a0_1)) = some (r1, r2, r3) := by rw [if_neg (show ¬ (false = true) by decide)] at H; exact H
                            clear H
                            have H := H1
                            clear H1
                            have HC35 := Aside0.mk H
                            clear H
                            have hcz36_0 : wc.cell? ⟨gb101, 0, none⟩ = some (.int .i64 a0_0) := (blk_cell BK101.out 0).trans rfl
                            have hcz36_1 : wc.cell? ⟨gb101, 1, none⟩ = some (.int .i64 a0_1) := (blk_cell BK101.out 1).trans rfl
                            have hfz36_0 := blk_frozen BK101.out 0
                            have hfz36_1 := blk_frozen BK101.out 1
                            go_upto_if 57 with (first | ((with_reducible refine gate_callee (f := 26) rfl ?_); refine goesL_ (some 56) rfl rfl Tryd.func26 (by kernel_rfl) rfl #[.int .i64 a0_0] rfl (by (try simp only [List.map_toArray, List.map_cons, List.map_nil]); first | done | rfl | (simp only [List.length_drop, List.length_take]; rfl)) ?_; (with_reducible refine (guard_compares.calls a0_0 false _ A32.out).mono ?_); rintro e w' ⟨rfl, ⟨nd, rfl⟩⟩; refine ⟨_, rfl, ?_⟩))
                            (try simp only [Act.put, List.setIfInBounds_toArray, List.set_cons_zero, List.set_cons_succ])
                            go_cut [57] (fun v57 wc => ∃ (kq : Nat) (x57_34 : Bool), v57 = .bool x57_34 ∧ Aside0 (guard_takes.j4 kq x57_34 a0_0 a0_1 = some (r1, r2, r3)) ∧ Aside0 (kq ≤ kj26) ∧ Aside0 (wc.heap[gb101]? = some (.cells #[.int .i64 a0_0, .int .i64 a0_1] 33 (0, 0))) ∧ Aside0 (Below w.heap.size w wc))
                            case first =>
                              have H := HC35.out
                              clear HC35
                              by_cases c37 : a0_0 = 12
                              · rw [if_pos c37] at H
                                have c37b0 : (a0_0 == 12) = true := beq_iff_eq.mpr c37
                                have c37b1 : (a0_0 != 12) = false := bne_eq_false_iff_eq.mpr c37
                                clear c37
                                (first | rw [c37b0] | (simp only [i64_w, i32_w]; rw [c37b0]) | skip)
                                have H' := Aside0.mk H
                                clear H
                                go_wp2
                                go_meet
                                case rel => exact ⟨_, ((a0_0 == 12)), (by first | rfl | (simp; done) | (simp [*]; done)), H', ⟨by have := HJ1.out; have := HJ8.out; have := HJ16.out; have := HJ26.out; first | omega | exact Nat.le_refl _⟩, ⟨by (with_reducible repeat (first | refine blk_drewN ?_ _ | refine blk_drew ?_ | refine blk_alloc ?_ _)); exact BK101.out⟩, ⟨by repeat (first | (with_reducible first | exact HB.out | apply below_alloc | apply pw_below_drewN | apply below_drew1 | refine below_set ?_ GE101.out) | exact HB.out)⟩⟩
                              · rw [if_neg c37] at H
                                have c37b0 : (a0_0 == 12) = false := beq_eq_false_iff_ne.mpr c37
                                have c37b1 : (a0_0 != 12) = true := bne_iff_ne.mpr c37
                                (first | rw [c37b0] | (simp only [i64_w, i32_w]; rw [c37b0]) | skip)
                                have H' := Aside0.mk H
                                clear H
                                have hcz38_0 : wc.cell? ⟨gb101, 0, none⟩ = some (.int .i64 a0_0) := (blk_cell BK101.out 0).trans rfl
                                have hcz38_1 : wc.cell? ⟨gb101, 1, none⟩ = some (.int .i64 a0_1) := (blk_cell BK101.out 1).trans rfl
                                have hfz38_0 := blk_frozen BK101.out 0
                                have hfz38_1 := blk_frozen BK101.out 1
                                go_wp2
                                go_meet
                                case rel => exact ⟨_, ((a0_0 == 13)), (by first | rfl | (simp; done) | (simp [*]; done)), H', ⟨by have := HJ1.out; have := HJ8.out; have := HJ16.out; have := HJ26.out; first | omega | exact Nat.le_refl _⟩, ⟨by (with_reducible repeat (first | refine blk_drewN ?_ _ | refine blk_drew ?_ | refine blk_alloc ?_ _)); exact BK101.out⟩, ⟨by repeat (first | (with_reducible first | exact HB.out | apply below_alloc | apply pw_below_drewN | apply below_drew1 | refine below_set ?_ GE101.out) | exact HB.out)⟩⟩
                            case rest =>
                              clear HC35
                              try clear c1
                              try clear c2
                              try clear p2
                              try clear c3
                              try clear c4
                              try clear c4b0
                              try clear c4b1
                              try clear c5
                              try clear c5b0
                              try clear c10
                              try clear c11
                              try clear c11b0
                              try clear c11b1
                              try clear c12
                              try clear c12b0
                              try clear c15
                              try clear c16
                              try clear c19
                              try clear c19b0
                              try clear c19b1
                              try clear c20
                              try clear c20b0
                              try clear c20b1
                              try clear c23
                              try clear c24
                              try clear c24b0
                              try clear c24b1
                              try clear c25
                              try clear c26
                              try clear c29
                              try clear c31
                              try clear c33
                              try clear c37
                              try clear c37b0
                              try clear c37b1
                              try clear hcz13_0
                              try clear hcz13_1
                              try clear hcz14_0
                              try clear hcz14_1
                              try clear hcz15_0
                              try clear hcz15_1
                              try clear hcz18_0
                              try clear hcz18_1
                              try clear hcz21_0
                              try clear hcz21_1
                              try clear hcz22_0
                              try clear hcz22_1
                              try clear hcz25_0
                              try clear hcz25_1
                              try clear hcz28_0
                              try clear hcz28_1
                              try clear hcz30_0
                              try clear hcz30_1
                              try clear hcz34_0
                              try clear hcz34_1
                              try clear hcz36_0
                              try clear hcz36_1
                              try clear hcz38_0
                              try clear hcz38_1
                              try clear hcz6_0
                              try clear hcz6_1
                              try clear hcz7_0
                              try clear hcz7_1
                              try clear hcz8_0
                              try clear hcz8_1
                              try clear hfz13_0
                              try clear hfz13_1
                              try clear hfz14_0
                              try clear hfz14_1
                              try clear hfz15_0
                              try clear hfz15_1
                              try clear hfz18_0
                              try clear hfz18_1
                              try clear hfz21_0
                              try clear hfz21_1
                              try clear hfz22_0
                              try clear hfz22_1
                              try clear hfz25_0
                              try clear hfz25_1
                              try clear hfz28_0
                              try clear hfz28_1
                              try clear hfz30_0
                              try clear hfz30_1
                              try clear hfz34_0
                              try clear hfz34_1
                              try clear hfz36_0
                              try clear hfz36_1
                              try clear hfz38_0
                              try clear hfz38_1
                              try clear hfz6_0
                              try clear hfz6_1
                              try clear hfz7_0
                              try clear hfz7_1
                              try clear hfz8_0
                              try clear hfz8_1
                              try clear p2
                              obtain ⟨kq, x57_34, rfl, HA, HJ34, BK101, HB⟩ := hcut
                              cases kq with
                              | zero => exact absurd HA.out (by simp [guard_takes.j4])
                              | succ kj34 =>
                                have H := HA.out
                                clear HA
                                simp only [guard_takes.j4] at H
                                by_cases c39 : x57_34 = true
                                · subst c39
                                  have H1 : (some (2, true, true)) = some (r1, r2, r3) := by rw [if_pos rfl] at H; exact H
                                  clear H
                                  have H := H1
                                  clear H1
                                  simp only [Option.some.injEq, Prod.mk.injEq] at H
                                  obtain ⟨rfl, rfl, rfl⟩ := H
                                  go_wp2
                                  go_ret3
                                  exact ⟨by first | rfl | (simp [errW_none, errW_some] <;> rfl) | (simp [*, errW_none, errW_some] <;> rfl), by repeat (first | (with_reducible first | exact HB.out | apply below_alloc | apply pw_below_drewN | apply below_drew1 | refine below_set ?_ GE101.out) | exact HB.out)⟩
                                · replace c39 := Bool.eq_false_iff.mpr c39
                                  subst c39
                                  have H1 : (if a0_0 = 14 then (some (1, true, true)) else (some ((-1), false, false))) = some (r1, r2, r3) := by rw [if_neg (show ¬ (false = true) by decide)] at H; exact H
                                  clear H
                                  have H := H1
                                  clear H1
                                  by_cases c40 : a0_0 = 14
                                  · rw [if_pos c40] at H
                                    have c40b0 : (a0_0 == 14) = true := beq_iff_eq.mpr c40
                                    have c40b1 : (a0_0 != 14) = false := bne_eq_false_iff_eq.mpr c40
                                    clear c40
                                    simp only [Option.some.injEq, Prod.mk.injEq] at H
                                    obtain ⟨rfl, rfl, rfl⟩ := H
                                    have hcz41_0 : wc.cell? ⟨gb101, 0, none⟩ = some (.int .i64 a0_0) := (blk_cell BK101.out 0).trans rfl
                                    have hcz41_1 : wc.cell? ⟨gb101, 1, none⟩ = some (.int .i64 a0_1) := (blk_cell BK101.out 1).trans rfl
                                    have hfz41_0 := blk_frozen BK101.out 0
                                    have hfz41_1 := blk_frozen BK101.out 1
                                    go_wp2
                                    go_ret3
                                    exact ⟨by first | rfl | (simp [errW_none, errW_some] <;> rfl) | (simp [*, errW_none, errW_some] <;> rfl), by repeat (first | (with_reducible first | exact HB.out | apply below_alloc | apply pw_below_drewN | apply below_drew1 | refine below_set ?_ GE101.out) | exact HB.out)⟩
                                  · rw [if_neg c40] at H
                                    have c40b0 : (a0_0 == 14) = false := beq_eq_false_iff_ne.mpr c40
                                    have c40b1 : (a0_0 != 14) = true := bne_iff_ne.mpr c40
                                    simp only [Option.some.injEq, Prod.mk.injEq] at H
                                    obtain ⟨rfl, rfl, rfl⟩ := H
                                    have hcz42_0 : wc.cell? ⟨gb101, 0, none⟩ = some (.int .i64 a0_0) := (blk_cell BK101.out 0).trans rfl
                                    have hcz42_1 : wc.cell? ⟨gb101, 1, none⟩ = some (.int .i64 a0_1) := (blk_cell BK101.out 1).trans rfl
                                    have hfz42_0 := blk_frozen BK101.out 0
                                    have hfz42_1 := blk_frozen BK101.out 1
                                    go_wp2
                                    go_ret3
                                    exact ⟨by first | rfl | (simp [errW_none, errW_some] <;> rfl) | (simp [*, errW_none, errW_some] <;> rfl), by repeat (first | (with_reducible first | exact HB.out | apply below_alloc | apply pw_below_drewN | apply below_drew1 | refine below_set ?_ GE101.out) | exact HB.out)⟩

end Go.Proofs.YtikbgoppmailjaaDoor.H
-- Written by hp.py (a program of this session, over the kit's print.py), with hand-made contracts beside it.
namespace Go.Proofs.YtikbgoppmailjaaDoor.H
open Go.RowKit Go.Proofs.YtikbgoppmailjaaDoorW.PrintWords Go.Proofs.YtikbgoppmailjaaDoorW.PrintLast Go.Proofs.YtikbgoppmailjaaDoorW.PrintMore
attribute [local go_sem] max2_int min2_int max_two min_two max_three min_three max_four min_four   -- for this text's walks alone
set_option linter.unusedVariables false
set_option linter.unusedSimpArgs false

/-! ### slices_Index_bool_bool: function 37 -/
def slices_Index_bool_bool.l0 : Nat → List Bool → Bool → Int → Int → Option (Int)
  | 0, _, _, _, _ => none
  | k + 1, x0, x1, x7, x8 => if x8 < x7 then (if 0 ≤ x8 then (if x8 < (x0.length : Int) then (if (x1 == (rdOf false x0 x8)) = true then (some x8) else (slices_Index_bool_bool.l0 k x0 x1 x7 (wrap64 (x8 + 1)))) else (none)) else (none)) else (some (-1))
def slices_Index_bool_bool.f (k : Nat) (l0 : List Bool) (a1 : Bool) : Option (Int) := slices_Index_bool_bool.l0 k l0 a1 (l0.length : Int) 0
theorem slices_Index_bool_bool.mono_l : ∀ k, (∀ y0 y1 y2 y3, LeO (slices_Index_bool_bool.l0 k y0 y1 y2 y3) (slices_Index_bool_bool.l0 (k + 1) y0 y1 y2 y3))
  | 0 => fun _ _ _ _ r h => by simp [slices_Index_bool_bool.l0] at h
  | k + 1 => by
    have ih0 := slices_Index_bool_bool.mono_l k
    · intro y0 y1 y2 y3
      unfold slices_Index_bool_bool.l0
      repeat' first
      | (with_reducible exact ih0 _ _ _ _)
      | (with_reducible exact LeO.refl _)
      | (with_reducible exact LeO.none _)
      | (with_reducible refine LeO.ite ?_ ?_)
      | (with_reducible refine LeO.bind ?_ (fun _ => ?_))
      | exact ih0 _ _ _ _
      | exact LeO.none _
      | refine LeO.ite ?_ ?_
      | refine LeO.bind ?_ (fun _ => ?_)
theorem slices_Index_bool_bool.mono : ∀ a0 a1 k, LeO (slices_Index_bool_bool.f k a0 a1) (slices_Index_bool_bool.f (k + 1) a0 a1) := by
  intro a0 a1 k
  have ih0 := slices_Index_bool_bool.mono_l k
  unfold slices_Index_bool_bool.f
  repeat' first
      | (with_reducible exact ih0 _ _ _ _)
      | (with_reducible exact LeO.refl _)
      | (with_reducible exact LeO.none _)
      | (with_reducible refine LeO.ite ?_ ?_)
      | (with_reducible refine LeO.bind ?_ (fun _ => ?_))
      | exact ih0 _ _ _ _
      | exact LeO.none _
      | refine LeO.ite ?_ ?_
      | refine LeO.bind ?_ (fun _ => ?_)
set_option maxHeartbeats 8000000 in
set_option maxRecDepth 100000 in
theorem slices_Index_bool_bool.calls (k : Nat) (A0 : Option Addr) (c0 : Nat) (l0 : List Bool) (a1 : Bool) (r : Int) (w : World) (hr0 : Kd.C Kd.bool w A0 l0.length l0) (hc0 : l0.length ≤ c0) (h : slices_Index_bool_bool.f k l0 a1 = some r) :
    Calls Tryd.prog 37 #[.slice A0 l0.length c0, .bool a1] w fun e w' => e = .returned (.int .i64 r) ∧ Drawn0 w w' := by
  have HR0 := Aside0.mk hr0
  have HC0 := Aside0.mk hc0
  clear hr0 hc0
  have H : (slices_Index_bool_bool.l0 k l0 a1 (l0.length : Int) 0) = some r := h
  clear h
  have H' := Aside0.mk H
  clear H
  go_enter Tryd.func37, Tryd.ntmps37
  go_wp2
  go_loopg [8] k (fun kq v8 w' => ∃ (x8_1 : Int), v8 = .int .i64 x8_1 ∧ Aside0 (slices_Index_bool_bool.l0 kq l0 a1 (l0.length : Int) x8_1 = some r) ∧ Aside0 (kq ≤ k) ∧ Drawn0 w w')
  case atStart => exact ⟨(0), (by first | rfl | (simp; done) | (simp [*]; done)), H', ⟨Nat.le_refl _⟩, by repeat (first | exact Drawn0.refl _ | apply Drawn0.step)⟩
  case round =>
    clear H'
    try clear p2
    obtain ⟨x8_1, rfl, HA, HK1, ⟨m1, rfl⟩⟩ := hrel
    cases gk with
    | zero => exact absurd HA.out (by simp [slices_Index_bool_bool.l0])
    | succ k1 =>
      have H := HA.out
      clear HA
      simp only [slices_Index_bool_bool.l0] at H
      by_cases c3 : x8_1 < (l0.length : Int)
      · rw [if_pos c3] at H
        have c3b0 : decide (x8_1 < (l0.length : Int)) = true := decide_eq_true c3
        clear c3
        by_cases c4 : 0 ≤ x8_1
        · rw [if_pos c4] at H
          have c4b0 : decide (0 ≤ x8_1) = true := decide_eq_true c4
          clear c4
          by_cases c5 : x8_1 < (l0.length : Int)
          · rw [if_pos c5] at H
            have c5b0 : decide (x8_1 < (l0.length : Int)) = true := decide_eq_true c5
            clear c5
            by_cases c6 : (a1 == (rdOf false l0 x8_1)) = true
            · rw [if_pos c6] at H
              have c6b0 : (a1 == (rdOf false l0 x8_1)) = true := c6
              (try (have c6b1 : decide (a1 = (rdOf false l0 x8_1)) = true := by simpa using c6))
              (try (have c6b2 : (a1 == (rdOf false l0 x8_1)) = true := by simpa using c6))
              clear c6
              obtain rfl := Option.some.inj H
              have p104 : 0 ≤ (x8_1 : Int) := of_decide_eq_true (by first | (with_reducible assumption) | assumption)
              have q104 : x8_1 < (l0.length : Int) := of_decide_eq_true (by first | (with_reducible assumption) | assumption)
              obtain ⟨ad104, e104, hx104_0⟩ := Kd.at_bool HR0.out x8_1 p104 q104
              cases e104
              replace p104 := eq_true p104
              replace q104 := eq_true q104
              go_wp2
              go_ret
              exact ⟨by first | rfl | (simp; done) | (simp [*]; done), by repeat (first | exact Drawn0.refl _ | apply Drawn0.step)⟩
            · rw [if_neg c6] at H
              have c6b0 : (a1 == (rdOf false l0 x8_1)) = false := by simpa using c6
              (try (have c6b1 : decide (a1 = (rdOf false l0 x8_1)) = false := by simpa using c6))
              (try (have c6b2 : (a1 == (rdOf false l0 x8_1)) = false := by simpa using c6))
              (try (have c6b3 : ¬ (a1 = (rdOf false l0 x8_1)) := by simpa using c6))
              clear c6
              have H' := Aside0.mk H
              clear H
              have p104 : 0 ≤ (x8_1 : Int) := of_decide_eq_true (by first | (with_reducible assumption) | assumption)
              have q104 : x8_1 < (l0.length : Int) := of_decide_eq_true (by first | (with_reducible assumption) | assumption)
              obtain ⟨ad104, e104, hx104_0⟩ := Kd.at_bool HR0.out x8_1 p104 q104
              cases e104
              replace p104 := eq_true p104
              replace q104 := eq_true q104
              go_wp2
              go_roundg k1
              case measure => have := HK1.out; omega
              case rel => exact ⟨(wrap64 (x8_1 + 1)), (by first | rfl | (simp; done) | (simp [*]; done)), H', ⟨by have := HK1.out; omega⟩, by repeat (first | exact Drawn0.refl _ | apply Drawn0.step)⟩
          · rw [if_neg c5] at H
            exact absurd H (by simp)
        · rw [if_neg c4] at H
          exact absurd H (by simp)
      · rw [if_neg c3] at H
        have c3b0 : decide (x8_1 < (l0.length : Int)) = false := decide_eq_false c3
        clear c3
        obtain rfl := Option.some.inj H
        go_wp2
        go_ret
        exact ⟨by first | rfl | (simp; done) | (simp [*]; done), by repeat (first | exact Drawn0.refl _ | apply Drawn0.step)⟩

/-! ### slices_Contains_bool_bool: function 21 -/
def slices_Contains_bool_bool.f (k : Nat) (l0 : List Bool) (a1 : Bool) : Option (Bool) := (slices_Index_bool_bool.f k l0 a1).bind fun t105 => (some (decide (t105 ≥ 0)))
theorem slices_Contains_bool_bool.mono : ∀ a0 a1 k, LeO (slices_Contains_bool_bool.f k a0 a1) (slices_Contains_bool_bool.f (k + 1) a0 a1) := by
  intro a0 a1 k
  unfold slices_Contains_bool_bool.f
  repeat' first
      | (with_reducible exact slices_Index_bool_bool.mono _ _ _)
      | (with_reducible exact LeO.refl _)
      | (with_reducible exact LeO.none _)
      | (with_reducible refine LeO.ite ?_ ?_)
      | (with_reducible refine LeO.bind ?_ (fun _ => ?_))
      | exact slices_Index_bool_bool.mono _ _ _
      | exact LeO.none _
      | refine LeO.ite ?_ ?_
      | refine LeO.bind ?_ (fun _ => ?_)
set_option maxHeartbeats 8000000 in
set_option maxRecDepth 100000 in
theorem slices_Contains_bool_bool.calls (k : Nat) (A0 : Option Addr) (c0 : Nat) (l0 : List Bool) (a1 : Bool) (r : Bool) (w : World) (hr0 : Kd.C Kd.bool w A0 l0.length l0) (hc0 : l0.length ≤ c0) (h : slices_Contains_bool_bool.f k l0 a1 = some r) :
    Calls Tryd.prog 21 #[.slice A0 l0.length c0, .bool a1] w fun e w' => e = .returned (.bool r) ∧ Drawn0 w w' := by
  have HR0 := Aside0.mk hr0
  have HC0 := Aside0.mk hc0
  clear hr0 hc0
  have H : ((slices_Index_bool_bool.f k l0 a1).bind fun t105 => (some (decide (t105 ≥ 0)))) = some r := h
  clear h
  replace H := Option.bind_eq_some_iff.mp H
  obtain ⟨t105, A30, H⟩ := H
  replace H : (some (decide (t105 ≥ 0))) = some r := H
  have A3 := Aside0.mk A30
  clear A30
  obtain rfl := Option.some.inj H
  go_enter Tryd.func21, Tryd.ntmps21
  go_wp2_with (first | ((with_reducible refine gate_callee (f := 37) rfl ?_); refine goesL_ (some 7) rfl rfl Tryd.func37 (by kernel_rfl) rfl #[.slice A0 l0.length c0, .bool a1] rfl (by (try simp only [List.map_toArray, List.map_cons, List.map_nil]); first | done | rfl | (simp only [List.length_drop, List.length_take]; rfl)) ?_; (with_reducible refine (slices_Index_bool_bool.calls k _ _ l0 a1 t105 _ ?side1 ?side2 A3.out).mono ?_); (case side1 => repeat (first | exact HR0.out | (with_reducible refine Kd.C_alloc ?_ _) | (with_reducible refine Kd.C_drewN ?_ _) | (with_reducible refine Kd.C_drew ?_))); (case side2 => exact HC0.out); rintro e w' ⟨rfl, ⟨nd, rfl⟩⟩; refine ⟨_, rfl, ?_⟩))
  go_ret
  exact ⟨by first | rfl | (simp; done) | (simp [*]; done), by repeat (first | exact Drawn0.refl _ | apply Drawn0.step)⟩

end Go.Proofs.YtikbgoppmailjaaDoor.H
-- Written by hp.py (a program of this session, over the kit's print.py), with hand-made contracts beside it.
namespace Go.Proofs.YtikbgoppmailjaaDoor.H
open Go.RowKit Go.Proofs.YtikbgoppmailjaaDoorW.PrintWords Go.Proofs.YtikbgoppmailjaaDoorW.PrintLast Go.Proofs.YtikbgoppmailjaaDoorW.PrintMore
attribute [local go_sem] max2_int min2_int max_two min_two max_three min_three max_four min_four   -- for this text's walks alone
set_option linter.unusedVariables false
set_option linter.unusedSimpArgs false

/-! ### guard_Good: function 11 -/
mutual
def guard_Good.l0 : Nat → List Bool → List (S33) → Int → Int → Option (Bool)
  | 0, _, _, _, _ => none
  | k + 1, x3, x10, x11, x12 => if x12 < x11 then (if 0 ≤ x12 then (if x12 < (x10.length : Int) then ((guard_takes.f k ((rd_T33 x10 x12).f0) ((rd_T33 x10 x12).f1)).bind fun bt109 => (if bt109.1 < 0 then (guard_Good.j1 k x3 bt109.1 bt109.2.1 bt109.2.2 x10 x11 x12 true) else (guard_Good.j1 k x3 bt109.1 bt109.2.1 bt109.2.2 x10 x11 x12 (decide ((x3.length : Int) < bt109.1))))) else (none)) else (none)) else (if (x3.length : Int) = 1 then (if 0 < (x3.length : Int) then (some (rdOf false x3 0)) else (none)) else (some false))
def guard_Good.j1 : Nat → List Bool → Int → Bool → Bool → List (S33) → Int → Int → Bool → Option (Bool)
  | 0, _, _, _, _, _, _, _, _ => none
  | k + 1, x3, x6, x7, x8, x10, x11, x12, x29 => if x29 = true then (some false) else (if 0 ≤ (wrap64 ((x3.length : Int) - x6)) then (if (wrap64 ((x3.length : Int) - x6)) ≤ (x3.length : Int) then ((slices_Contains_bool_bool.f k (x3.drop ((wrap64 ((x3.length : Int) - x6)) : Int).toNat) (!x7)).bind fun t116 => (if t116 = true then (some false) else ((some (x3.take ((wrap64 ((x3.length : Int) - x6)) : Int).toNat : List Bool)).bind fun y117 => (if y117.length < 140737488355328 then (guard_Good.l0 k (y117 ++ [x8]) x10 x11 (wrap64 (x12 + 1))) else (none))))) else (none)) else (none))
end
def guard_Good.f (k : Nat) (l0 : List (S33)) : Option (Bool) := guard_Good.l0 k ([] : List Bool) l0 (l0.length : Int) 0
theorem guard_Good.mono_l : ∀ k, (∀ y0 y1 y2 y3, LeO (guard_Good.l0 k y0 y1 y2 y3) (guard_Good.l0 (k + 1) y0 y1 y2 y3)) ∧ (∀ y0 y1 y2 y3 y4 y5 y6 y7, LeO (guard_Good.j1 k y0 y1 y2 y3 y4 y5 y6 y7) (guard_Good.j1 (k + 1) y0 y1 y2 y3 y4 y5 y6 y7))
  | 0 => ⟨fun _ _ _ _ r h => by simp [guard_Good.l0] at h, fun _ _ _ _ _ _ _ _ r h => by simp [guard_Good.j1] at h⟩
  | k + 1 => by
    obtain ⟨ih0, ih1⟩ := guard_Good.mono_l k
    refine ⟨?_, ?_⟩
    · intro y0 y1 y2 y3
      unfold guard_Good.l0
      repeat' first
      | (with_reducible exact ih0 _ _ _ _)
      | (with_reducible exact ih1 _ _ _ _ _ _ _ _)
      | (with_reducible exact guard_takes.mono _ _ _)
      | (with_reducible exact slices_Contains_bool_bool.mono _ _ _)
      | (with_reducible exact LeO.refl _)
      | (with_reducible exact LeO.none _)
      | (with_reducible refine LeO.ite ?_ ?_)
      | (with_reducible refine LeO.bind ?_ (fun _ => ?_))
      | exact ih0 _ _ _ _
      | exact ih1 _ _ _ _ _ _ _ _
      | exact guard_takes.mono _ _ _
      | exact slices_Contains_bool_bool.mono _ _ _
      | exact LeO.none _
      | refine LeO.ite ?_ ?_
      | refine LeO.bind ?_ (fun _ => ?_)
    · intro y0 y1 y2 y3 y4 y5 y6 y7
      unfold guard_Good.j1
      repeat' first
      | (with_reducible exact ih0 _ _ _ _)
      | (with_reducible exact ih1 _ _ _ _ _ _ _ _)
      | (with_reducible exact guard_takes.mono _ _ _)
      | (with_reducible exact slices_Contains_bool_bool.mono _ _ _)
      | (with_reducible exact LeO.refl _)
      | (with_reducible exact LeO.none _)
      | (with_reducible refine LeO.ite ?_ ?_)
      | (with_reducible refine LeO.bind ?_ (fun _ => ?_))
      | exact ih0 _ _ _ _
      | exact ih1 _ _ _ _ _ _ _ _
      | exact guard_takes.mono _ _ _
      | exact slices_Contains_bool_bool.mono _ _ _
      | exact LeO.none _
      | refine LeO.ite ?_ ?_
      | refine LeO.bind ?_ (fun _ => ?_)
theorem guard_Good.mono : ∀ a0 k, LeO (guard_Good.f k a0) (guard_Good.f (k + 1) a0) := by
  intro a0 k
  obtain ⟨ih0, ih1⟩ := guard_Good.mono_l k
  unfold guard_Good.f
  repeat' first
      | (with_reducible exact ih0 _ _ _ _)
      | (with_reducible exact ih1 _ _ _ _ _ _ _ _)
      | (with_reducible exact guard_takes.mono _ _ _)
      | (with_reducible exact slices_Contains_bool_bool.mono _ _ _)
      | (with_reducible exact LeO.refl _)
      | (with_reducible exact LeO.none _)
      | (with_reducible refine LeO.ite ?_ ?_)
      | (with_reducible refine LeO.bind ?_ (fun _ => ?_))
      | exact ih0 _ _ _ _
      | exact ih1 _ _ _ _ _ _ _ _
      | exact guard_takes.mono _ _ _
      | exact slices_Contains_bool_bool.mono _ _ _
      | exact LeO.none _
      | refine LeO.ite ?_ ?_
      | refine LeO.bind ?_ (fun _ => ?_)
set_option maxHeartbeats 8000000 in
set_option maxRecDepth 100000 in
theorem guard_Good.calls (k : Nat) (A0 : Option Addr) (c0 : Nat) (l0 : List (S33)) (r : Bool) (w : World) (hr0 : Kd.C k33 w A0 l0.length l0) (hc0 : l0.length ≤ c0) (h : guard_Good.f k l0 = some r) :
    Calls Tryd.prog 11 #[.slice A0 l0.length c0] w fun e w' => e = .returned (.bool r) ∧ Below w.heap.size w w' := by
  have hu33 := Tryd.underlying33
  have HR0 := Aside0.mk hr0
  have HC0 := Aside0.mk hc0
  clear hr0 hc0
  have HB := Aside0.mk (Below.refl w.heap.size w)
  have H : (guard_Good.l0 k ([] : List Bool) l0 (l0.length : Int) 0) = some r := h
  clear h
  have H' := Aside0.mk H
  clear H
  go_enter Tryd.func11, Tryd.ntmps11
  go_wp2
  go_loopg [3, 12] k (fun kq v3 v12 w' => ∃ (x3_1 : List Bool) (x12_1 : Int), v12 = .int .i64 x12_1 ∧ Aside0 (guard_Good.l0 kq x3_1 l0 (l0.length : Int) x12_1 = some r) ∧ Aside0 (kq ≤ k) ∧ Aside0 (Kd.R Kd.bool 4 w' w.heap.size (fun _ => True) v3 x3_1) ∧ Aside0 (Below w.heap.size w w'))
  case atStart => exact ⟨(([] : List Bool)), (0), (by first | rfl | (simp; done) | (simp [*]; done)), H', ⟨Nat.le_refl _⟩, ⟨by first | exact Kd.R_nil _ _ _ _ _ | exact Kd.N_nil _ _ _ _ _ | exact Kd.V_nil _ _ _ _ _ | exact Kd.Q_nil _ _ _ _ _ | exact Kd.S_nil _ _ _ _ _⟩, ⟨by repeat (first | (with_reducible first | exact HB.out | apply below_alloc | apply pw_below_drewN | apply below_drew1) | exact HB.out)⟩⟩
  case round =>
    clear H'
    try clear c1
    obtain ⟨x3_1, x12_1, rfl, HA, HK1, HO_3, HB⟩ := hrel
    cases gk with
    | zero => exact absurd HA.out (by simp [guard_Good.l0])
    | succ k1 =>
      have H := HA.out
      clear HA
      simp only [guard_Good.l0] at H
      by_cases c2 : x12_1 < (l0.length : Int)
      · rw [if_pos c2] at H
        have c2b0 : decide (x12_1 < (l0.length : Int)) = true := decide_eq_true c2
        clear c2
        by_cases c3 : 0 ≤ x12_1
        · rw [if_pos c3] at H
          have c3b0 : decide (0 ≤ x12_1) = true := decide_eq_true c3
          clear c3
          by_cases c4 : x12_1 < (l0.length : Int)
          · rw [if_pos c4] at H
            have c4b0 : decide (x12_1 < (l0.length : Int)) = true := decide_eq_true c4
            clear c4
            replace H := Option.bind_eq_some_iff.mp H
            obtain ⟨⟨t109, t110, t111⟩, A50, H⟩ := H
            replace H : (if t109 < 0 then (guard_Good.j1 k1 x3_1 t109 t110 t111 l0 (l0.length : Int) x12_1 true) else (guard_Good.j1 k1 x3_1 t109 t110 t111 l0 (l0.length : Int) x12_1 (decide ((x3_1.length : Int) < t109)))) = some r := H
            have A5 := Aside0.mk A50
            clear A50
            have HC6 := Aside0.mk H
            clear H
            have p107 : 0 ≤ (x12_1 : Int) := of_decide_eq_true (by first | (with_reducible assumption) | assumption)
            have q107 : x12_1 < (l0.length : Int) := of_decide_eq_true (by first | (with_reducible assumption) | assumption)
            obtain ⟨ad107, e107, hx107_0, hx107_1⟩ := at_T33 HR0.out x12_1 p107 q107
            cases e107
            replace hx107_0 := (HB.out.cell (World.block_lt_of_cell? w _ hx107_0)).trans hx107_0
            replace hx107_1 := (HB.out.cell (World.block_lt_of_cell? w _ hx107_1)).trans hx107_1
            replace p107 := eq_true p107
            replace q107 := eq_true q107
            go_upto_region 6 with (first | ((with_reducible refine gate_dst (N := 5) rfl ?_); (try (refine gate_guard (by rfl) ?_; dsimp only)); refine box_event ?hg (N := 5) ?hd (cs := #[.int .i64 0, .int .i64 0]) (t := 33) ?hr ?_; (case hd => rfl); (case hg => rfl); (case hr => first | (go_simp; done) | (go_simp; rfl)); intro gb108 hg w7 hbox hb; have n0_ := Aside0.mk (Kd.R_below (by (with_reducible repeat (first | apply Kd.R_alloc | apply Kd.R_drewN | apply Kd.R_drew)); exact HO_3.out) hb); have n1_ := Aside0.mk (below_step (by repeat (first | (with_reducible first | exact HB.out | apply below_alloc | apply pw_below_drewN | apply below_drew1) | exact HB.out)) hb); have n2_ := Aside0.mk (hbox); have n3_ := Aside0.mk ((by rw [hg]; exact (below_size (by repeat (first | (with_reducible first | exact HB.out | apply below_alloc | apply pw_below_drewN | apply below_drew1) | exact HB.out))) : w.heap.size ≤ gb108)); have n4_ := Aside0.mk ((by rw [hg]; exact (below_size (by repeat (first | (with_reducible first | exact HB.out | apply below_alloc | apply pw_below_drewN | apply below_drew1) | exact HB.out))) : w.heap.size ≤ gb108)); clear HO_3; clear HB; have HO_3 := n0_; have HB := n1_; have BK108 := n2_; have GW108 := n3_; have GE108 := n4_; clear n0_ n1_ n2_ n3_ n4_; clear hb hbox hg; have hcz8_0 : w7.cell? ⟨gb108, 0, none⟩ = some (.int .i64 0) := (blk_cell BK108.out 0).trans rfl; have hcz8_1 : w7.cell? ⟨gb108, 1, none⟩ = some (.int .i64 0) := (blk_cell BK108.out 1).trans rfl; have hfz8_0 := blk_frozen BK108.out 0; have hfz8_1 := blk_frozen BK108.out 1) | ((with_reducible refine gate_callee (f := 15) rfl ?_); refine goesL_ (some 18) rfl rfl Tryd.func15 (by kernel_rfl) rfl #[.agg #[.int .i64 ((rd_T33 l0 x12_1).f0), .int .i64 ((rd_T33 l0 x12_1).f1)]] rfl (by (try simp only [List.map_toArray, List.map_cons, List.map_nil]); first | done | rfl | (simp only [List.length_drop, List.length_take]; rfl)) ?_; (with_reducible refine (guard_takes.calls k1 ((rd_T33 l0 x12_1).f0) ((rd_T33 l0 x12_1).f1) t109 t110 t111 _ A5.out).mono ?_); rintro e w9 ⟨rfl, hb⟩; refine ⟨_, rfl, ?_⟩; have n0_ := Aside0.mk (Kd.R_below (by (with_reducible repeat (first | apply Kd.R_alloc | apply Kd.R_drewN | apply Kd.R_drew)); exact (Kd.R_mono (Kd.R_far (p := ⟨gb108, 1, none⟩) (Kd.R_far (p := ⟨gb108, 0, none⟩) (Kd.R_types HO_3.out BK108.out (by decide)) (fun _ hk => hk.2) (.int .i64 ((rd_T33 l0 x12_1).f0))) (fun _ hk => hk.2) (.int .i64 ((rd_T33 l0 x12_1).f1))) (fun _ h_ => h_.1))) hb); have n1_ := Aside0.mk (blk_below (g := gb108) (o := .cells #[.int .i64 ((rd_T33 l0 x12_1).f0), .int .i64 ((rd_T33 l0 x12_1).f1)] 33 (0, 0)) (by (with_reducible repeat (first | refine blk_drewN ?_ _ | refine blk_drew ?_ | refine blk_alloc ?_ _)); refine blk_put (cs := #[.int .i64 ((rd_T33 l0 x12_1).f0), .int .i64 0]) ?_ 1 _ rfl; (with_reducible repeat (first | refine blk_drewN ?_ _ | refine blk_drew ?_ | refine blk_alloc ?_ _)); refine blk_put (cs := #[.int .i64 0, .int .i64 0]) ?_ 0 _ rfl; (with_reducible repeat (first | refine blk_drewN ?_ _ | refine blk_drew ?_ | refine blk_alloc ?_ _)); exact BK108.out) hb); have n2_ := Aside0.mk (below_step (by repeat (first | (with_reducible first | exact HB.out | apply below_alloc | apply pw_below_drewN | apply below_drew1 | refine below_set ?_ GE108.out) | exact HB.out)) hb); clear HO_3; clear BK108; clear HB; have HO_3 := n0_; have BK108 := n1_; have HB := n2_; clear n0_ n1_ n2_; (try clear hb); (try clear hb2); (try clear hk); (try clear hi)))
            (try simp only [Act.put, List.setIfInBounds_toArray, List.set_cons_zero, List.set_cons_succ])
            go_cut [29] (fun v29 wc => ∃ (kq : Nat) (x29_5 : Bool), v29 = .bool x29_5 ∧ Aside0 (guard_Good.j1 kq x3_1 t109 t110 t111 l0 (l0.length : Int) x12_1 x29_5 = some r) ∧ Aside0 (kq ≤ k1) ∧ Aside0 (Kd.R Kd.bool 4 wc w.heap.size (fun _ => True) u3 x3_1) ∧ Aside0 (wc.heap[gb108]? = some (.cells #[.int .i64 ((rd_T33 l0 x12_1).f0), .int .i64 ((rd_T33 l0 x12_1).f1)] 33 (0, 0))) ∧ Aside0 (Below w.heap.size w wc))
            case first =>
              have H := HC6.out
              clear HC6
              by_cases c10 : t109 < 0
              · rw [if_pos c10] at H
                have c10b0 : decide (t109 < 0) = true := decide_eq_true c10
                clear c10
                (first | rw [c10b0] | (simp only [i64_w, i32_w]; rw [c10b0]) | skip)
                have H' := Aside0.mk H
                clear H
                go_wp2
                go_meet
                case rel => exact ⟨_, (true), (by first | rfl | (simp; done) | (simp [*]; done)), H', ⟨by have := HK1.out; first | omega | exact Nat.le_refl _⟩, ⟨by (with_reducible repeat (first | apply Kd.R_alloc | apply Kd.R_drewN | apply Kd.R_drew)); exact HO_3.out⟩, ⟨by (with_reducible repeat (first | refine blk_drewN ?_ _ | refine blk_drew ?_ | refine blk_alloc ?_ _)); exact BK108.out⟩, ⟨by repeat (first | (with_reducible first | exact HB.out | apply below_alloc | apply pw_below_drewN | apply below_drew1 | refine below_set ?_ GE108.out) | exact HB.out)⟩⟩
              · rw [if_neg c10] at H
                have c10b0 : decide (t109 < 0) = false := decide_eq_false c10
                clear c10
                (first | rw [c10b0] | (simp only [i64_w, i32_w]; rw [c10b0]) | skip)
                have H' := Aside0.mk H
                clear H
                obtain ⟨Ao11, co11, eo11⟩ := Kd.R_slice HO_3.out
                subst eo11
                go_wp2
                go_meet
                case rel => exact ⟨_, (decide ((x3_1.length : Int) < t109)), (by first | rfl | (simp; done) | (simp [*]; done)), H', ⟨by have := HK1.out; first | omega | exact Nat.le_refl _⟩, ⟨by (with_reducible repeat (first | apply Kd.R_alloc | apply Kd.R_drewN | apply Kd.R_drew)); exact HO_3.out⟩, ⟨by (with_reducible repeat (first | refine blk_drewN ?_ _ | refine blk_drew ?_ | refine blk_alloc ?_ _)); exact BK108.out⟩, ⟨by repeat (first | (with_reducible first | exact HB.out | apply below_alloc | apply pw_below_drewN | apply below_drew1 | refine below_set ?_ GE108.out) | exact HB.out)⟩⟩
            case rest =>
              clear HC6
              try clear c1
              try clear p1
              try clear q1
              try clear hx1
              try clear c2
              try clear c2b0
              try clear p2
              try clear c3
              try clear c3b0
              try clear c4
              try clear c4b0
              try clear c10
              try clear c10b0
              try clear p10
              try clear q10
              try clear hx10
              try clear c11
              try clear hcz8_0
              try clear hcz8_1
              try clear hfz8_0
              try clear hfz8_1
              try clear hx107_0
              try clear hx107_1
              try clear p107
              try clear q107
              obtain ⟨kq, x29_5, rfl, HA, HJ5, HO_3, BK108, HB⟩ := hcut
              cases kq with
              | zero => exact absurd HA.out (by simp [guard_Good.j1])
              | succ kj5 =>
                have H := HA.out
                clear HA
                simp only [guard_Good.j1] at H
                by_cases c12 : x29_5 = true
                · subst c12
                  have H1 : (some false) = some r := by rw [if_pos rfl] at H; exact H
                  clear H
                  have H := H1
                  clear H1
                  obtain rfl := Option.some.inj H
                  go_wp2
                  go_ret
                  exact ⟨by first | rfl | (simp [errW_none, errW_some] <;> rfl) | (simp [*, errW_none, errW_some] <;> rfl), by repeat (first | (with_reducible first | exact HB.out | apply below_alloc | apply pw_below_drewN | apply below_drew1 | refine below_set ?_ GE108.out) | exact HB.out)⟩
                · replace c12 := Bool.eq_false_iff.mpr c12
                  subst c12
                  have H1 : (if 0 ≤ (wrap64 ((x3_1.length : Int) - t109)) then (if (wrap64 ((x3_1.length : Int) - t109)) ≤ (x3_1.length : Int) then ((slices_Contains_bool_bool.f kj5 (x3_1.drop ((wrap64 ((x3_1.length : Int) - t109)) : Int).toNat) (!t110)).bind fun t116 => (if t116 = true then (some false) else ((some (x3_1.take ((wrap64 ((x3_1.length : Int) - t109)) : Int).toNat : List Bool)).bind fun y117 => (if y117.length < 140737488355328 then (guard_Good.l0 kj5 (y117 ++ [t111]) l0 (l0.length : Int) (wrap64 (x12_1 + 1))) else (none))))) else (none)) else (none)) = some r := by rw [if_neg (show ¬ (false = true) by decide)] at H; exact H
                  clear H
                  have H := H1
                  clear H1
                  obtain ⟨ji13, hji13⟩ : ∃ j_ : Int, (wrap64 ((x3_1.length : Int) - t109)) = j_ := ⟨_, rfl⟩
                  replace H : (if 0 ≤ (ji13) then (if (ji13) ≤ (x3_1.length : Int) then ((slices_Contains_bool_bool.f kj5 (x3_1.drop ((ji13) : Int).toNat) (!t110)).bind fun t116 => (if t116 = true then (some false) else ((some (x3_1.take ((ji13) : Int).toNat : List Bool)).bind fun y117 => (if y117.length < 140737488355328 then (guard_Good.l0 kj5 (y117 ++ [t111]) l0 (l0.length : Int) (wrap64 (x12_1 + 1))) else (none))))) else (none)) else (none)) = some r := by first | (rw [hji13] at H; exact H) | (simp only [hji13] at H ⊢; exact H)
                  have hji13w : (IntKind.i64.wrap ((x3_1.length : Int) - t109)) = ji13 := (i64_w _).trans hji13
                  by_cases c14 : 0 ≤ (ji13)
                  · rw [if_pos c14] at H
                    have c14b0 := eq_true c14
                    have c14b1 : decide (0 ≤ (ji13)) = true := decide_eq_true c14
                    clear c14
                    by_cases c15 : (ji13) ≤ (x3_1.length : Int)
                    · rw [if_pos c15] at H
                      have c15b0 := eq_true c15
                      have c15b1 : decide ((ji13) ≤ (x3_1.length : Int)) = true := decide_eq_true c15
                      clear c15
                      obtain ⟨y112, hy112⟩ : ∃ y_ : List Bool, y_ = (x3_1.drop ((ji13) : Int).toNat) := ⟨_, rfl⟩
                      replace H : ((slices_Contains_bool_bool.f kj5 y112 (!t110)).bind fun t116 => (if t116 = true then (some false) else ((some (x3_1.take ((ji13) : Int).toNat : List Bool)).bind fun y117 => (if y117.length < 140737488355328 then (guard_Good.l0 kj5 (y117 ++ [t111]) l0 (l0.length : Int) (wrap64 (x12_1 + 1))) else (none))))) = some r := by first | (rw [hy112]; with_reducible exact H) | (have H2_ := (Option.bind_some _ _).symm.trans H; rw [hy112]; with_reducible exact H2_) | (have H2_ := (Option.bind_some _ _).symm.trans H; with_reducible exact H2_) | with_reducible exact H | (rw [hy112]; exact H) | exact H
                      have Ny112 := Aside0.mk hy112
                      clear hy112
                      replace H := Option.bind_eq_some_iff.mp H
                      obtain ⟨t116, A160, H⟩ := H
                      replace H : (if t116 = true then (some false) else ((some (x3_1.take ((ji13) : Int).toNat : List Bool)).bind fun y117 => (if y117.length < 140737488355328 then (guard_Good.l0 kj5 (y117 ++ [t111]) l0 (l0.length : Int) (wrap64 (x12_1 + 1))) else (none)))) = some r := H
                      have A16 := Aside0.mk A160
                      clear A160
                      by_cases c17 : t116 = true
                      · subst c17
                        have H1 : (some false) = some r := by rw [if_pos rfl] at H; exact H
                        clear H
                        have H := H1
                        clear H1
                        obtain rfl := Option.some.inj H
                        obtain ⟨Ao18, co18, eo18⟩ := Kd.R_slice HO_3.out
                        subst eo18
                        have q19 : ((ji13) : Int) ≤ ((x3_1.length : Int) : Int) := of_decide_eq_true (by first | (with_reducible assumption) | assumption)
                        obtain ⟨i019, hi019, _, hsz19, _⟩ := info_parts info4
                        have hroom19 : x3_1.length ≤ co18 := (Kd.R_reads' HO_3.out).2.1
                        have hC19 : Kd.C Kd.bool _ Ao18 x3_1.length x3_1 := (Kd.R_reads' HO_3.out).2.2
                        have q019 : (0 : Int) ≤ ((ji13) : Int) := of_decide_eq_true (by first | (with_reducible assumption) | assumption)
                        have hcut19 := cut_from (P := Tryd.prog) 59 4 .i64 Tryd.underlying59 hi019 1 hsz19 Ao18 x3_1.length co18 (ji13) q019 q19
                        have hr19 := Kd.C_drop (m := ((ji13) : Int).toNat) (c := co18) hC19 (by omega) hroom19
                        obtain ⟨A19, hA19⟩ : ∃ A1, A1 = (if co18 = ((ji13) : Int).toNat then Ao18 else (Ao18 : Option Addr).map (·.add (((ji13) : Int).toNat * 1))) := ⟨_, rfl⟩
                        obtain ⟨c19, hc19⟩ : ∃ c1, c1 = co18 - ((ji13) : Int).toNat := ⟨_, rfl⟩
                        have hy19 : y112.length = x3_1.length - ((ji13) : Int).toNat := (by rw [Ny112.out, List.length_drop] <;> omega)
                        rw [show (x3_1).drop ((ji13) : Int).toNat = y112 from Ny112.out.symm] at hr19
                        replace hr19 : Kd.C Kd.bool _ A19 y112.length y112 := (by rw [hA19]; exact hr19)
                        rw [← hy19, ← hA19, ← hc19] at hcut19
                        have HR115 := Aside0.mk hr19
                        have HC115 := Aside0.mk (show y112.length ≤ c19 from by rw [hy19, hc19]; exact Nat.sub_le_sub_right hroom19 _)
                        clear hr19 hC19 hroom19 hi019 hsz19 hc19
                        have KY19 := Aside0.mk hy19
                        have KA19 := Aside0.mk hA19
                        clear hy19 hA19
                        have KL19 := Aside0.mk (show ((ji13) : Int).toNat ≤ x3_1.length from by omega)
                        replace q19 := eq_true q19
                        go_wp2_with (first | ((with_reducible refine gate_callee (f := 21) rfl ?_); refine goesL_ (some 39) rfl rfl Tryd.func21 (by kernel_rfl) rfl #[.slice A19 y112.length c19, .bool (!t110)] rfl (by (try simp only [List.map_toArray, List.map_cons, List.map_nil]); first | done | rfl | (simp only [List.length_drop, List.length_take]; rfl)) ?_; (with_reducible refine (slices_Contains_bool_bool.calls kj5 _ _ y112 (!t110) true _ ?side1 ?side2 A16.out).mono ?_); (case side1 => repeat (first | exact (by repeat (first | (with_reducible exact HR115.out) | (with_reducible refine Kd.C_alloc ?_ _) | (with_reducible refine Kd.C_drewN ?_ _) | (with_reducible refine Kd.C_drew ?_) | exact HR115.out)) | (with_reducible refine Kd.C_alloc ?_ _) | (with_reducible refine Kd.C_drewN ?_ _) | (with_reducible refine Kd.C_drew ?_))); (case side2 => exact HC115.out); rintro e w' ⟨rfl, ⟨nd, rfl⟩⟩; refine ⟨_, rfl, ?_⟩))
                        go_ret
                        exact ⟨by first | rfl | (simp [errW_none, errW_some] <;> rfl) | (simp only [← hji13]; first | rfl | (simp [errW_none, errW_some] <;> rfl)) | (simp [*, errW_none, errW_some] <;> rfl), by repeat (first | (with_reducible first | exact HB.out | apply below_alloc | apply pw_below_drewN | apply below_drew1 | refine below_set ?_ GE108.out) | exact HB.out)⟩
                      · replace c17 := Bool.eq_false_iff.mpr c17
                        subst c17
                        have H1 : ((some (x3_1.take ((ji13) : Int).toNat : List Bool)).bind fun y117 => (if y117.length < 140737488355328 then (guard_Good.l0 kj5 (y117 ++ [t111]) l0 (l0.length : Int) (wrap64 (x12_1 + 1))) else (none))) = some r := by rw [if_neg (show ¬ (false = true) by decide)] at H; exact H
                        clear H
                        have H := H1
                        clear H1
                        have c20b0 := eq_true (of_decide_eq_true (by first | (with_reducible assumption) | assumption) : (ji13) ≤ (x3_1.length : Int))
                        obtain ⟨y117, hy117⟩ : ∃ y_ : List Bool, y_ = (x3_1.take ((ji13) : Int).toNat) := ⟨_, rfl⟩
                        replace H : (if y117.length < 140737488355328 then (guard_Good.l0 kj5 (y117 ++ [t111]) l0 (l0.length : Int) (wrap64 (x12_1 + 1))) else (none)) = some r := by first | (rw [hy117]; with_reducible exact H) | (have H2_ := (Option.bind_some _ _).symm.trans H; rw [hy117]; with_reducible exact H2_) | (have H2_ := (Option.bind_some _ _).symm.trans H; with_reducible exact H2_) | with_reducible exact H | (rw [hy117]; exact H) | exact H
                        have Ny117 := Aside0.mk hy117
                        clear hy117
                        by_cases c21 : y117.length < 140737488355328
                        · rw [if_pos c21] at H
                          have LMc21 := Aside0.mk c21
                          clear c21
                          obtain ⟨y120, hy120⟩ : ∃ y_ : List Bool, y_ = (y117 ++ [t111]) := ⟨_, rfl⟩
                          replace H : (guard_Good.l0 kj5 y120 l0 (l0.length : Int) (wrap64 (x12_1 + 1))) = some r := by first | (rw [hy120]; with_reducible exact H) | (have H2_ := (Option.bind_some _ _).symm.trans H; rw [hy120]; with_reducible exact H2_) | (have H2_ := (Option.bind_some _ _).symm.trans H; with_reducible exact H2_) | with_reducible exact H | (rw [hy120]; exact H) | exact H
                          have Ny120 := Aside0.mk hy120
                          clear hy120
                          have H' := Aside0.mk H
                          clear H
                          obtain ⟨Ao22, co22, eo22⟩ := Kd.R_slice HO_3.out
                          subst eo22
                          have q23 : ((ji13) : Int) ≤ ((x3_1.length : Int) : Int) := of_decide_eq_true (by first | (with_reducible assumption) | assumption)
                          obtain ⟨i023, hi023, _, hsz23, _⟩ := info_parts info4
                          have hroom23 : x3_1.length ≤ co22 := (Kd.R_reads' HO_3.out).2.1
                          have hC23 : Kd.C Kd.bool _ Ao22 x3_1.length x3_1 := (Kd.R_reads' HO_3.out).2.2
                          have q023 : (0 : Int) ≤ ((ji13) : Int) := of_decide_eq_true (by first | (with_reducible assumption) | assumption)
                          have hcut23 := cut_from (P := Tryd.prog) 59 4 .i64 Tryd.underlying59 hi023 1 hsz23 Ao22 x3_1.length co22 (ji13) q023 q23
                          have hr23 := Kd.C_drop (m := ((ji13) : Int).toNat) (c := co22) hC23 (by omega) hroom23
                          obtain ⟨A23, hA23⟩ : ∃ A1, A1 = (if co22 = ((ji13) : Int).toNat then Ao22 else (Ao22 : Option Addr).map (·.add (((ji13) : Int).toNat * 1))) := ⟨_, rfl⟩
                          obtain ⟨c23, hc23⟩ : ∃ c1, c1 = co22 - ((ji13) : Int).toNat := ⟨_, rfl⟩
                          have hy23 : y112.length = x3_1.length - ((ji13) : Int).toNat := (by rw [Ny112.out, List.length_drop] <;> omega)
                          rw [show (x3_1).drop ((ji13) : Int).toNat = y112 from Ny112.out.symm] at hr23
                          replace hr23 : Kd.C Kd.bool _ A23 y112.length y112 := (by rw [hA23]; exact hr23)
                          rw [← hy23, ← hA23, ← hc23] at hcut23
                          have HR115 := Aside0.mk hr23
                          have HC115 := Aside0.mk (show y112.length ≤ c23 from by rw [hy23, hc23]; exact Nat.sub_le_sub_right hroom23 _)
                          clear hr23 hC23 hroom23 hi023 hsz23 hc23
                          have KY23 := Aside0.mk hy23
                          have KA23 := Aside0.mk hA23
                          clear hy23 hA23
                          have KL23 := Aside0.mk (show ((ji13) : Int).toNat ≤ x3_1.length from by omega)
                          replace q23 := eq_true q23
                          go_wp2_with (first | ((with_reducible refine gate_callee (f := 21) rfl ?_); refine goesL_ (some 39) rfl rfl Tryd.func21 (by kernel_rfl) rfl #[.slice A23 y112.length c23, .bool (!t110)] rfl (by (try simp only [List.map_toArray, List.map_cons, List.map_nil]); first | done | rfl | (simp only [List.length_drop, List.length_take]; rfl)) ?_; (with_reducible refine (slices_Contains_bool_bool.calls kj5 _ _ y112 (!t110) false _ ?side1 ?side2 A16.out).mono ?_); (case side1 => repeat (first | exact (by repeat (first | (with_reducible exact HR115.out) | (with_reducible refine Kd.C_alloc ?_ _) | (with_reducible refine Kd.C_drewN ?_ _) | (with_reducible refine Kd.C_drew ?_) | exact HR115.out)) | (with_reducible refine Kd.C_alloc ?_ _) | (with_reducible refine Kd.C_drewN ?_ _) | (with_reducible refine Kd.C_drew ?_))); (case side2 => exact HC115.out); rintro e w' ⟨rfl, ⟨nd, rfl⟩⟩; refine ⟨_, rfl, ?_⟩; have q24 : ((ji13) : Int) ≤ ((x3_1.length : Int) : Int) := of_decide_eq_true (by first | (with_reducible assumption) | assumption); obtain ⟨i024, hi024, _, hsz24, _⟩ := info_parts info4; have hcut24 := cut_to (P := Tryd.prog) 59 4 .i64 Tryd.underlying59 hi024 Ao22 x3_1.length co22 (ji13) (of_decide_eq_true (by first | (with_reducible assumption) | assumption)) q24 (Kd.R_reads' HO_3.out).2.1; have hr24 := Kd.R_take (m := ((ji13) : Int).toNat) HO_3.out (by omega); have hy24 : y117.length = ((ji13) : Int).toNat := (by rw [Ny117.out, List.length_take]; omega); rw [← Ny117.out] at hr24; rw [← hy24] at hr24 hcut24; clear hy24 hi024 hsz24 HO_3; have HO119 := Aside0.mk hr24; clear hr24; replace q24 := eq_true q24) | ((with_reducible refine gate_builtin (b := .append) (xs := #[.tmp 42, .tmp 44]) rfl ?_); (try (refine gate_guard (by rfl) ?_; dsimp only)); at_builtin; refine Kd.R_append Kd.bool (w0 := w) w.heap.size rfl (.tmp 42) (.tmp 44) 59 4 (.bool false) 1 rfl Tryd.underlying59 info4 rfl (by decide) (by omega) (.slice Ao22 y117.length co22) y117 t111 [.bool t111] (fun _ => True) (fun _ => False) rfl rfl ?aP (fun _ hk => hk.elim) ?aF ?aO ?aB ?aS ?aL ?_; (case aP => exact rfl); (case aB => exact (by repeat (first | (with_reducible first | exact HB.out | apply below_alloc | apply pw_below_drewN | apply below_drew1 | refine below_set ?_ GE108.out) | exact HB.out))); (case aF => exact (fun _ _ => trivial)); (case aO => exact (by (with_reducible repeat (first | apply Kd.R_alloc | apply Kd.R_drewN | apply Kd.R_drew)); exact HO119.out)); (case aS => exact (below_size (by repeat (first | (with_reducible first | exact HB.out | apply below_alloc | apply pw_below_drewN | apply below_drew1 | refine below_set ?_ GE108.out) | exact HB.out)))); (case aL => have := LMc21.out; omega); intro v121 w25 ho hb hg hat; rw [← Ny120.out] at ho; have n0_ := Aside0.mk (blk_grown (g := gb108) (o := .cells #[.int .i64 ((rd_T33 l0 x12_1).f0), .int .i64 ((rd_T33 l0 x12_1).f1)] 33 (0, 0)) (by (with_reducible repeat (first | refine blk_drewN ?_ _ | refine blk_drew ?_ | refine blk_alloc ?_ _)); exact BK108.out) hg (Kd.R_ne HO119.out BK108.out (by decide))); have n1_ := Aside0.mk (hb); have n2_ := Aside0.mk (ho); clear BK108; clear HB; clear HO119; have BK108 := n0_; have HB := n1_; have HO122 := n2_; clear n0_ n1_ n2_; clear ho hb hg hat))
                          go_roundg kj5
                          case measure => have := HK1.out; have := HJ5.out; omega
                          case rel => exact ⟨(y120), (wrap64 (x12_1 + 1)), (by first | rfl | (simp; done) | (simp [*]; done)), H', ⟨by have := HK1.out; have := HJ5.out; omega⟩, ⟨by (with_reducible repeat (first | apply Kd.R_alloc | apply Kd.R_drewN | apply Kd.R_drew)); exact HO122.out⟩, ⟨by repeat (first | (with_reducible first | exact HB.out | apply below_alloc | apply pw_below_drewN | apply below_drew1 | refine below_set ?_ GE108.out) | exact HB.out)⟩⟩
                        · rw [if_neg c21] at H
                          exact absurd H (by simp)
                    · rw [if_neg c15] at H
                      exact absurd H (by simp)
                  · rw [if_neg c14] at H
                    exact absurd H (by simp)
          · rw [if_neg c4] at H
            exact absurd H (by simp)
        · rw [if_neg c3] at H
          exact absurd H (by simp)
      · rw [if_neg c2] at H
        have c2b0 : decide (x12_1 < (l0.length : Int)) = false := decide_eq_false c2
        clear c2
        by_cases c26 : (x3_1.length : Int) = 1
        · rw [if_pos c26] at H
          have c26b0 : ((x3_1.length : Int) == 1) = true := beq_iff_eq.mpr c26
          have c26b1 : ((x3_1.length : Int) != 1) = false := bne_eq_false_iff_eq.mpr c26
          clear c26
          by_cases c27 : 0 < (x3_1.length : Int)
          · rw [if_pos c27] at H
            have c27b0 : decide (0 < (x3_1.length : Int)) = true := decide_eq_true c27
            have c27b1 : decide (0 < x3_1.length) = true := decide_eq_true (by omega)
            clear c27
            obtain rfl := Option.some.inj H
            obtain ⟨Ao28, co28, eo28⟩ := Kd.R_slice HO_3.out
            subst eo28
            have p106 : 0 ≤ (0 : Int) := (by omega)
            have q106 : 0 < (x3_1.length : Int) := of_decide_eq_true (by first | (with_reducible assumption) | assumption)
            obtain ⟨ad106, e106, hx106_0⟩ := Kd.at_bool (Kd.R_reads' HO_3.out).2.2 0 p106 q106
            cases e106
            have qi106 : (0 < x3_1.length) = True := eq_true (by omega)
            (try rw [show ((0 : Int)).toNat = 0 from rfl] at hx106_0)
            (try rw [Addr.add_zero'] at hx106_0)
            replace p106 := eq_true p106
            replace q106 := eq_true q106
            go_wp2
            go_ret
            exact ⟨by first | rfl | (simp [errW_none, errW_some] <;> rfl) | (simp [*, errW_none, errW_some] <;> rfl), by repeat (first | (with_reducible first | exact HB.out | apply below_alloc | apply pw_below_drewN | apply below_drew1) | exact HB.out)⟩
          · rw [if_neg c27] at H
            exact absurd H (by simp)
        · rw [if_neg c26] at H
          have c26b0 : ((x3_1.length : Int) == 1) = false := beq_eq_false_iff_ne.mpr c26
          have c26b1 : ((x3_1.length : Int) != 1) = true := bne_iff_ne.mpr c26
          obtain rfl := Option.some.inj H
          obtain ⟨Ao29, co29, eo29⟩ := Kd.R_slice HO_3.out
          subst eo29
          go_wp2
          go_ret
          exact ⟨by first | rfl | (simp [errW_none, errW_some] <;> rfl) | (simp [*, errW_none, errW_some] <;> rfl), by repeat (first | (with_reducible first | exact HB.out | apply below_alloc | apply pw_below_drewN | apply below_drew1) | exact HB.out)⟩

end Go.Proofs.YtikbgoppmailjaaDoor.H
-- Written by hp.py (a program of this session, over the kit's print.py), with hand-made contracts beside it.
namespace Go.Proofs.YtikbgoppmailjaaDoor.H
open Go.RowKit Go.Proofs.YtikbgoppmailjaaDoorW.PrintWords Go.Proofs.YtikbgoppmailjaaDoorW.PrintLast Go.Proofs.YtikbgoppmailjaaDoorW.PrintMore
attribute [local go_sem] max2_int min2_int max_two min_two max_three min_three max_four min_four   -- for this text's walks alone
set_option linter.unusedVariables false
set_option linter.unusedSimpArgs false

theorem eqA33 (d : Nat) (w : World) (x0 y0 : Int) (x1 y1 : Int) :
    (Op.equalIn (d + 2) 33 (.agg #[.int .i64 x0, .int .i64 x1]) (.agg #[.int .i64 y0, .int .i64 y1])).run Tryd.prog w = .ok (x0 == y0 && (x1 == y1)) w := by
  refine eqA_of Tryd.underlying33 (by kernel_rfl) ?_
  refine eqf_cons (by rfl) (by go_simp; rfl) (by go_simp; rfl) (by go_simp) ?_
  exact eqf_last (by rfl) (by go_simp; rfl) (by go_simp; rfl) (by go_simp)
end Go.Proofs.YtikbgoppmailjaaDoor.H
/- guard's reader, as plain functions on lists of signs: what is left, what lies behind; none: too few rounds; some none: it gives up. -/
namespace Go.Proofs.YtikbgoppmailjaaDoor.H
set_option linter.unusedVariables false
/-- The signs that are left, and those that lie behind. -/
abbrev ST := List S33 × List S33
abbrev Rz := Option (Option ST)
def seesF (kind : Int) (st : ST) : Bool := match st.1 with | [] => false | a :: _ => a.f0 == kind
def takeF (kind : Int) (st : ST) : Rz := if seesF kind st = true then some (some (st.1.tail, st.2)) else some none
def putF (kind : Int) (st : ST) : Rz := some (some (st.1, st.2 ++ [(⟨kind, 0⟩ : S33)]))
def bnd (x : Rz) (f : ST → Rz) : Rz := match x with | none => none | some none => some none | some (some s) => f s
def rowL (th : ST → Rz) (ks : List Int) : Nat → ST → Rz
  | 0, _ => none
  | k + 1, st => match st.1 with
    | [] => some (some st)
    | a :: r => if ks.contains a.f0 = true then bnd (th (r, st.2)) fun s => bnd (putF a.f0 s) (rowL th ks k) else some (some st)
def rowF (th : ST → Rz) (ks : List Int) (k : Nat) (st : ST) : Rz := bnd (th st) (rowL th ks k)
def stepF (R : Nat → ST → Rz) (k : Nat) (lev : Nat) (st : ST) : Rz :=
  if lev = 0 then rowF (R 1) [13] k st
  else if lev = 1 then rowF (R 2) [12] k st
  else if lev = 2 then
    if seesF 14 st = true then bnd (R 2 (st.1.tail, st.2)) (putF 14)
    else if seesF 15 st = true then bnd (R 0 (st.1.tail, st.2)) (takeF 16)
    else bnd (R 3 st) fun s => match s.1 with
      | [] => some none
      | a :: r => if decide (6 ≤ a.f0 ∧ a.f0 ≤ 11) = true then bnd (R 3 (r, s.2)) (putF a.f0) else some none
  else if lev = 3 then rowF (R 4) [3, 4] k st
  else if lev = 4 then rowF (R 5) [5] k st
  else match st.1 with
    | [] => some none
    | a :: r =>
      if a.f0 = 1 ∨ a.f0 = 2 then some (some (r, st.2 ++ [a]))
      else if a.f0 = 4 then bnd (R 5 (r, st.2)) (putF 19)
      else if a.f0 = 17 then bnd (R 3 (r, st.2)) (takeF 18)
      else some none
def PF : Nat → Nat → ST → Rz
  | 0 => fun _ _ => none
  | k + 1 => stepF (PF k) k
end Go.Proofs.YtikbgoppmailjaaDoor.H
/- Plain laws of guard's reader. -/
namespace Go.Proofs.YtikbgoppmailjaaDoor.Pure
open Go.Proofs.YtikbgoppmailjaaDoor.H
set_option linter.unusedVariables false
set_option linter.unusedSimpArgs false
theorem bnd_some {x : Rz} {f : ST → Rz} {r : Option ST} (h : bnd x f = some r) : (x = some none ∧ r = none) ∨ ∃ s, x = some (some s) ∧ f s = some r := by
  unfold bnd at h
  match x, h with
  | some none, h => exact .inl ⟨rfl, (Option.some.inj h).symm⟩
  | some (some s), h => exact .inr ⟨s, rfl, h⟩
theorem bnd_mk_none {x : Rz} {f : ST → Rz} (h : x = some none) : bnd x f = some none := by rw [h]; rfl
theorem bnd_mk {x : Rz} {f : ST → Rz} {s : ST} (h : x = some (some s)) : bnd x f = f s := by rw [h]; rfl
theorem bnd_mono {x x' : Rz} {f f' : ST → Rz} {r : Option ST} (hx : ∀ r, x = some r → x' = some r) (hf : ∀ s r, f s = some r → f' s = some r) (h : bnd x f = some r) : bnd x' f' = some r := by
  rcases bnd_some h with ⟨h1, rfl⟩ | ⟨s, h1, h2⟩
  · exact bnd_mk_none (hx _ h1)
  · rw [bnd_mk (hx _ h1)]; exact hf s r h2
theorem rowL_mono (th th' : ST → Rz) (ks : List Int) (h : ∀ st r, th st = some r → th' st = some r) : ∀ (k k' : Nat) (st : ST) (r : Option ST), k ≤ k' → rowL th ks k st = some r → rowL th' ks k' st = some r
  | 0, _, _, _, _, h1 => by cases h1
  | k + 1, k', st, r, hk, h1 => by
    obtain ⟨k', rfl⟩ : ∃ m, k' = m + 1 := ⟨k' - 1, by omega⟩
    obtain ⟨l, o⟩ := st
    cases l with
    | nil => exact h1
    | cons a l =>
      simp only [rowL] at h1 ⊢
      split at h1
      · rename_i hc
        rw [if_pos hc]
        exact bnd_mono (h _) (fun s r h2 => bnd_mono (fun _ h3 => h3) (fun s r h3 => rowL_mono th th' ks h k k' s r (by omega) h3) h2) h1
      · rename_i hc
        rw [if_neg hc]; exact h1
theorem rowF_mono (th th' : ST → Rz) (ks : List Int) (h : ∀ st r, th st = some r → th' st = some r) (k k' : Nat) (hk : k ≤ k') (st : ST) (r : Option ST) (h1 : rowF th ks k st = some r) : rowF th' ks k' st = some r :=
  bnd_mono (h st) (fun s r h2 => rowL_mono th th' ks h k k' s r hk h2) h1
theorem stepF_mono (R R' : Nat → ST → Rz) (h : ∀ lev st r, R lev st = some r → R' lev st = some r) (k k' : Nat) (hk : k ≤ k') (lev : Nat) (st : ST) (r : Option ST) (h1 : stepF R k lev st = some r) : stepF R' k' lev st = some r := by
  unfold stepF at h1 ⊢
  split at h1
  · rename_i c; rw [if_pos c]; exact rowF_mono _ _ _ (h 1) k k' hk st r h1
  · rename_i c; rw [if_neg c]
    split at h1
    · rename_i c; rw [if_pos c]; exact rowF_mono _ _ _ (h 2) k k' hk st r h1
    · rename_i c; rw [if_neg c]
      split at h1
      · rename_i c; rw [if_pos c]
        split at h1
        · rename_i c; rw [if_pos c]; exact bnd_mono (h _ _) (fun _ _ h2 => h2) h1
        · rename_i c; rw [if_neg c]
          split at h1
          · rename_i c; rw [if_pos c]; exact bnd_mono (h _ _) (fun _ _ h2 => h2) h1
          · rename_i c; rw [if_neg c]
            refine bnd_mono (h _ _) (fun s r h2 => ?_) h1
            obtain ⟨l, o⟩ := s
            cases l with
            | nil => exact h2
            | cons a l =>
              dsimp only at h2 ⊢
              split at h2
              · rename_i c; rw [if_pos c]; exact bnd_mono (h _ _) (fun _ _ h3 => h3) h2
              · rename_i c; rw [if_neg c]; exact h2
      · rename_i c; rw [if_neg c]
        split at h1
        · rename_i c; rw [if_pos c]; exact rowF_mono _ _ _ (h 4) k k' hk st r h1
        · rename_i c; rw [if_neg c]
          split at h1
          · rename_i c; rw [if_pos c]; exact rowF_mono _ _ _ (h 5) k k' hk st r h1
          · rename_i c; rw [if_neg c]
            obtain ⟨l, o⟩ := st
            cases l with
            | nil => exact h1
            | cons a l =>
              dsimp only at h1 ⊢
              split at h1
              · rename_i c; rw [if_pos c]; exact h1
              · rename_i c; rw [if_neg c]
                split at h1
                · rename_i c; rw [if_pos c]; exact bnd_mono (h _ _) (fun _ _ h3 => h3) h1
                · rename_i c; rw [if_neg c]
                  split at h1
                  · rename_i c; rw [if_pos c]; exact bnd_mono (h _ _) (fun _ _ h3 => h3) h1
                  · rename_i c; rw [if_neg c]; exact h1
theorem PF_mono1 : ∀ (k lev : Nat) (st : ST) (r : Option ST), PF k lev st = some r → PF (k + 1) lev st = some r
  | 0, _, _, _, h => by cases h
  | k + 1, lev, st, r, h => stepF_mono (PF k) (PF (k + 1)) (fun lev st r h => PF_mono1 k lev st r h) k (k + 1) (by omega) lev st r h
theorem PF_mono {k k' lev : Nat} {st : ST} {r : Option ST} (hk : k ≤ k') (h : PF k lev st = some r) : PF k' lev st = some r := by
  obtain ⟨d, rfl⟩ : ∃ d, k' = k + d := ⟨k' - k, by omega⟩
  clear hk
  induction d with
  | zero => exact h
  | succ d ih => exact PF_mono1 _ _ _ _ ih
end Go.Proofs.YtikbgoppmailjaaDoor.Pure
/- guard's reader comes to an end; what stands behind a guard does not touch it. -/
namespace Go.Proofs.YtikbgoppmailjaaDoor.Pure
open Go.Proofs.YtikbgoppmailjaaDoor.H
set_option linter.unusedVariables false
set_option linter.unusedSimpArgs false
theorem PF_succ (k lev : Nat) (st : ST) : PF (k + 1) lev st = stepF (PF k) k lev st := rfl
theorem step0 (R : Nat → ST → Rz) (k : Nat) (st : ST) : stepF R k 0 st = rowF (R 1) [13] k st := rfl
theorem step1 (R : Nat → ST → Rz) (k : Nat) (st : ST) : stepF R k 1 st = rowF (R 2) [12] k st := rfl
theorem step2 (R : Nat → ST → Rz) (k : Nat) (st : ST) : stepF R k 2 st =
    if seesF 14 st = true then bnd (R 2 (st.1.tail, st.2)) (putF 14)
    else if seesF 15 st = true then bnd (R 0 (st.1.tail, st.2)) (takeF 16)
    else bnd (R 3 st) fun s => match s.1 with
      | [] => some none
      | a :: r => if decide (6 ≤ a.f0 ∧ a.f0 ≤ 11) = true then bnd (R 3 (r, s.2)) (putF a.f0) else some none := rfl
theorem step5 (R : Nat → ST → Rz) (k : Nat) (st : ST) : stepF R k 5 st =
    match st.1 with
    | [] => some none
    | a :: r =>
      if a.f0 = 1 ∨ a.f0 = 2 then some (some (r, st.2 ++ [a]))
      else if a.f0 = 4 then bnd (R 5 (r, st.2)) (putF 19)
      else if a.f0 = 17 then bnd (R 3 (r, st.2)) (takeF 18)
      else some none := rfl
/-- A reading that came well out of st: one sign at least was read; no more signs lie there than before. -/
def Well (st : ST) (r : Option ST) : Prop := ∀ s, r = some s → s.1.length < st.1.length ∧ s.2.length + s.1.length ≤ st.2.length + st.1.length
theorem putF_ok (kind : Int) (st : ST) : putF kind st = some (some (st.1, st.2 ++ [(⟨kind, 0⟩ : S33)])) := rfl
theorem row_total (th : Nat → ST → Rz) (hm : ∀ k k' st r, k ≤ k' → th k st = some r → th k' st = some r) (ks : List Int) : ∀ (n : Nat) (st : ST), st.1.length ≤ n → True →
    (∀ s : ST, s.1.length < st.1.length → True → ∃ k r, th k s = some r ∧ Well s r) →
    ∃ k r, (∀ k', k ≤ k' → rowL (th k') ks k' st = some r) ∧ (∀ s, r = some s → s.1.length ≤ st.1.length ∧ s.2.length + s.1.length ≤ st.2.length + st.1.length) := by
  intro n
  induction n with
  | zero =>
    intro st h hs _
    obtain ⟨l, o⟩ := st
    obtain rfl : l = [] := List.eq_nil_of_length_eq_zero (by simpa using h)
    refine ⟨1, some ([], o), fun k' hk => ?_, fun s hs => ?_⟩
    · obtain ⟨k', rfl⟩ : ∃ m, k' = m + 1 := ⟨k' - 1, by omega⟩
      rfl
    · obtain rfl := Option.some.inj hs
      exact ⟨Nat.le_refl _, Nat.le_refl _⟩
  | succ n ih =>
    intro st h hs hth
    obtain ⟨l, o⟩ := st
    cases l with
    | nil =>
      refine ⟨1, some ([], o), fun k' hk => ?_, fun s hs => ?_⟩
      · obtain ⟨k', rfl⟩ : ∃ m, k' = m + 1 := ⟨k' - 1, by omega⟩
        rfl
      · obtain rfl := Option.some.inj hs
        exact ⟨Nat.le_refl _, Nat.le_refl _⟩
    | cons a l =>
      simp only [List.length_cons] at h
      by_cases hc : ks.contains a.f0 = true
      · obtain ⟨k1, r1, h1, w1⟩ := hth (l, o) (by simp) trivial
        cases r1 with
        | none =>
          refine ⟨k1 + 1, none, fun k' hk => ?_, fun s hs => by cases hs⟩
          obtain ⟨k', rfl⟩ : ∃ m, k' = m + 1 := ⟨k' - 1, by omega⟩
          simp only [rowL]
          rw [if_pos hc, bnd_mk_none (hm k1 _ _ _ (by omega) h1)]
        | some s1 =>
          obtain ⟨w1a, w1b⟩ := w1 s1 rfl
          dsimp only at w1a w1b
          obtain ⟨k2, r2, h2, w2⟩ := ih (s1.1, s1.2 ++ [(⟨a.f0, 0⟩ : S33)]) (by dsimp only; omega) trivial
            (fun s hs1 hs2 => hth s (by dsimp only at hs1 ⊢; rw [List.length_cons]; omega) hs2)
          refine ⟨k1 + k2 + 1, r2, fun k' hk => ?_, fun s hs => ?_⟩
          · obtain ⟨k', rfl⟩ : ∃ m, k' = m + 1 := ⟨k' - 1, by omega⟩
            simp only [rowL]
            rw [if_pos hc, bnd_mk (hm k1 _ _ _ (by omega) h1), putF_ok]
            show rowL (th (k' + 1)) ks k' _ = some r2
            exact rowL_mono (th k') (th (k' + 1)) ks (fun st r => hm k' (k' + 1) st r (by omega)) k' k' _ _ (Nat.le_refl _) (h2 k' (by omega))
          · obtain ⟨q1, q2⟩ := w2 s hs
            dsimp only at q1 q2
            rw [List.length_append] at q2
            simp only [List.length_cons, List.length_nil] at q2 ⊢
            omega
      · refine ⟨1, some (a :: l, o), fun k' hk => ?_, fun s hs => ?_⟩
        · obtain ⟨k', rfl⟩ : ∃ m, k' = m + 1 := ⟨k' - 1, by omega⟩
          simp only [rowL]
          rw [if_neg hc]
        · obtain rfl := Option.some.inj hs
          exact ⟨Nat.le_refl _, Nat.le_refl _⟩
theorem rowF_total (lev lev2 : Nat) (ks : List Int) (hstep : ∀ k st, PF (k + 1) lev st = rowF (PF k lev2) ks k st) (st : ST) (hs : True)
    (h0 : ∃ k r, PF k lev2 st = some r ∧ Well st r) (h1 : ∀ s : ST, s.1.length < st.1.length → True → ∃ k r, PF k lev2 s = some r ∧ Well s r) : ∃ k r, PF k lev st = some r ∧ Well st r := by
  obtain ⟨k1, r1, e1, w1⟩ := h0
  cases r1 with
  | none => exact ⟨k1 + 1, none, by rw [hstep]; exact bnd_mk_none e1, fun s hs => by cases hs⟩
  | some s1 =>
    obtain ⟨w1a, w1b⟩ := w1 s1 rfl
    obtain ⟨k2, r2, e2, w2⟩ := row_total (fun k => PF k lev2) (fun k k' st r hk h => PF_mono hk h) ks s1.1.length s1 (Nat.le_refl _) trivial (fun s hs1 hs2 => h1 s (by omega) hs2)
    refine ⟨k1 + k2 + 1, r2, ?_, fun s hs => ?_⟩
    · rw [hstep]
      unfold rowF
      rw [bnd_mk (PF_mono (by omega) e1)]
      exact e2 (k1 + k2) (by omega)
    · obtain ⟨q1, q2⟩ := w2 s hs
      exact ⟨by omega, by omega⟩
theorem PF_total : ∀ (m n lev : Nat) (st : ST), m = 6 * n + (5 - lev) → lev ≤ 5 → st.1.length = n → True → ∃ k r, PF k lev st = some r ∧ Well st r := by
  intro m
  induction m using Nat.strongRecOn with
  | _ m ih =>
    intro n lev st hm hl hn hs
    have up : ∀ lev2, lev < lev2 → lev2 ≤ 5 → ∃ k r, PF k lev2 st = some r ∧ Well st r := fun lev2 h1 h2 => ih (6 * n + (5 - lev2)) (by omega) n lev2 st rfl h2 hn hs
    have down : ∀ lev2, lev2 ≤ 5 → ∀ s : ST, s.1.length < st.1.length → True → ∃ k r, PF k lev2 s = some r ∧ Well s r :=
      fun lev2 h2 s h3 h4 => ih (6 * s.1.length + (5 - lev2)) (by omega) s.1.length lev2 s rfl h2 rfl h4
    rcases (by omega : lev = 0 ∨ lev = 1 ∨ lev = 2 ∨ lev = 3 ∨ lev = 4 ∨ lev = 5) with rfl | rfl | rfl | rfl | rfl | rfl
    · exact rowF_total 0 1 [13] (fun _ _ => rfl) st hs (up 1 (by omega) (by omega)) (down 1 (by omega))
    · exact rowF_total 1 2 [12] (fun _ _ => rfl) st hs (up 2 (by omega) (by omega)) (down 2 (by omega))
    · -- one
      obtain ⟨l, o⟩ := st
      have tail : ∀ (lev2 : Nat) (f : ST → Rz), lev2 ≤ 5 → l ≠ [] → (∀ s : ST, s.1.length < l.tail.length → s.2.length + s.1.length ≤ o.length + l.tail.length → ∃ r, f s = some r ∧ ∀ q, r = some q → q.1.length ≤ s.1.length ∧ q.2.length + q.1.length ≤ s.2.length + s.1.length + 1) →
          ∃ k r, bnd (PF k lev2 (l.tail, o)) f = some r ∧ Well (l, o) r := by
        intro lev2 f h2 hne hf
        cases l with
        | nil => exact absurd rfl hne
        | cons a l =>
          dsimp only [List.tail_cons] at hf ⊢
          obtain ⟨k1, r1, e1, w1⟩ := down lev2 h2 (l, o) (by simp) trivial
          cases r1 with
          | none => exact ⟨k1, none, bnd_mk_none e1, fun s hs => by cases hs⟩
          | some s1 =>
            obtain ⟨w1a, w1b⟩ := w1 s1 rfl
            dsimp only at w1a w1b
            obtain ⟨r, e2, w2⟩ := hf s1 w1a w1b
            refine ⟨k1, r, by rw [bnd_mk e1]; exact e2, fun s hs => ?_⟩
            obtain ⟨q1, q2⟩ := w2 s hs
            simp only [List.length_cons]
            exact ⟨by omega, by omega⟩
      have hput : ∀ kind (s : ST), ∃ r, putF kind s = some r ∧ ∀ q, r = some q → q.1.length ≤ s.1.length ∧ q.2.length + q.1.length ≤ s.2.length + s.1.length + 1 := by
        intro kind s
        refine ⟨some (s.1, s.2 ++ [(⟨kind, 0⟩ : S33)]), putF_ok kind s, fun q hq => ?_⟩
        obtain rfl := Option.some.inj hq
        dsimp only
        rw [List.length_append]
        simp only [List.length_cons, List.length_nil]
        omega
      have htake : ∀ kind (s : ST), ∃ r, takeF kind s = some r ∧ ∀ q, r = some q → q.1.length ≤ s.1.length ∧ q.2.length + q.1.length ≤ s.2.length + s.1.length + 1 := by
        intro kind s
        unfold takeF
        split
        · refine ⟨_, rfl, fun q hq => ?_⟩
          obtain rfl := Option.some.inj hq
          dsimp only
          rw [List.length_tail]
          omega
        · exact ⟨none, rfl, fun q hq => by cases hq⟩
      have hlt : l.tail.length ≤ l.length := by rw [List.length_tail]; omega
      by_cases c1 : seesF 14 (l, o) = true
      · obtain ⟨k, r, e, w⟩ := tail 2 (putF 14) (by omega) (by rintro rfl; cases c1) (fun s h1 h2 => hput 14 s)
        exact ⟨k + 1, r, by rw [PF_succ, step2, if_pos c1]; exact e, w⟩
      · by_cases c2 : seesF 15 (l, o) = true
        · obtain ⟨k, r, e, w⟩ := tail 0 (takeF 16) (by omega) (by rintro rfl; cases c2) (fun s h1 h2 => htake 16 s)
          exact ⟨k + 1, r, by rw [PF_succ, step2, if_neg c1, if_pos c2]; exact e, w⟩
        · obtain ⟨k1, r1, e1, w1⟩ := up 3 (by omega) (by omega)
          cases r1 with
          | none => exact ⟨k1 + 1, none, by rw [PF_succ, step2, if_neg c1, if_neg c2]; exact bnd_mk_none e1, fun s hs => by cases hs⟩
          | some s1 =>
            obtain ⟨w1a, w1b⟩ := w1 s1 rfl
            obtain ⟨l1, o1⟩ := s1
            dsimp only at w1a w1b
            cases l1 with
            | nil => exact ⟨k1 + 1, none, by rw [PF_succ, step2, if_neg c1, if_neg c2, bnd_mk e1], fun s hs => by cases hs⟩
            | cons a l1 =>
              simp only [List.length_cons] at w1a w1b
              by_cases c3 : decide (6 ≤ a.f0 ∧ a.f0 ≤ 11) = true
              · obtain ⟨k2, r2, e2, w2⟩ := down 3 (by omega) (l1, o1) (by dsimp only; omega) trivial
                cases r2 with
                | none =>
                  refine ⟨k1 + k2 + 1, none, ?_, fun s hs => by cases hs⟩
                  rw [PF_succ, step2, if_neg c1, if_neg c2, bnd_mk (PF_mono (by omega) e1)]
                  dsimp only
                  rw [if_pos c3, bnd_mk_none (PF_mono (by omega) e2)]
                | some s2 =>
                  obtain ⟨w2a, w2b⟩ := w2 s2 rfl
                  dsimp only at w2a w2b
                  refine ⟨k1 + k2 + 1, some (s2.1, s2.2 ++ [(⟨a.f0, 0⟩ : S33)]), ?_, fun s hs1 => ?_⟩
                  · rw [PF_succ, step2, if_neg c1, if_neg c2, bnd_mk (PF_mono (by omega) e1)]
                    dsimp only
                    rw [if_pos c3, bnd_mk (PF_mono (by omega) e2), putF_ok]
                  · obtain rfl := Option.some.inj hs1
                    dsimp only
                    rw [List.length_append]
                    simp only [List.length_cons, List.length_nil]
                    omega
              · exact ⟨k1 + 1, none, by rw [PF_succ, step2, if_neg c1, if_neg c2, bnd_mk e1]; dsimp only; rw [if_neg c3], fun s hs => by cases hs⟩
    · exact rowF_total 3 4 [3, 4] (fun _ _ => rfl) st hs (up 4 (by omega) (by omega)) (down 4 (by omega))
    · exact rowF_total 4 5 [5] (fun _ _ => rfl) st hs (up 5 (by omega) (by omega)) (down 5 (by omega))
    · -- factor
      obtain ⟨l, o⟩ := st
      cases l with
      | nil => exact ⟨1, none, rfl, fun s hs => by cases hs⟩
      | cons a l =>
        by_cases c1 : a.f0 = 1 ∨ a.f0 = 2
        · refine ⟨1, some (l, o ++ [a]), ?_, fun s hs1 => ?_⟩
          · rw [PF_succ, step5]
            dsimp only
            rw [if_pos c1]
          · obtain rfl := Option.some.inj hs1
            dsimp only
            rw [List.length_append]
            simp only [List.length_cons, List.length_nil]
            omega
        · by_cases c2 : a.f0 = 4
          · obtain ⟨k1, r1, e1, w1⟩ := down 5 (by omega) (l, o) (by simp) trivial
            cases r1 with
            | none => exact ⟨k1 + 1, none, by rw [PF_succ, step5]; dsimp only; rw [if_neg c1, if_pos c2, bnd_mk_none e1], fun s hs => by cases hs⟩
            | some s1 =>
              obtain ⟨w1a, w1b⟩ := w1 s1 rfl
              dsimp only at w1a w1b
              refine ⟨k1 + 1, some (s1.1, s1.2 ++ [(⟨19, 0⟩ : S33)]), ?_, fun s hs1 => ?_⟩
              · rw [PF_succ, step5]; dsimp only; rw [if_neg c1, if_pos c2, bnd_mk e1, putF_ok]
              · obtain rfl := Option.some.inj hs1
                dsimp only
                rw [List.length_append]
                simp only [List.length_cons, List.length_nil]
                omega
          · by_cases c3 : a.f0 = 17
            · obtain ⟨k1, r1, e1, w1⟩ := down 3 (by omega) (l, o) (by simp) trivial
              cases r1 with
              | none => exact ⟨k1 + 1, none, by rw [PF_succ, step5]; dsimp only; rw [if_neg c1, if_neg c2, if_pos c3, bnd_mk_none e1], fun s hs => by cases hs⟩
              | some s1 =>
                obtain ⟨w1a, w1b⟩ := w1 s1 rfl
                dsimp only at w1a w1b
                refine ⟨k1 + 1, if seesF 18 s1 = true then some (s1.1.tail, s1.2) else none, ?_, fun s hs1 => ?_⟩
                · rw [PF_succ, step5]; dsimp only; rw [if_neg c1, if_neg c2, if_pos c3, bnd_mk e1]
                  unfold takeF
                  split <;> rfl
                · split at hs1
                  · obtain rfl := Option.some.inj hs1
                    dsimp only
                    rw [List.length_tail]
                    simp only [List.length_cons]
                    omega
                  · cases hs1
            · exact ⟨1, none, by rw [PF_succ, step5]; dsimp only; rw [if_neg c1, if_neg c2, if_neg c3], fun s hs => by cases hs⟩
end Go.Proofs.YtikbgoppmailjaaDoor.Pure
/- What stands behind a guard does not touch it; what lies there before, neither. -/
namespace Go.Proofs.YtikbgoppmailjaaDoor.Pure
open Go.Proofs.YtikbgoppmailjaaDoor.H
set_option linter.unusedVariables false
set_option linter.unusedSimpArgs false
theorem rowL_nil (th : ST → Rz) (ks : List Int) (k : Nat) (o : List S33) (r : Option ST) (h : rowL th ks k ([], o) = some r) : r = some ([], o) := by
  cases k with
  | zero => cases h
  | succ k => exact (Option.some.inj h).symm
theorem rowL_cons {th : ST → Rz} {ks : List Int} {k : Nat} {a : S33} {l o : List S33} {r : Option ST} (h : rowL th ks (k + 1) (a :: l, o) = some r) :
    (ks.contains a.f0 = false ∧ r = some (a :: l, o)) ∨ (ks.contains a.f0 = true ∧ ((th (l, o) = some none ∧ r = none) ∨ ∃ l1 o1, th (l, o) = some (some (l1, o1)) ∧ rowL th ks k (l1, o1 ++ [(⟨a.f0, 0⟩ : S33)]) = some r)) := by
  simp only [rowL] at h
  split at h
  · rename_i hc
    refine .inr ⟨hc, ?_⟩
    rcases bnd_some h with ⟨h1, rfl⟩ | ⟨s, h1, h2⟩
    · exact .inl ⟨h1, rfl⟩
    · obtain ⟨l1, o1⟩ := s
      exact .inr ⟨l1, o1, h1, h2⟩
  · rename_i hc
    exact .inl ⟨by simpa using hc, (Option.some.inj h).symm⟩
theorem rowL_go {th : ST → Rz} {ks : List Int} {k : Nat} {a : S33} {l o : List S33} (hc : ks.contains a.f0 = true) {l1 o1 : List S33} (h : th (l, o) = some (some (l1, o1))) : rowL th ks (k + 1) (a :: l, o) = rowL th ks k (l1, o1 ++ [(⟨a.f0, 0⟩ : S33)]) := by
  simp only [rowL]
  rw [if_pos hc, bnd_mk h]
  rfl
theorem rowL_stop {th : ST → Rz} {ks : List Int} {k : Nat} {a : S33} {l o : List S33} (hc : ks.contains a.f0 = false) : rowL th ks (k + 1) (a :: l, o) = some (some (a :: l, o)) := by
  simp only [rowL]
  rw [if_neg (by rw [hc]; decide)]
theorem rowF_some {th : ST → Rz} {ks : List Int} {k : Nat} {st : ST} {r : Option ST} (h : rowF th ks k st = some r) : (th st = some none ∧ r = none) ∨ ∃ l1 o1, th st = some (some (l1, o1)) ∧ rowL th ks k (l1, o1) = some r := by
  rcases bnd_some h with ⟨h1, rfl⟩ | ⟨s, h1, h2⟩
  · exact .inl ⟨h1, rfl⟩
  · obtain ⟨l1, o1⟩ := s
    exact .inr ⟨l1, o1, h1, h2⟩
theorem rowF_mk {th : ST → Rz} {ks : List Int} {k : Nat} {st : ST} {l1 o1 : List S33} (h : th st = some (some (l1, o1))) : rowF th ks k st = rowL th ks k (l1, o1) := bnd_mk h
theorem nosucc : ∀ (k lev : Nat) (o : List S33) (s : ST), PF k lev ([], o) ≠ some (some s)
  | 0, _, _, _, h => by cases h
  | k + 1, lev, o, s, h => by
    rw [PF_succ] at h
    have row : ∀ lev2 ks, rowF (PF k lev2) ks k ([], o) = some (some s) → False := fun lev2 ks h => by
      rcases rowF_some h with ⟨_, h2⟩ | ⟨l1, o1, h1, _⟩
      · cases h2
      · exact nosucc k lev2 o _ h1
    unfold stepF at h
    split at h
    · exact row _ _ h
    · split at h
      · exact row _ _ h
      · split at h
        · rw [if_neg (show ¬ (seesF 14 ([], o) = true) from Bool.false_ne_true), if_neg (show ¬ (seesF 15 ([], o) = true) from Bool.false_ne_true)] at h
          rcases bnd_some h with ⟨_, h2⟩ | ⟨s1, h1, _⟩
          · cases h2
          · exact nosucc k 3 o _ h1
        · split at h
          · exact row _ _ h
          · split at h
            · exact row _ _ h
            · cases h
theorem ext_row {th : ST → Rz} {ks : List Int} {c : S33} {r : List S33} (P : Prop) (hP : P → ks.contains c.f0 = false)
    (hth : ∀ l o l' o', th (l, o) = some (some (l', o')) → (l' = [] → P) → th (l ++ c :: r, o) = some (some (l' ++ c :: r, o'))) :
    ∀ (k : Nat) (l o l' o' : List S33), rowL th ks k (l, o) = some (some (l', o')) → (l' = [] → P) → rowL th ks k (l ++ c :: r, o) = some (some (l' ++ c :: r, o'))
  | 0, _, _, _, _, h, _ => by cases h
  | k + 1, [], o, l', o', h, hp => by
    have := rowL_nil _ _ _ _ _ h
    obtain ⟨rfl, rfl⟩ := Prod.mk.inj (Option.some.inj this)
    exact rowL_stop (hP (hp rfl))
  | k + 1, a :: l, o, l', o', h, hp => by
    rcases rowL_cons h with ⟨hc, h1⟩ | ⟨hc, ⟨_, h1⟩ | ⟨l1, o1, h1, h2⟩⟩
    · obtain ⟨rfl, rfl⟩ := Prod.mk.inj (Option.some.inj h1)
      exact rowL_stop hc
    · cases h1
    · have hp1 : l1 = [] → P := by
        rintro rfl
        have := rowL_nil _ _ _ _ _ h2
        exact hp (Prod.mk.inj (Option.some.inj this)).1
      have h3 := hth _ _ _ _ h1 hp1
      show rowL th ks (k + 1) (a :: (l ++ c :: r), o) = _
      rw [rowL_go hc h3]
      exact ext_row P hP hth k l1 _ l' o' h2 hp
def OKc (lev : Nat) (x : Int) : Prop := (lev ≤ 0 → x ≠ 13) ∧ (lev ≤ 1 → x ≠ 12) ∧ (lev ≤ 3 → x ≠ 3 ∧ x ≠ 4) ∧ (lev ≤ 4 → x ≠ 5)
theorem OKc.up {lev lev2 : Nat} {x : Int} (h : OKc lev x) (hl : lev ≤ lev2) : OKc lev2 x := ⟨fun q => h.1 (by omega), fun q => h.2.1 (by omega), fun q => h.2.2.1 (by omega), fun q => h.2.2.2 (by omega)⟩
theorem seesF_app (kind : Int) (l t o : List S33) (h : l ≠ []) : seesF kind (l ++ t, o) = seesF kind (l, o) := by
  cases l with
  | nil => exact absurd rfl h
  | cons a l => rfl
theorem ext (c : S33) (r : List S33) : ∀ (k lev : Nat) (l o l' o' : List S33), PF k lev (l, o) = some (some (l', o')) → (l' = [] → OKc lev c.f0) → PF k lev (l ++ c :: r, o) = some (some (l' ++ c :: r, o'))
  | 0, _, _, _, _, _, h, _ => by cases h
  | k + 1, lev, l, o, l', o', h, hp => by
    have hne : l ≠ [] := by rintro rfl; exact nosucc _ _ _ _ h
    have row : ∀ lev2 ks, lev < lev2 → (OKc lev c.f0 → ks.contains c.f0 = false) → rowF (PF k lev2) ks k (l, o) = some (some (l', o')) → rowF (PF k lev2) ks k (l ++ c :: r, o) = some (some (l' ++ c :: r, o')) := by
      intro lev2 ks hl hks h
      rcases rowF_some h with ⟨_, h2⟩ | ⟨l1, o1, h1, h2⟩
      · cases h2
      · have hp1 : l1 = [] → OKc lev c.f0 := by
          rintro rfl
          have := rowL_nil _ _ _ _ _ h2
          exact hp (Prod.mk.inj (Option.some.inj this)).1
        have hth : ∀ l o l' o', PF k lev2 (l, o) = some (some (l', o')) → (l' = [] → OKc lev c.f0) → PF k lev2 (l ++ c :: r, o) = some (some (l' ++ c :: r, o')) :=
          fun l o l' o' q1 q2 => ext c r k lev2 l o l' o' q1 (fun e => (q2 e).up (by omega))
        rw [rowF_mk (hth _ _ _ _ h1 hp1)]
        exact ext_row (OKc lev c.f0) hks hth k l1 o1 l' o' h2 hp
    have htl : ∀ t : List S33, l.tail ++ t = (l ++ t).tail := fun t => by cases l with
      | nil => exact absurd rfl hne
      | cons a l => rfl
    rw [PF_succ] at h ⊢
    unfold stepF at h ⊢
    by_cases c0 : lev = 0
    · subst c0
      rw [if_pos rfl] at h ⊢
      exact row 1 [13] (by omega) (fun q => by have := q.1 (by omega); simp; omega) h
    · rw [if_neg c0] at h ⊢
      by_cases c1 : lev = 1
      · subst c1
        rw [if_pos rfl] at h ⊢
        exact row 2 [12] (by omega) (fun q => by have := q.2.1 (by omega); simp; omega) h
      · rw [if_neg c1] at h ⊢
        by_cases c2 : lev = 2
        · subst c2
          rw [if_pos rfl] at h ⊢
          rw [seesF_app 14 _ _ _ hne, seesF_app 15 _ _ _ hne]
          dsimp only at h ⊢
          rw [← htl]
          split at h
          · rename_i q
            rw [if_pos q]
            rcases bnd_some h with ⟨_, h2⟩ | ⟨⟨l1, o1⟩, h1, h2⟩
            · cases h2
            · obtain ⟨rfl, rfl⟩ := Prod.mk.inj (Option.some.inj (Option.some.inj h2))
              rw [bnd_mk (ext c r k 2 _ _ _ _ h1 hp)]
              rfl
          · rename_i q
            rw [if_neg q]
            split at h
            · rename_i q
              rw [if_pos q]
              rcases bnd_some h with ⟨_, h2⟩ | ⟨⟨l1, o1⟩, h1, h2⟩
              · cases h2
              · unfold takeF at h2
                split at h2
                · rename_i q2
                  have hne1 : l1 ≠ [] := by rintro rfl; cases q2
                  obtain ⟨rfl, rfl⟩ := Prod.mk.inj (Option.some.inj (Option.some.inj h2))
                  rw [bnd_mk (ext c r k 0 _ _ _ _ h1 (fun e => absurd e hne1))]
                  unfold takeF
                  rw [seesF_app _ _ _ _ hne1, if_pos q2]
                  cases l1 with
                  | nil => exact absurd rfl hne1
                  | cons a l1 => rfl
                · cases h2
            · rename_i q
              rw [if_neg q]
              rcases bnd_some h with ⟨_, h2⟩ | ⟨⟨l1, o1⟩, h1, h2⟩
              · cases h2
              · cases l1 with
                | nil => cases h2
                | cons a l1 =>
                  dsimp only at h2
                  rw [bnd_mk (ext c r k 3 _ _ _ _ h1 (fun e => by cases e))]
                  show (if decide (6 ≤ a.f0 ∧ a.f0 ≤ 11) = true then bnd (PF k 3 (l1 ++ c :: r, o1)) (putF a.f0) else some none) = _
                  split at h2
                  · rename_i q
                    rw [if_pos q]
                    rcases bnd_some h2 with ⟨_, h3⟩ | ⟨⟨l2, o2⟩, h3, h4⟩
                    · cases h3
                    · obtain ⟨rfl, rfl⟩ := Prod.mk.inj (Option.some.inj (Option.some.inj h4))
                      rw [bnd_mk (ext c r k 3 _ _ _ _ h3 (fun e => (hp e).up (by omega)))]
                      rfl
                  · cases h2
        · rw [if_neg c2] at h ⊢
          by_cases c3 : lev = 3
          · subst c3
            rw [if_pos rfl] at h ⊢
            exact row 4 [3, 4] (by omega) (fun q => by have := q.2.2.1 (by omega); simp; omega) h
          · rw [if_neg c3] at h ⊢
            by_cases c4 : lev = 4
            · subst c4
              rw [if_pos rfl] at h ⊢
              exact row 5 [5] (by omega) (fun q => by have := q.2.2.2 (by omega); simp; omega) h
            · rw [if_neg c4] at h ⊢
              cases l with
              | nil => exact absurd rfl hne
              | cons a l =>
                dsimp only [List.cons_append] at h ⊢
                split at h
                · rename_i q
                  rw [if_pos q]
                  obtain ⟨rfl, rfl⟩ := Prod.mk.inj (Option.some.inj (Option.some.inj h))
                  rfl
                · rename_i q
                  rw [if_neg q]
                  split at h
                  · rename_i q
                    rw [if_pos q]
                    rcases bnd_some h with ⟨_, h2⟩ | ⟨⟨l1, o1⟩, h1, h2⟩
                    · cases h2
                    · obtain ⟨rfl, rfl⟩ := Prod.mk.inj (Option.some.inj (Option.some.inj h2))
                      rw [bnd_mk (ext c r k 5 _ _ _ _ h1 (fun e => ⟨fun q => by omega, fun q => by omega, fun q => by omega, fun q => by omega⟩))]
                      rfl
                  · rename_i q
                    rw [if_neg q]
                    split at h
                    · rename_i q
                      rw [if_pos q]
                      rcases bnd_some h with ⟨_, h2⟩ | ⟨⟨l1, o1⟩, h1, h2⟩
                      · cases h2
                      · unfold takeF at h2
                        split at h2
                        · rename_i q2
                          have hne1 : l1 ≠ [] := by rintro rfl; cases q2
                          obtain ⟨rfl, rfl⟩ := Prod.mk.inj (Option.some.inj (Option.some.inj h2))
                          rw [bnd_mk (ext c r k 3 _ _ _ _ h1 (fun e => absurd e hne1))]
                          unfold takeF
                          rw [seesF_app _ _ _ _ hne1, if_pos q2]
                          cases l1 with
                          | nil => exact absurd rfl hne1
                          | cons a l1 => rfl
                        · cases h2
                    · cases h
/-- A row goes on where it ended, if a sign of its own follows. -/
theorem cont_row {th : ST → Rz} {ks : List Int} {c : S33} {r : List S33}
    (hth : ∀ l o l' o', th (l, o) = some (some (l', o')) → th (l ++ c :: r, o) = some (some (l' ++ c :: r, o'))) :
    ∀ (k : Nat) (l o o' : List S33), rowL th ks k (l, o) = some (some ([], o')) → ∀ (k2 : Nat) (res : Option ST), rowL th ks k2 (c :: r, o') = some res → rowL th ks (k + k2) (l ++ c :: r, o) = some res
  | 0, _, _, _, h, _, _, _ => by cases h
  | k + 1, [], o, o', h, k2, res, h2 => by
    have := rowL_nil _ _ _ _ _ h
    obtain ⟨-, rfl⟩ := Prod.mk.inj (Option.some.inj this)
    exact rowL_mono th th ks (fun _ _ q => q) k2 (k + 1 + k2) _ _ (by omega) h2
  | k + 1, a :: l, o, o', h, k2, res, h2 => by
    rcases rowL_cons h with ⟨hc, h1⟩ | ⟨hc, ⟨_, h1⟩ | ⟨l1, o1, h1, h3⟩⟩
    · cases (Prod.mk.inj (Option.some.inj h1)).1
    · cases h1
    · have e : k + 1 + k2 = (k + k2) + 1 := by omega
      rw [e]
      show rowL th ks ((k + k2) + 1) (a :: (l ++ c :: r), o) = _
      rw [rowL_go hc (hth _ _ _ _ h1)]
      exact cont_row hth k l1 _ o' h3 k2 res h2
/-- What lies there before stays ahead. -/
def ahead (p : List S33) (r : Option ST) : Option ST := r.map fun s => (s.1, p ++ s.2)
theorem acc_row {th : ST → Rz} {ks : List Int} (p : List S33) (hth : ∀ l o r, th (l, o) = some r → th (l, p ++ o) = some (ahead p r)) :
    ∀ (k : Nat) (l o : List S33) (r : Option ST), rowL th ks k (l, o) = some r → rowL th ks k (l, p ++ o) = some (ahead p r)
  | 0, _, _, _, h => by cases h
  | k + 1, [], o, r, h => by
    obtain rfl := rowL_nil _ _ _ _ _ h
    rfl
  | k + 1, a :: l, o, r, h => by
    rcases rowL_cons h with ⟨hc, rfl⟩ | ⟨hc, ⟨h0, rfl⟩ | ⟨l1, o1, h1, h2⟩⟩
    · exact rowL_stop hc
    · simp only [rowL]
      rw [if_pos hc, bnd_mk_none (hth _ _ _ h0)]
      rfl
    · rw [rowL_go hc (hth _ _ _ h1), List.append_assoc]
      exact acc_row p hth k l1 _ r h2
theorem acc (p : List S33) : ∀ (k lev : Nat) (l o : List S33) (r : Option ST), PF k lev (l, o) = some r → PF k lev (l, p ++ o) = some (ahead p r)
  | 0, _, _, _, _, h => by cases h
  | k + 1, lev, l, o, r, h => by
    have ih := acc p k
    have row : ∀ lev2 ks, rowF (PF k lev2) ks k (l, o) = some r → rowF (PF k lev2) ks k (l, p ++ o) = some (ahead p r) := by
      intro lev2 ks h
      rcases rowF_some h with ⟨h1, rfl⟩ | ⟨l1, o1, h1, h2⟩
      · exact bnd_mk_none (ih _ _ _ _ h1)
      · rw [rowF_mk (ih _ _ _ _ h1)]
        exact acc_row p (fun l o r q => ih lev2 l o r q) k l1 o1 r h2
    have put : ∀ lev2 l kind, bnd (PF k lev2 (l, o)) (putF kind) = some r → bnd (PF k lev2 (l, p ++ o)) (putF kind) = some (ahead p r) := by
      intro lev2 l kind h
      rcases bnd_some h with ⟨h1, rfl⟩ | ⟨⟨l1, o1⟩, h1, h2⟩
      · exact bnd_mk_none (ih _ _ _ _ h1)
      · rw [bnd_mk (ih _ _ _ _ h1)]
        obtain rfl := Option.some.inj h2
        show some (some (l1, (p ++ o1) ++ [_])) = _
        rw [List.append_assoc]
        rfl
    have take : ∀ lev2 l kind, bnd (PF k lev2 (l, o)) (takeF kind) = some r → bnd (PF k lev2 (l, p ++ o)) (takeF kind) = some (ahead p r) := by
      intro lev2 l kind h
      rcases bnd_some h with ⟨h1, rfl⟩ | ⟨⟨l1, o1⟩, h1, h2⟩
      · exact bnd_mk_none (ih _ _ _ _ h1)
      · rw [bnd_mk (ih _ _ _ _ h1)]
        unfold takeF at h2
        show takeF kind (l1, p ++ o1) = _
        unfold takeF
        split at h2
        · rename_i q
          rw [if_pos (show seesF kind (l1, p ++ o1) = true from q)]
          obtain rfl := Option.some.inj h2
          rfl
        · rename_i q
          rw [if_neg (show ¬ seesF kind (l1, p ++ o1) = true from q)]
          obtain rfl := Option.some.inj h2
          rfl
    have hs : ∀ kind, seesF kind (l, p ++ o) = seesF kind (l, o) := fun _ => rfl
    rw [PF_succ] at h ⊢
    unfold stepF at h ⊢
    split at h
    · rename_i q; rw [if_pos q]; exact row _ _ h
    · rename_i q; rw [if_neg q]
      split at h
      · rename_i q; rw [if_pos q]; exact row _ _ h
      · rename_i q; rw [if_neg q]
        split at h
        · rename_i q; rw [if_pos q, hs, hs]
          split at h
          · rename_i q; rw [if_pos q]; exact put _ _ _ h
          · rename_i q; rw [if_neg q]
            split at h
            · rename_i q; rw [if_pos q]; exact take _ _ _ h
            · rename_i q; rw [if_neg q]
              rcases bnd_some h with ⟨h1, rfl⟩ | ⟨⟨l1, o1⟩, h1, h2⟩
              · exact bnd_mk_none (ih _ _ _ _ h1)
              · rw [bnd_mk (ih _ _ _ _ h1)]
                cases l1 with
                | nil => obtain rfl := Option.some.inj h2; rfl
                | cons a l1 =>
                  dsimp only at h2
                  show (if decide (6 ≤ a.f0 ∧ a.f0 ≤ 11) = true then bnd (PF k 3 (l1, p ++ o1)) (putF a.f0) else some none) = _
                  split at h2
                  · rename_i q
                    rw [if_pos q]
                    rcases bnd_some h2 with ⟨h3, rfl⟩ | ⟨⟨l2, o2⟩, h3, h4⟩
                    · exact bnd_mk_none (ih _ _ _ _ h3)
                    · rw [bnd_mk (ih _ _ _ _ h3)]
                      obtain rfl := Option.some.inj h4
                      show some (some (l2, (p ++ o2) ++ [_])) = _
                      rw [List.append_assoc]
                      rfl
                  · rename_i q
                    rw [if_neg q]
                    obtain rfl := Option.some.inj h2
                    rfl
        · rename_i q; rw [if_neg q]
          split at h
          · rename_i q; rw [if_pos q]; exact row _ _ h
          · rename_i q; rw [if_neg q]
            split at h
            · rename_i q; rw [if_pos q]; exact row _ _ h
            · rename_i q; rw [if_neg q]
              cases l with
              | nil => obtain rfl := Option.some.inj h; rfl
              | cons a l =>
                dsimp only at h ⊢
                split at h
                · rename_i q
                  rw [if_pos q]
                  obtain rfl := Option.some.inj h
                  show some (some (l, (p ++ o) ++ [a])) = _
                  rw [List.append_assoc]
                  rfl
                · rename_i q
                  rw [if_neg q]
                  split at h
                  · rename_i q; rw [if_pos q]; exact put _ _ _ h
                  · rename_i q
                    rw [if_neg q]
                    split at h
                    · rename_i q; rw [if_pos q]; exact take _ _ _ h
                    · rename_i q
                      rw [if_neg q]
                      obtain rfl := Option.some.inj h
                      rfl
end Go.Proofs.YtikbgoppmailjaaDoor.Pure
/- Guards in brackets, turned, joined. -/
namespace Go.Proofs.YtikbgoppmailjaaDoor.Pure
open Go.Proofs.YtikbgoppmailjaaDoor.H
set_option linter.unusedVariables false
set_option linter.unusedSimpArgs false
/-- The signs are a guard, and this is how it lies behind. -/
def Guard (x o : List S33) : Prop := ∃ k, PF k 0 (x, []) = some (some ([], o))
/-- With ! ahead. -/
theorem nt {l p t q : List S33} (n : Int) (h : ∃ k, PF k 2 (l, p) = some (some (t, q))) : ∃ k, PF k 2 ((⟨14, n⟩ : S33) :: l, p) = some (some (t, q ++ [(⟨14, 0⟩ : S33)])) := by
  obtain ⟨k, hk⟩ := h
  refine ⟨k + 1, ?_⟩
  rw [PF_succ, step2, if_pos (show seesF 14 _ = true by show ((14 : Int) == 14) = true; decide)]
  show bnd (PF k 2 (l, p)) (putF 14) = _
  rw [bnd_mk hk]
  rfl
/-- One level up, at the end. -/
theorem up_end {lev lev2 : Nat} {ks : List Int} (hs : ∀ k st, PF (k + 1) lev st = rowF (PF k lev2) ks k st) {l p q : List S33} (h : ∃ k, PF k lev2 (l, p) = some (some ([], q))) : ∃ k, PF k lev (l, p) = some (some ([], q)) := by
  obtain ⟨k, hk⟩ := h
  refine ⟨k + 2, ?_⟩
  rw [hs, rowF_mk (PF_mono (by omega) hk)]
  rfl
end Go.Proofs.YtikbgoppmailjaaDoor.Pure
/- What the reader lays behind is a guard, behind. -/
namespace Go.Proofs.YtikbgoppmailjaaDoor.Pure
open Go.Proofs.YtikbgoppmailjaaDoor.H
set_option linter.unusedVariables false
set_option linter.unusedSimpArgs false
/-- A guard (true), or a number (false), behind. -/
inductive Post : Bool → List S33 → Prop
  | num (n : Int) : 0 ≤ n → n ≤ 2147483647 → Post false [⟨1, n⟩]
  | name (n : Int) : 0 ≤ n → n < 26 → Post false [⟨2, n⟩]
  | neg {p} : Post false p → Post false (p ++ [⟨19, 0⟩])
  | op {p q} (k : Int) : 3 ≤ k → k ≤ 5 → Post false p → Post false q → Post false (p ++ q ++ [⟨k, 0⟩])
  | cmp {p q} (k : Int) : 6 ≤ k → k ≤ 11 → Post false p → Post false q → Post true (p ++ q ++ [⟨k, 0⟩])
  | con {p q} (k : Int) : (k = 12 ∨ k = 13) → Post true p → Post true q → Post true (p ++ q ++ [⟨k, 0⟩])
  | nt {p} : Post true p → Post true (p ++ [⟨14, 0⟩])
/-- What a sign that is read may be. -/
def tok (s : S33) : Prop := (s.f0 = 1 → 0 ≤ s.f1 ∧ s.f1 ≤ 2147483647) ∧ (s.f0 = 2 → 0 ≤ s.f1 ∧ s.f1 ≤ 25)
def Lays (b : Bool) (th : ST → Rz) : Prop := ∀ l o l' o', (∀ s ∈ l, tok s) → th (l, o) = some (some (l', o')) → (∀ s ∈ l', tok s) ∧ ∃ p, Post b p ∧ o' = o ++ p
theorem lays_row {b : Bool} {th : ST → Rz} {ks : List Int} (hth : Lays b th) (hop : ∀ k, ks.contains k = true → ∀ p q, Post b p → Post b q → Post b (p ++ q ++ [⟨k, 0⟩])) :
    ∀ (k : Nat) (l o p l' o' : List S33), (∀ s ∈ l, tok s) → Post b p → rowL th ks k (l, o ++ p) = some (some (l', o')) → (∀ s ∈ l', tok s) ∧ ∃ p, Post b p ∧ o' = o ++ p
  | 0, _, _, _, _, _, _, _, h => by cases h
  | k + 1, [], o, p, l', o', ht, hp, h => by
    obtain ⟨rfl, rfl⟩ := Prod.mk.inj (Option.some.inj (rowL_nil _ _ _ _ _ h))
    exact ⟨ht, p, hp, rfl⟩
  | k + 1, a :: l, o, p, l', o', ht, hp, h => by
    rcases rowL_cons h with ⟨hc, h1⟩ | ⟨hc, ⟨_, h1⟩ | ⟨l1, o1, h1, h2⟩⟩
    · obtain ⟨rfl, rfl⟩ := Prod.mk.inj (Option.some.inj h1)
      exact ⟨ht, p, hp, rfl⟩
    · cases h1
    · obtain ⟨ht1, q, hq, rfl⟩ := hth _ _ _ _ (fun s hs => ht s (by simp [hs])) h1
      have e : o ++ p ++ q ++ [(⟨a.f0, 0⟩ : S33)] = o ++ (p ++ q ++ [(⟨a.f0, 0⟩ : S33)]) := by simp
      rw [e] at h2
      exact lays_row hth hop k l1 o _ l' o' ht1 (hop _ hc _ _ hp hq) h2
theorem lays_rowF {b : Bool} {th : ST → Rz} {ks : List Int} (hth : Lays b th) (hop : ∀ k, ks.contains k = true → ∀ p q, Post b p → Post b q → Post b (p ++ q ++ [⟨k, 0⟩])) (k : Nat) : Lays b (rowF th ks k) := by
  intro l o l' o' ht h
  rcases rowF_some h with ⟨_, h2⟩ | ⟨l1, o1, h1, h2⟩
  · cases h2
  · obtain ⟨ht1, p, hp, rfl⟩ := hth _ _ _ _ ht h1
    exact lays_row hth hop k l1 o p l' o' ht1 hp h2
theorem lays : ∀ (k lev : Nat), Lays (decide (lev ≤ 2)) (PF k lev)
  | 0, _ => fun _ _ _ _ _ h => by cases h
  | k + 1, lev => by
    intro l o l' o' ht h
    have ih := lays k
    rw [PF_succ] at h
    unfold stepF at h
    have htl : ∀ {a : S33} {t : List S33}, l = a :: t → ∀ s ∈ t, tok s := by
      rintro a t rfl s hs
      exact ht s (by simp [hs])
    have htt : ∀ s ∈ l.tail, tok s := fun s hs => ht s (List.mem_of_mem_tail hs)
    by_cases c0 : lev = 0
    · subst c0
      rw [if_pos rfl] at h
      exact lays_rowF (b := true) (ih 1) (fun k hk p q hp hq => by have e : k = 13 := by simpa using hk
                                                                   exact Post.con k (Or.inr e) hp hq) k l o l' o' ht h
    · rw [if_neg c0] at h
      by_cases c1 : lev = 1
      · subst c1
        rw [if_pos rfl] at h
        exact lays_rowF (b := true) (ih 2) (fun k hk p q hp hq => by have e : k = 12 := by simpa using hk
                                                                     exact Post.con k (Or.inl e) hp hq) k l o l' o' ht h
      · rw [if_neg c1] at h
        by_cases c2 : lev = 2
        · subst c2
          rw [if_pos rfl] at h
          dsimp only at h
          split at h
          · rcases bnd_some h with ⟨_, h2⟩ | ⟨⟨l1, o1⟩, h1, h2⟩
            · cases h2
            · obtain ⟨rfl, rfl⟩ := Prod.mk.inj (Option.some.inj (Option.some.inj h2))
              obtain ⟨ht1, p, hp, rfl⟩ := ih 2 _ _ _ _ htt h1
              exact ⟨ht1, _, Post.nt hp, by simp⟩
          · split at h
            · rcases bnd_some h with ⟨_, h2⟩ | ⟨⟨l1, o1⟩, h1, h2⟩
              · cases h2
              · obtain ⟨ht1, p, hp, rfl⟩ := ih 0 _ _ _ _ htt h1
                unfold takeF at h2
                split at h2
                · obtain ⟨rfl, rfl⟩ := Prod.mk.inj (Option.some.inj (Option.some.inj h2))
                  exact ⟨fun s hs => ht1 s (List.mem_of_mem_tail hs), p, hp, rfl⟩
                · cases h2
            · rcases bnd_some h with ⟨_, h2⟩ | ⟨⟨l1, o1⟩, h1, h2⟩
              · cases h2
              · obtain ⟨ht1, p, hp, rfl⟩ := ih 3 _ _ _ _ ht h1
                cases l1 with
                | nil => cases h2
                | cons a l1 =>
                  dsimp only at h2
                  split at h2
                  · rename_i q
                    rcases bnd_some h2 with ⟨_, h3⟩ | ⟨⟨l2, o2⟩, h3, h4⟩
                    · cases h3
                    · obtain ⟨rfl, rfl⟩ := Prod.mk.inj (Option.some.inj (Option.some.inj h4))
                      obtain ⟨ht2, p2, hp2, rfl⟩ := ih 3 _ _ _ _ (fun s hs => ht1 s (by simp [hs])) h3
                      have q2 := of_decide_eq_true q
                      exact ⟨ht2, _, Post.cmp a.f0 q2.1 q2.2 hp hp2, by simp⟩
                  · cases h2
        · rw [if_neg c2] at h
          by_cases c3 : lev = 3
          · subst c3
            rw [if_pos rfl] at h
            exact lays_rowF (b := false) (ih 4) (fun k hk p q hp hq => by have e : k = 3 ∨ k = 4 := by simpa using hk
                                                                          exact Post.op k (by omega) (by omega) hp hq) k l o l' o' ht h
          · rw [if_neg c3] at h
            by_cases c4 : lev = 4
            · subst c4
              rw [if_pos rfl] at h
              exact lays_rowF (b := false) (ih 5) (fun k hk p q hp hq => by have e : k = 5 := by simpa using hk
                                                                            exact Post.op k (by omega) (by omega) hp hq) k l o l' o' ht h
            · rw [if_neg c4] at h
              have hd : decide (lev ≤ 2) = false := decide_eq_false (by omega)
              rw [hd]
              cases l with
              | nil => cases h
              | cons a l =>
                dsimp only at h
                have hta := ht a (by simp)
                split at h
                · rename_i q
                  obtain ⟨rfl, rfl⟩ := Prod.mk.inj (Option.some.inj (Option.some.inj h))
                  refine ⟨htl rfl, [a], ?_, rfl⟩
                  obtain ⟨a0, a1⟩ := a
                  rcases q with q | q
                  · obtain rfl : a0 = 1 := q
                    exact Post.num _ (hta.1 rfl).1 (hta.1 rfl).2
                  · obtain rfl : a0 = 2 := q
                    exact Post.name _ (hta.2 rfl).1 (by have := (hta.2 rfl).2; show a1 < 26; have e : (a1 : Int) ≤ 25 := this; omega)
                · split at h
                  · rcases bnd_some h with ⟨_, h2⟩ | ⟨⟨l1, o1⟩, h1, h2⟩
                    · cases h2
                    · obtain ⟨rfl, rfl⟩ := Prod.mk.inj (Option.some.inj (Option.some.inj h2))
                      obtain ⟨ht1, p, hp, rfl⟩ := ih 5 _ _ _ _ (htl rfl) h1
                      exact ⟨ht1, _, Post.neg hp, by simp⟩
                  · split at h
                    · rcases bnd_some h with ⟨_, h2⟩ | ⟨⟨l1, o1⟩, h1, h2⟩
                      · cases h2
                      · obtain ⟨ht1, p, hp, rfl⟩ := ih 3 _ _ _ _ (htl rfl) h1
                        unfold takeF at h2
                        split at h2
                        · obtain ⟨rfl, rfl⟩ := Prod.mk.inj (Option.some.inj (Option.some.inj h2))
                          exact ⟨fun s hs => ht1 s (List.mem_of_mem_tail hs), p, hp, rfl⟩
                        · cases h2
                    · cases h
theorem guard_post {x o : List S33} (hx : ∀ s ∈ x, tok s) (h : Guard x o) : Post true o := by
  obtain ⟨k, hk⟩ := h
  obtain ⟨_, p, hp, rfl⟩ := lays k 0 _ _ _ _ hx hk
  exact hp
end Go.Proofs.YtikbgoppmailjaaDoor.Pure
/- Small laws of this session, over any program: an operation met by its run; a scope with several labels. -/
namespace Go.HK
open Go Go.RowKit

theorem wpList_doTo {P : Program} {ops : Array Oper} {rest : List Oper} {o : Oper} {a : Act} {w : World} {Q : Exit → Act → World → Prop} (hg : o.guard = none) (w' : World)
    (hrun : (execOp a.eval o).run P w = .ok .skip w')
    (h : wpList P ops Q rest (a.put o.dst undef) w') : wpList P ops Q (o :: rest) a w := by
  refine wpList_plain hg fun K hK => ?_
  unfold Oper.wp
  rw [hrun, Oper.upon_skip]
  exact hK _ _ h
theorem results_cell1 {fn : Func} {p : Tmp} {ty : TypeId} (h : fn.results = #[.cell p ty]) (tmps : Array Value) (P : Program) (w w' : World) (ad : Addr) (v : Value) (hp : tmps.getD p undef = .pointer (some ad)) (hl : (loadVar ty ad).run P w = .ok v w') :
    (results fn tmps).run P w = .ok v w' := by
  simp only [results, h]
  simp only [List.mapM_toArray, List.mapM_cons, List.mapM_nil, hp, asAddr]
  simp [hl]
theorem exec_store {P : Program} {ρ : Operand → Value} {o : Oper} {t : TypeId} {a x : Operand} (ho : o.op = .store t a x) {w w' : World} (h : (Instr.storeAt t (ρ a) (ρ x)).run P w = .ok () w') : (execOp ρ o).run P w = .ok .skip w' := by
  unfold execOp
  rw [ho]
  simp only [Sem.run_bind, h, Result.andThen]
  rfl
theorem exec_index {P : Program} {ρ : Operand → Value} {o : Oper} {t : TypeId} {a x : Operand} (ho : o.op = .index t a x) {w w' : World} {v : Value} (h : (Instr.index t (ρ a) (ρ x)).run P w = .ok v w') : (execOp ρ o).run P w = .ok (.value v) w' := by
  unfold execOp
  rw [ho]
  simp only [Sem.run_bind, h, Result.andThen]
  rfl

/-- As Q; by a goto to label l: J l. -/
def jumps (J : Nat → Act → World → Prop) (Q : Exit → Act → World → Prop) : Exit → Act → World → Prop
  | .goto l, a, w => J l a w
  | e, a, w => Q e a w

section
variable {P : Program} {a : Act} {w : World} {Q : Exit → Act → World → Prop}
theorem jumps_ret {J : Nat → Act → World → Prop} (h : Q .ret a w) : jumps J Q .ret a w := h
theorem wp_scope_labels {c : Code} (I : Nat → Nat → Act → World → Prop)
    (pass : ∀ l n a w, I l n a w → ∀ K : Nat → Act → World → Prop, (∀ l' n' a' w', n' < n → I l' n' a' w' → K l' a' w') → ∃ rest, findLabel c l = some (.seq .skip rest) ∧ rest.wp P (jumps K Q) a w)
    (first : ∀ K : Nat → Act → World → Prop, (∀ l n a' w', I l n a' w' → K l a' w') → (∀ l rest, findLabel c l = some (.seq .skip rest) → ∀ n a' w', I l n a' w' → rest.wp P (jumps K Q) a' w') → c.wp P (jumps K Q) a w) : (Code.scope c).wp P Q a w := by
  intro b k cs
  have key : ∀ n l a w, I l n a w → ∃ rest, findLabel c l = some rest ∧ ∃ e a' w', Q e a' w' ∧ Arrives P (lone (b.at a (.code rest :: .inScope c :: k)) cs w) b k cs e a' w' := by
    intro n
    induction n using Nat.strongRecOn with
    | _ n ih =>
      intro l a w hJ
      obtain ⟨rest, hr, hw0⟩ := pass l n a w hJ (fun l' a' w' => ∃ n', n' < n ∧ I l' n' a' w') (fun l' n' a' w' h1 h2 => ⟨n', h1, h2⟩)
      refine ⟨_, hr, ?_⟩
      have hw := wp_seq (x := Code.skip) (y := rest) (P := P) (Q := jumps (fun l' a' w' => ∃ n', n' < n ∧ I l' n' a' w') Q) (wp_skip hw0)
      obtain ⟨e, a₁, w₁, hq, harr⟩ := hw b (.inScope c :: k) cs
      cases e with
      | normal => exact ⟨.normal, a₁, w₁, hq, Steps.trans harr (.one step_inScope)⟩
      | exit id => exact ⟨.exit id, a₁, w₁, hq, fun k' hk => harr k' (by simp [exitTo, hk])⟩
      | goto l' =>
        obtain ⟨n', hlt, hJ'⟩ := hq
        obtain ⟨rest', hr', e₂, a₂, w₂, hq₂, harr₂⟩ := ih n' hlt l' a₁ w₁ hJ'
        exact ⟨e₂, a₂, w₂, hq₂, .of_steps (harr _ (by simp [gotoIn, hr'])) harr₂⟩
      | ret => exact ⟨_, a₁, w₁, hq, harr⟩
      | panic ch => exact ⟨_, a₁, w₁, hq, harr⟩
      | outgrown => exact ⟨_, a₁, w₁, hq, harr⟩
  obtain ⟨e, a₁, w₁, hq, harr⟩ := first (fun l a w => ∃ n, I l n a w) (fun l n a' w' h => ⟨n, h⟩) (fun l rest hr n a' w' h => by
    obtain ⟨rest', hr', hw⟩ := pass l n a' w' h (fun l a w => ∃ n, I l n a w) (fun l' n' a' w' _ h2 => ⟨n', h2⟩)
    rw [hr] at hr'
    simp only [Option.some.injEq, Code.seq.injEq, true_and] at hr'
    subst hr'
    exact hw) b (.inScope c :: k) cs
  cases e with
  | normal => exact ⟨.normal, a₁, w₁, hq, .head step_scope (Steps.trans harr (.one step_inScope))⟩
  | exit id => exact ⟨.exit id, a₁, w₁, hq, fun k' hk => .head step_scope (harr k' (by simp [exitTo, hk]))⟩
  | goto l' =>
    obtain ⟨n', hJ'⟩ := hq
    obtain ⟨rest', hr', e₂, a₂, w₂, hq₂, harr₂⟩ := key n' l' a₁ w₁ hJ'
    exact ⟨e₂, a₂, w₂, hq₂, .of_steps (.head step_scope (harr _ (by simp [gotoIn, hr']))) harr₂⟩
  | ret => exact ⟨_, a₁, w₁, hq, .of_steps (.one step_scope) harr⟩
  | panic ch => exact ⟨_, a₁, w₁, hq, .of_steps (.one step_scope) harr⟩
  | outgrown => exact ⟨_, a₁, w₁, hq, .of_steps (.one step_scope) harr⟩
end
end Go.HK
/- The shelf's contracts at this dump, in plain words (lay-plain.mjs), only those that are used. -/
namespace Go.Proofs
open Go.Shelf
def Tryd.lays156_ren : Go.Shelf.Ren := ⟨fun | 156 => 28 | 165 => 41 | 166 => 42 | 169 => 43 | 240 => 56 | 241 => 57 | 276 => 71 | 277 => 72 | n => n, fun | 31 => 44 | 9 => 9 | 3 => 3 | 4 => 4 | 0 => 0 | 20 => 20 | 72 => 82 | 76 => 74 | 70 => 80 | 37 => 64 | 75 => 58 | 127 => 95 | 164 => 108 | 5 => 5 | 80 => 84 | n => n, fun | n => n⟩
theorem Tryd.lays156 : Go.Proofs.Lays.n156 Tryd.prog Tryd.lays156_ren := {
  mixed := by kernel_rfl
  f156 := Tryd.func28.trans (congrArg some (by kernel_rfl))
  f165 := Tryd.func41.trans (congrArg some (by kernel_rfl))
  f166 := Tryd.func42.trans (congrArg some (by kernel_rfl))
  f169 := Tryd.func43.trans (congrArg some (by kernel_rfl))
  f240 := Tryd.func56.trans (congrArg some (by kernel_rfl))
  f241 := Tryd.func57.trans (congrArg some (by kernel_rfl))
  f276 := Tryd.func71.trans (congrArg some (by kernel_rfl))
  f277 := Tryd.func72.trans (congrArg some (by kernel_rfl))
  t0 := Tryd.underlying0
  a0 := Tryd.isAgg0
  z0 := Tryd.sizeOf0
  v0 := Tryd.zeroValue0
  t3 := Tryd.underlying3
  a3 := Tryd.isAgg3
  z3 := Tryd.sizeOf3
  v3 := Tryd.zeroValue3
  t4 := Tryd.underlying4
  a4 := Tryd.isAgg4
  z4 := Tryd.sizeOf4
  v4 := Tryd.zeroValue4
  t9 := Tryd.underlying9
  a9 := Tryd.isAgg9
  z9 := Tryd.sizeOf9
  v9 := Tryd.zeroValue9
  t20 := Tryd.underlying20
  a20 := Tryd.isAgg20
  z20 := Tryd.sizeOf20
  v20 := Tryd.zeroValue20
  t31 := Tryd.underlying44
  a31 := Tryd.isAgg44
  z31 := Tryd.sizeOf44
  v31 := Tryd.zeroValue44
  t37 := Tryd.underlying64
  a37 := Tryd.isAgg64
  z37 := Tryd.sizeOf64
  v37 := Tryd.zeroValue64
  t70 := Tryd.underlying80
  a70 := Tryd.isAgg80
  z70 := Tryd.sizeOf80
  v70 := Tryd.zeroValue80
  t72 := Tryd.underlying82
  a72 := Tryd.isAgg82
  z72 := Tryd.sizeOf82
  v72 := Tryd.zeroValue82
  t75 := Tryd.underlying58
  a75 := Tryd.isAgg58
  z75 := Tryd.sizeOf58
  v75 := Tryd.zeroValue58
  t76 := Tryd.underlying74
  a76 := Tryd.isAgg74
  z76 := Tryd.sizeOf74
  v76 := Tryd.zeroValue74
  t127 := Tryd.underlying95
  a127 := Tryd.isAgg95
  z127 := Tryd.sizeOf95
  v127 := Tryd.zeroValue95
  t164 := Tryd.underlying108
  a164 := Tryd.isAgg108
  z164 := Tryd.sizeOf108
  v164 := Tryd.zeroValue108 }
theorem Tryd.Builder_Extra_156 : Builder.Extra Tryd.prog Tryd.lays156_ren := {
  sizeBuilder := by kernel_rfl
  liesBuilder := by kernel_rfl
  t5 := Tryd.underlying5
  a5 := Tryd.isAgg5
  z5 := Tryd.sizeOf5
  v5 := Tryd.zeroValue5
  infoByte := by kernel_rfl
  cellsByte := by kernel_rfl
  sizeByte := by kernel_rfl
  neB5 := by decide }
open Go.RowKit in
theorem Tryd.strings_Join_none (a : Option Addr) (c : Nat) (sep : ByteArray) (w : World) :
    Calls Tryd.prog 28 #[.slice a 0 c, .string sep] w fun e w' => e = .returned (.string ⟨#[]⟩) ∧ w' = w := Any.strings_Join_none Tryd.lays156 Tryd.Builder_Extra_156 a c sep w
open Go.RowKit in
theorem Tryd.strings_Join (bk o c : Nat) (xs : List ByteArray) (sep : ByteArray) (w : World) (hcells : ∀ (j : Nat) x, xs[j]? = some x → w.cell? ⟨bk, o + j, none⟩ = some (.string x)) (hbk : bk < w.heap.size) (hN : xs.length ≤ 140737488355328) (hcap : xs.length ≤ c) (hlen : (Lib.join (xs.map (·.data.toList)) sep.data.toList).length ≤ 140737488355328) :
    Calls Tryd.prog 28 #[.slice (some ⟨bk, o, none⟩) xs.length c, .string sep] w fun e w' => e = .returned (.string ⟨(Lib.join (xs.map (·.data.toList)) sep.data.toList).toArray⟩) ∧ Below w.heap.size w w' := Any.strings_Join Tryd.lays156 Tryd.Builder_Extra_156 bk o c xs sep w hcells hbk hN hcap hlen
def Tryd.lays161_ren : Go.Shelf.Ren := ⟨fun | 161 => 31 | 231 => 44 | 227 => 45 | 233 => 46 | 235 => 47 | 228 => 58 | 197 => 59 | 151 => 60 | 260 => 73 | 152 => 74 | 137 => 83 | 119 => 84 | 224 => 85 | 225 => 86 | 217 => 95 | 266 => 98 | n => n, fun | 9 => 9 | 4 => 4 | 3 => 3 | 5 => 5 | 117 => 88 | 116 => 87 | 0 => 0 | 124 => 91 | 105 => 97 | 21 => 21 | 119 => 124 | 46 => 114 | 139 => 127 | 138 => 126 | n => n, fun | 3 => 4 | 4 => 5 | n => n⟩
theorem Tryd.lays161 : Go.Proofs.Lays.n161 Tryd.prog Tryd.lays161_ren := {
  mixed := by kernel_rfl
  f119 := Tryd.func84.trans (congrArg some (by kernel_rfl))
  f137 := Tryd.func83.trans (congrArg some (by kernel_rfl))
  f151 := Tryd.func60.trans (congrArg some (by kernel_rfl))
  f152 := Tryd.func74.trans (congrArg some (by kernel_rfl))
  f161 := Tryd.func31.trans (congrArg some (by kernel_rfl))
  f197 := Tryd.func59.trans (congrArg some (by kernel_rfl))
  f217 := Tryd.func95.trans (congrArg some (by kernel_rfl))
  f224 := Tryd.func85.trans (congrArg some (by kernel_rfl))
  f225 := Tryd.func86.trans (congrArg some (by kernel_rfl))
  f227 := Tryd.func45.trans (congrArg some (by kernel_rfl))
  f228 := Tryd.func58.trans (congrArg some (by kernel_rfl))
  f231 := Tryd.func44.trans (congrArg some (by kernel_rfl))
  f233 := Tryd.func46.trans (congrArg some (by kernel_rfl))
  f235 := Tryd.func47.trans (congrArg some (by kernel_rfl))
  f260 := Tryd.func73.trans (congrArg some (by kernel_rfl))
  f266 := Tryd.func98.trans (congrArg some (by kernel_rfl))
  t0 := Tryd.underlying0
  a0 := Tryd.isAgg0
  z0 := Tryd.sizeOf0
  v0 := Tryd.zeroValue0
  t3 := Tryd.underlying3
  a3 := Tryd.isAgg3
  z3 := Tryd.sizeOf3
  v3 := Tryd.zeroValue3
  t4 := Tryd.underlying4
  a4 := Tryd.isAgg4
  z4 := Tryd.sizeOf4
  v4 := Tryd.zeroValue4
  t5 := Tryd.underlying5
  a5 := Tryd.isAgg5
  z5 := Tryd.sizeOf5
  v5 := Tryd.zeroValue5
  t9 := Tryd.underlying9
  a9 := Tryd.isAgg9
  z9 := Tryd.sizeOf9
  v9 := Tryd.zeroValue9
  t21 := Tryd.underlying21
  a21 := Tryd.isAgg21
  z21 := Tryd.sizeOf21
  v21 := Tryd.zeroValue21
  t46 := Tryd.underlying114
  a46 := Tryd.isAgg114
  z46 := Tryd.sizeOf114
  v46 := Tryd.zeroValue114
  t105 := Tryd.underlying97
  a105 := Tryd.isAgg97
  z105 := Tryd.sizeOf97
  v105 := Tryd.zeroValue97
  t116 := Tryd.underlying87
  a116 := Tryd.isAgg87
  z116 := Tryd.sizeOf87
  t117 := Tryd.underlying88
  a117 := Tryd.isAgg88
  z117 := Tryd.sizeOf88
  v117 := Tryd.zeroValue88
  t119 := Tryd.underlying124
  a119 := Tryd.isAgg124
  z119 := Tryd.sizeOf124
  t124 := Tryd.underlying91
  a124 := Tryd.isAgg91
  z124 := Tryd.sizeOf91
  v124 := Tryd.zeroValue91
  t138 := Tryd.underlying126
  a138 := Tryd.isAgg126
  z138 := Tryd.sizeOf126
  v138 := Tryd.zeroValue126
  t139 := Tryd.underlying127
  a139 := Tryd.isAgg127
  z139 := Tryd.sizeOf127
  v139 := Tryd.zeroValue127
  g3 := by kernel_rfl
  g4 := by kernel_rfl }
open Go.RowKit in
theorem Tryd.strings_TrimLeft_one (s : ByteArray) (c : UInt8) (hc : c.toNat < 128) (w : World) :
    Calls Tryd.prog 31 #[.string s, .string ⟨#[c]⟩] w fun e w' => e = .returned (.string ⟨(Lib.trimLeftB s.data.toList c).toArray⟩) ∧ w' = w := Any.strings_TrimLeft_one Tryd.lays161 s c hc w
def Tryd.lays172_ren : Go.Shelf.Ren := ⟨fun | 172 => 34 | 244 => 49 | 245 => 50 | 247 => 62 | 279 => 63 | 280 => 64 | 281 => 65 | 282 => 66 | 287 => 75 | 316 => 76 | 171 => 39 | 205 => 77 | 321 => 87 | 322 => 88 | 243 => 55 | 246 => 70 | 283 => 79 | 284 => 80 | 285 => 81 | 286 => 82 | 129 => 91 | 317 => 90 | 318 => 92 | 319 => 93 | 320 => 94 | 337 => 96 | 338 => 97 | n => n, fun | 9 => 9 | 3 => 3 | 75 => 58 | 76 => 74 | 4 => 4 | 5 => 5 | 167 => 100 | 37 => 64 | 0 => 0 | 85 => 101 | 2 => 2 | 168 => 103 | 53 => 63 | 175 => 112 | 46 => 114 | 210 => 117 | 127 => 95 | 145 => 136 | 143 => 134 | 21 => 21 | 171 => 119 | 173 => 122 | 212 => 138 | 51 => 139 | 20 => 20 | 213 => 140 | 232 => 143 | 233 => 144 | 80 => 84 | n => n, fun | 15 => 1 | 16 => 2 | 17 => 6 | 18 => 7 | 19 => 8 | n => n⟩
theorem Tryd.lays172 : Go.Proofs.Lays.n172 Tryd.prog Tryd.lays172_ren := {
  mixed := by kernel_rfl
  f129 := Tryd.func91.trans (congrArg some (by kernel_rfl))
  f171 := Tryd.func39.trans (congrArg some (by kernel_rfl))
  f172 := Tryd.func34.trans (congrArg some (by kernel_rfl))
  f205 := Tryd.func77.trans (congrArg some (by kernel_rfl))
  f243 := Tryd.func55.trans (congrArg some (by kernel_rfl))
  f244 := Tryd.func49.trans (congrArg some (by kernel_rfl))
  f245 := Tryd.func50.trans (congrArg some (by kernel_rfl))
  f246 := Tryd.func70.trans (congrArg some (by kernel_rfl))
  f247 := Tryd.func62.trans (congrArg some (by kernel_rfl))
  f279 := Tryd.func63.trans (congrArg some (by kernel_rfl))
  f280 := Tryd.func64.trans (congrArg some (by kernel_rfl))
  f281 := Tryd.func65.trans (congrArg some (by kernel_rfl))
  f282 := Tryd.func66.trans (congrArg some (by kernel_rfl))
  f283 := Tryd.func79.trans (congrArg some (by kernel_rfl))
  f284 := Tryd.func80.trans (congrArg some (by kernel_rfl))
  f285 := Tryd.func81.trans (congrArg some (by kernel_rfl))
  f286 := Tryd.func82.trans (congrArg some (by kernel_rfl))
  f287 := Tryd.func75.trans (congrArg some (by kernel_rfl))
  f316 := Tryd.func76.trans (congrArg some (by kernel_rfl))
  f317 := Tryd.func90.trans (congrArg some (by kernel_rfl))
  f318 := Tryd.func92.trans (congrArg some (by kernel_rfl))
  f319 := Tryd.func93.trans (congrArg some (by kernel_rfl))
  f320 := Tryd.func94.trans (congrArg some (by kernel_rfl))
  f321 := Tryd.func87.trans (congrArg some (by kernel_rfl))
  f322 := Tryd.func88.trans (congrArg some (by kernel_rfl))
  f337 := Tryd.func96.trans (congrArg some (by kernel_rfl))
  f338 := Tryd.func97.trans (congrArg some (by kernel_rfl))
  t0 := Tryd.underlying0
  a0 := Tryd.isAgg0
  z0 := Tryd.sizeOf0
  v0 := Tryd.zeroValue0
  t2 := Tryd.underlying2
  a2 := Tryd.isAgg2
  z2 := Tryd.sizeOf2
  v2 := Tryd.zeroValue2
  t3 := Tryd.underlying3
  a3 := Tryd.isAgg3
  z3 := Tryd.sizeOf3
  v3 := Tryd.zeroValue3
  t4 := Tryd.underlying4
  a4 := Tryd.isAgg4
  z4 := Tryd.sizeOf4
  v4 := Tryd.zeroValue4
  t5 := Tryd.underlying5
  a5 := Tryd.isAgg5
  z5 := Tryd.sizeOf5
  v5 := Tryd.zeroValue5
  t9 := Tryd.underlying9
  a9 := Tryd.isAgg9
  z9 := Tryd.sizeOf9
  v9 := Tryd.zeroValue9
  t20 := Tryd.underlying20
  a20 := Tryd.isAgg20
  z20 := Tryd.sizeOf20
  v20 := Tryd.zeroValue20
  t21 := Tryd.underlying21
  a21 := Tryd.isAgg21
  z21 := Tryd.sizeOf21
  v21 := Tryd.zeroValue21
  t37 := Tryd.underlying64
  a37 := Tryd.isAgg64
  z37 := Tryd.sizeOf64
  v37 := Tryd.zeroValue64
  t46 := Tryd.underlying114
  a46 := Tryd.isAgg114
  z46 := Tryd.sizeOf114
  v46 := Tryd.zeroValue114
  t51 := Tryd.underlying139
  a51 := Tryd.isAgg139
  z51 := Tryd.sizeOf139
  v51 := Tryd.zeroValue139
  t53 := Tryd.underlying63
  a53 := Tryd.isAgg63
  z53 := Tryd.sizeOf63
  v53 := Tryd.zeroValue63
  t75 := Tryd.underlying58
  a75 := Tryd.isAgg58
  z75 := Tryd.sizeOf58
  v75 := Tryd.zeroValue58
  t76 := Tryd.underlying74
  a76 := Tryd.isAgg74
  z76 := Tryd.sizeOf74
  v76 := Tryd.zeroValue74
  t85 := Tryd.underlying101
  a85 := Tryd.isAgg101
  z85 := Tryd.sizeOf101
  v85 := Tryd.zeroValue101
  t127 := Tryd.underlying95
  a127 := Tryd.isAgg95
  z127 := Tryd.sizeOf95
  v127 := Tryd.zeroValue95
  t143 := Tryd.underlying134
  a143 := Tryd.isAgg134
  z143 := Tryd.sizeOf134
  v143 := Tryd.zeroValue134
  t145 := Tryd.underlying136
  a145 := Tryd.isAgg136
  z145 := Tryd.sizeOf136
  v145 := Tryd.zeroValue136
  t167 := Tryd.underlying100
  a167 := Tryd.isAgg100
  z167 := Tryd.sizeOf100
  v167 := Tryd.zeroValue100
  t168 := Tryd.underlying103
  a168 := Tryd.isAgg103
  z168 := Tryd.sizeOf103
  v168 := Tryd.zeroValue103
  t171 := Tryd.underlying119
  a171 := Tryd.isAgg119
  z171 := Tryd.sizeOf119
  v171 := Tryd.zeroValue119
  t173 := Tryd.underlying122
  a173 := Tryd.isAgg122
  z173 := Tryd.sizeOf122
  v173 := Tryd.zeroValue122
  t175 := Tryd.underlying112
  a175 := Tryd.isAgg112
  z175 := Tryd.sizeOf112
  v175 := Tryd.zeroValue112
  t210 := Tryd.underlying117
  a210 := Tryd.isAgg117
  z210 := Tryd.sizeOf117
  v210 := Tryd.zeroValue117
  t212 := Tryd.underlying138
  a212 := Tryd.isAgg138
  z212 := Tryd.sizeOf138
  v212 := Tryd.zeroValue138
  t213 := Tryd.underlying140
  a213 := Tryd.isAgg140
  z213 := Tryd.sizeOf140
  t232 := Tryd.underlying143
  a232 := Tryd.isAgg143
  z232 := Tryd.sizeOf143
  v232 := Tryd.zeroValue143
  t233 := Tryd.underlying144
  a233 := Tryd.isAgg144
  z233 := Tryd.sizeOf144
  v233 := Tryd.zeroValue144
  g15 := by kernel_rfl
  g16 := by kernel_rfl
  g17 := by kernel_rfl
  g18 := by kernel_rfl
  g19 := by kernel_rfl }
open Go.RowKit in
theorem Tryd.strconv_Atoi (s : ByteArray) (n : Int) (hl : s.size ≤ 18) (h : Lib.atoi s.data.toList = some n) (w : World) :
    Calls Tryd.prog 34 #[.string s] w fun e w' => e = .returned (.tuple #[.int .i64 n, .nilIface]) ∧ ∃ t, w' = Lib.bytesWorld w 5 t := Any.strconv_Atoi Tryd.lays172 s n hl h w
def Tryd.laysM171_ren : Go.Shelf.Ren := ⟨fun | 171 => 39 | 243 => 55 | 246 => 70 | 283 => 79 | 284 => 80 | 285 => 81 | 286 => 82 | 129 => 91 | 317 => 90 | 318 => 92 | 319 => 93 | 320 => 94 | 337 => 96 | 338 => 97 | n => n, fun | 3 => 3 | 9 => 9 | 2 => 2 | 4 => 4 | 171 => 119 | 0 => 0 | 53 => 63 | 37 => 64 | 5 => 5 | 173 => 122 | 212 => 138 | 51 => 139 | 20 => 20 | 213 => 140 | 46 => 114 | 232 => 143 | 233 => 144 | n => n, fun | 17 => 6 | 18 => 7 | 19 => 8 | n => n⟩
theorem Tryd.laysM171 : Go.Proofs.LaysM.n171 Tryd.prog Tryd.laysM171_ren := {
  mixed := by kernel_rfl
  f129 := Tryd.func91.trans (congrArg some (by kernel_rfl))
  f171 := Tryd.func39.trans (congrArg some (by kernel_rfl))
  f243 := Tryd.func55.trans (congrArg some (by kernel_rfl))
  f246 := Tryd.func70.trans (congrArg some (by kernel_rfl))
  f283 := Tryd.func79.trans (congrArg some (by kernel_rfl))
  f284 := Tryd.func80.trans (congrArg some (by kernel_rfl))
  f285 := Tryd.func81.trans (congrArg some (by kernel_rfl))
  f286 := Tryd.func82.trans (congrArg some (by kernel_rfl))
  f317 := Tryd.func90.trans (congrArg some (by kernel_rfl))
  f318 := Tryd.func92.trans (congrArg some (by kernel_rfl))
  f319 := Tryd.func93.trans (congrArg some (by kernel_rfl))
  f320 := Tryd.func94.trans (congrArg some (by kernel_rfl))
  f337 := Tryd.func96.trans (congrArg some (by kernel_rfl))
  f338 := Tryd.func97.trans (congrArg some (by kernel_rfl))
  t0 := Tryd.underlying0
  a0 := Tryd.isAgg0
  z0 := Tryd.sizeOf0
  v0 := Tryd.zeroValue0
  t2 := Tryd.underlying2
  a2 := Tryd.isAgg2
  z2 := Tryd.sizeOf2
  v2 := Tryd.zeroValue2
  t3 := Tryd.underlying3
  a3 := Tryd.isAgg3
  z3 := Tryd.sizeOf3
  v3 := Tryd.zeroValue3
  t4 := Tryd.underlying4
  a4 := Tryd.isAgg4
  z4 := Tryd.sizeOf4
  v4 := Tryd.zeroValue4
  t5 := Tryd.underlying5
  a5 := Tryd.isAgg5
  z5 := Tryd.sizeOf5
  v5 := Tryd.zeroValue5
  t9 := Tryd.underlying9
  a9 := Tryd.isAgg9
  z9 := Tryd.sizeOf9
  v9 := Tryd.zeroValue9
  t20 := Tryd.underlying20
  a20 := Tryd.isAgg20
  z20 := Tryd.sizeOf20
  v20 := Tryd.zeroValue20
  t37 := Tryd.underlying64
  a37 := Tryd.isAgg64
  z37 := Tryd.sizeOf64
  v37 := Tryd.zeroValue64
  t46 := Tryd.underlying114
  a46 := Tryd.isAgg114
  z46 := Tryd.sizeOf114
  v46 := Tryd.zeroValue114
  t51 := Tryd.underlying139
  a51 := Tryd.isAgg139
  z51 := Tryd.sizeOf139
  v51 := Tryd.zeroValue139
  t53 := Tryd.underlying63
  a53 := Tryd.isAgg63
  z53 := Tryd.sizeOf63
  v53 := Tryd.zeroValue63
  t171 := Tryd.underlying119
  a171 := Tryd.isAgg119
  z171 := Tryd.sizeOf119
  v171 := Tryd.zeroValue119
  t173 := Tryd.underlying122
  a173 := Tryd.isAgg122
  z173 := Tryd.sizeOf122
  v173 := Tryd.zeroValue122
  t212 := Tryd.underlying138
  a212 := Tryd.isAgg138
  z212 := Tryd.sizeOf138
  v212 := Tryd.zeroValue138
  t213 := Tryd.underlying140
  a213 := Tryd.isAgg140
  z213 := Tryd.sizeOf140
  t232 := Tryd.underlying143
  a232 := Tryd.isAgg143
  z232 := Tryd.sizeOf143
  v232 := Tryd.zeroValue143
  t233 := Tryd.underlying144
  a233 := Tryd.isAgg144
  z233 := Tryd.sizeOf144
  v233 := Tryd.zeroValue144
  g17 := by kernel_rfl
  g18 := by kernel_rfl
  g19 := by kernel_rfl
  i0 := by kernel_rfl
  i2 := by kernel_rfl
  i3 := by kernel_rfl
  i4 := by kernel_rfl
  i5 := by kernel_rfl
  i9 := by kernel_rfl
  i20 := by kernel_rfl
  i37 := by kernel_rfl
  i46 := by kernel_rfl
  i51 := by kernel_rfl
  i53 := by kernel_rfl
  i171 := by kernel_rfl
  i173 := by kernel_rfl
  i212 := by kernel_rfl
  i232 := by kernel_rfl
  i233 := by kernel_rfl
  m17 := by kernel_rfl
  m18 := by kernel_rfl
  m19 := by kernel_rfl }
open Go.RowKit Go.Sort Go.Lib in
theorem Tryd.strconv_Itoa (n : Int) (h0 : -9223372036854775808 ≤ n) (h1 : n ≤ 9223372036854775807) (w : World) (htab : Lib.TabIs Tryd.prog w "internal/strconv.uint64pow10" .u64 Lib.pow10Tab) :
    Calls Tryd.prog 39 #[.int .i64 n] w fun e w' => e = .returned (.string ⟨(Lib.itoa n).toArray⟩) ∧ ∃ k os, w' = grow (w.drewN k) os := Any.strconv_Itoa Tryd.laysM171 n h0 h1 w htab
def Tryd.lays99_ren : Go.Shelf.Ren := ⟨fun | 99 => 48 | 206 => 61 | n => n, fun | 9 => 9 | 4 => 4 | 3 => 3 | n => n, fun | n => n⟩
theorem Tryd.lays99 : Go.Proofs.Lays.n99 Tryd.prog Tryd.lays99_ren := {
  mixed := by kernel_rfl
  f99 := Tryd.func48.trans (congrArg some (by kernel_rfl))
  f206 := Tryd.func61.trans (congrArg some (by kernel_rfl))
  t3 := Tryd.underlying3
  a3 := Tryd.isAgg3
  z3 := Tryd.sizeOf3
  v3 := Tryd.zeroValue3
  t4 := Tryd.underlying4
  a4 := Tryd.isAgg4
  z4 := Tryd.sizeOf4
  v4 := Tryd.zeroValue4
  t9 := Tryd.underlying9
  a9 := Tryd.isAgg9
  z9 := Tryd.sizeOf9
  v9 := Tryd.zeroValue9 }
open Go.RowKit Go.Lib in
theorem Tryd.strings_HasPrefix (s p : ByteArray) (w : World) :
    Calls Tryd.prog 48 #[.string s, .string p] w fun e w' => e = .returned (.bool (Lib.hasPrefix s.data.toList p.data.toList)) ∧ w' = w := Any.strings_HasPrefix Tryd.lays99 s p w
open Go.RowKit in
theorem Tryd.strings_TrimLeft_set (s cutset : ByteArray) (w : World) (hcs : cutset.size < 4294967281) (hascii : ∀ (j : Nat) b, cutset.data.toList[j]? = some b → b.toNat < 128) :
    Calls Tryd.prog 31 #[.string s, .string cutset] w fun e w' => e = .returned (.string ⟨(Lib.trimLeftS s.data.toList cutset.data.toList).toArray⟩) ∧ Below w.heap.size w w' :=
  Any.strings_TrimLeft_laid Tryd.lays161 (by kernel_rfl) s cutset w hcs hascii
end Go.Proofs
/- What a call asks of the package-level tables that it reads: 'Tabs w'. -/
namespace Go.Proofs.YtikbgoppmailjaaDoor.H
open Go.RowKit Go.Sort
set_option linter.unusedVariables false
structure Tabs (w : World) : Prop where
  pow : Lib.TabIs Tryd.prog w "internal/strconv.uint64pow10" .u64 Lib.pow10Tab
theorem tabs_glob : Tryd.prog.globalNamed "internal/strconv.uint64pow10" = some 6 := by kernel_rfl
theorem Tabs.below {w w' : World} (h : Tabs w) (hb : Below w.heap.size w w') : Tabs w' := by
  have hlt : 6 < w.heap.size := World.block_lt_of_cell? w _ (h.pow.cell tabs_glob 0 (by decide))
  exact ⟨var?_below hb tabs_glob hlt h.pow⟩
theorem below_grow (w : World) (k : Nat) (os : Array Obj) : Below w.heap.size w (grow (w.drewN k) os) :=
  ⟨rfl, rfl, rfl, by show w.heap.size ≤ (w.heap ++ os).size; simp, fun j hj => by show (w.heap ++ os)[j]? = w.heap[j]?; rw [Array.getElem?_append_left hj]⟩
theorem itoa_calls (n : Int) (h0 : -9223372036854775808 ≤ n) (h1 : n ≤ 9223372036854775807) (w : World) (hT : Tabs w) :
    Calls Tryd.prog 39 #[.int .i64 n] w fun e w' => e = .returned (.string ⟨(Lib.itoa n).toArray⟩) ∧ Below w.heap.size w w' :=
  (Tryd.strconv_Itoa n h0 h1 w hT.pow).mono fun e w' ⟨he, k, os, hw⟩ => ⟨he, hw ▸ below_grow w k os⟩
/-- The decimal digits of u, by so many steps (what the kernel can reckon). -/
def digS : Nat → Nat → List UInt8
  | 0, _ => []
  | f + 1, u => if u < 10 then [UInt8.ofNat (48 + u)] else digS f (u / 10) ++ [UInt8.ofNat (48 + u % 10)]
theorem digS_eq : ∀ (f u : Nat), u < 10 ^ f → 0 < f → digS f u = Lib.decDigits u
  | 0, _, _, h => by omega
  | f + 1, u, h, _ => by
    rw [Lib.decDigits]
    unfold digS
    by_cases hu : u < 10
    · rw [if_pos hu, dif_pos hu]
    · rw [if_neg hu, dif_neg hu]
      have hf : 0 < f := by
        rcases Nat.eq_zero_or_pos f with rfl | h1
        · omega
        · exact h1
      rw [digS_eq f (u / 10) (by rw [Nat.pow_succ] at h; omega) hf]
def itoaS (n : Int) : List UInt8 := digS 20 n.toNat
theorem itoaS_eq (n : Int) (h0 : 0 ≤ n) (h1 : n ≤ 9223372036854775807) : Lib.itoa n = itoaS n := by
  unfold Lib.itoa itoaS
  have e : (10 : Nat) ^ 20 = 100000000000000000000 := by decide
  have hlt : n.toNat < 10 ^ 20 := by rw [e]; omega
  rw [if_neg (by omega), digS_eq 20 _ hlt (by decide)]
theorem itoaS_calls (n : Int) (h0 : 0 ≤ n) (h1 : n ≤ 2147483647) (w : World) (hT : Tabs w) :
    Calls Tryd.prog 39 #[.int .i64 n] w fun e w' => e = .returned (.string ⟨(itoaS n).toArray⟩) ∧ Below w.heap.size w w' := by
  rw [← itoaS_eq n h0 (by omega)]
  exact itoa_calls n (by omega) (by omega) w hT
end Go.Proofs.YtikbgoppmailjaaDoor.H
/- What a call asks of the package-level tables and of guard's own error: 'Tabs2 w'. -/
namespace Go.Proofs.YtikbgoppmailjaaDoor.H
open Go.RowKit
structure Tabs2 (w : World) : Prop extends Tabs w where
  wrong : ∃ T pv, w.cell? ⟨0, 0, none⟩ = some (.iface T pv)
theorem Tabs2.below {w w' : World} (h : Tabs2 w) (hb : Below w.heap.size w w') : Tabs2 w' := by
  obtain ⟨T, pv, hc⟩ := h.wrong
  have hlt : 0 < w.heap.size := World.block_lt_of_cell? w _ hc
  exact ⟨h.toTabs.below hb, T, pv, (hb.cell (p := ⟨0, 0, none⟩) hlt).trans hc⟩
end Go.Proofs.YtikbgoppmailjaaDoor.H
-- Written by hp.py (a program of this session, over the kit's print.py), with hand-made contracts beside it.
namespace Go.Proofs.YtikbgoppmailjaaDoor.H
open Go.RowKit Go.Proofs.YtikbgoppmailjaaDoorW.PrintWords Go.Proofs.YtikbgoppmailjaaDoorW.PrintLast Go.Proofs.YtikbgoppmailjaaDoorW.PrintMore
attribute [local go_sem] max2_int min2_int max_two min_two max_three min_three max_four min_four   -- for this text's walks alone
set_option linter.unusedVariables false
set_option linter.unusedSimpArgs false

/-! ### slices_Index_int_int: function 67 -/
def slices_Index_int_int.l0 : Nat → List Int → Int → Int → Int → Option (Int)
  | 0, _, _, _, _ => none
  | k + 1, x0, x1, x7, x8 => if x8 < x7 then (if 0 ≤ x8 then (if x8 < (x0.length : Int) then (if x1 = (rd x0 x8) then (some x8) else (slices_Index_int_int.l0 k x0 x1 x7 (wrap64 (x8 + 1)))) else (none)) else (none)) else (some (-1))
def slices_Index_int_int.f (k : Nat) (l0 : List Int) (a1 : Int) : Option (Int) := slices_Index_int_int.l0 k l0 a1 (l0.length : Int) 0
theorem slices_Index_int_int.mono_l : ∀ k, (∀ y0 y1 y2 y3, LeO (slices_Index_int_int.l0 k y0 y1 y2 y3) (slices_Index_int_int.l0 (k + 1) y0 y1 y2 y3))
  | 0 => fun _ _ _ _ r h => by simp [slices_Index_int_int.l0] at h
  | k + 1 => by
    have ih0 := slices_Index_int_int.mono_l k
    · intro y0 y1 y2 y3
      unfold slices_Index_int_int.l0
      repeat' first
      | (with_reducible exact ih0 _ _ _ _)
      | (with_reducible exact LeO.refl _)
      | (with_reducible exact LeO.none _)
      | (with_reducible refine LeO.ite ?_ ?_)
      | (with_reducible refine LeO.bind ?_ (fun _ => ?_))
      | exact ih0 _ _ _ _
      | exact LeO.none _
      | refine LeO.ite ?_ ?_
      | refine LeO.bind ?_ (fun _ => ?_)
theorem slices_Index_int_int.mono : ∀ a0 a1 k, LeO (slices_Index_int_int.f k a0 a1) (slices_Index_int_int.f (k + 1) a0 a1) := by
  intro a0 a1 k
  have ih0 := slices_Index_int_int.mono_l k
  unfold slices_Index_int_int.f
  repeat' first
      | (with_reducible exact ih0 _ _ _ _)
      | (with_reducible exact LeO.refl _)
      | (with_reducible exact LeO.none _)
      | (with_reducible refine LeO.ite ?_ ?_)
      | (with_reducible refine LeO.bind ?_ (fun _ => ?_))
      | exact ih0 _ _ _ _
      | exact LeO.none _
      | refine LeO.ite ?_ ?_
      | refine LeO.bind ?_ (fun _ => ?_)
set_option maxHeartbeats 8000000 in
set_option maxRecDepth 100000 in
theorem slices_Index_int_int.calls (k : Nat) (A0 : Option Addr) (c0 : Nat) (l0 : List Int) (a1 : Int) (r : Int) (w : World) (hr0 : Kd.C (Kd.int .i64) w A0 l0.length l0) (hc0 : l0.length ≤ c0) (h : slices_Index_int_int.f k l0 a1 = some r) :
    Calls Tryd.prog 67 #[.slice A0 l0.length c0, .int .i64 a1] w fun e w' => e = .returned (.int .i64 r) ∧ Drawn0 w w' := by
  have HR0 := Aside0.mk hr0
  have HC0 := Aside0.mk hc0
  clear hr0 hc0
  have H : (slices_Index_int_int.l0 k l0 a1 (l0.length : Int) 0) = some r := h
  clear h
  have H' := Aside0.mk H
  clear H
  go_enter Tryd.func67, Tryd.ntmps67
  go_wp2
  go_loopg [8] k (fun kq v8 w' => ∃ (x8_1 : Int), v8 = .int .i64 x8_1 ∧ Aside0 (slices_Index_int_int.l0 kq l0 a1 (l0.length : Int) x8_1 = some r) ∧ Aside0 (kq ≤ k) ∧ Drawn0 w w')
  case atStart => exact ⟨(0), (by first | rfl | (simp; done) | (simp [*]; done)), H', ⟨Nat.le_refl _⟩, by repeat (first | exact Drawn0.refl _ | apply Drawn0.step)⟩
  case round =>
    clear H'
    try clear p2
    obtain ⟨x8_1, rfl, HA, HK1, ⟨m1, rfl⟩⟩ := hrel
    cases gk with
    | zero => exact absurd HA.out (by simp [slices_Index_int_int.l0])
    | succ k1 =>
      have H := HA.out
      clear HA
      simp only [slices_Index_int_int.l0] at H
      by_cases c3 : x8_1 < (l0.length : Int)
      · rw [if_pos c3] at H
        have c3b0 : decide (x8_1 < (l0.length : Int)) = true := decide_eq_true c3
        clear c3
        by_cases c4 : 0 ≤ x8_1
        · rw [if_pos c4] at H
          have c4b0 : decide (0 ≤ x8_1) = true := decide_eq_true c4
          clear c4
          by_cases c5 : x8_1 < (l0.length : Int)
          · rw [if_pos c5] at H
            have c5b0 : decide (x8_1 < (l0.length : Int)) = true := decide_eq_true c5
            clear c5
            by_cases c6 : a1 = (rd l0 x8_1)
            · rw [if_pos c6] at H
              have c6b0 : (a1 == (rd l0 x8_1)) = true := beq_iff_eq.mpr c6
              have c6b1 : (a1 != (rd l0 x8_1)) = false := bne_eq_false_iff_eq.mpr c6
              clear c6
              obtain rfl := Option.some.inj H
              have p137 : 0 ≤ (x8_1 : Int) := of_decide_eq_true (by first | (with_reducible assumption) | assumption)
              have q137 : x8_1 < (l0.length : Int) := of_decide_eq_true (by first | (with_reducible assumption) | assumption)
              obtain ⟨ad137, e137, hx137_0⟩ := Kd.at_int HR0.out x8_1 p137 q137
              cases e137
              replace p137 := eq_true p137
              replace q137 := eq_true q137
              go_wp2
              go_ret
              exact ⟨by first | rfl | (simp; done) | (simp [*]; done), by repeat (first | exact Drawn0.refl _ | apply Drawn0.step)⟩
            · rw [if_neg c6] at H
              have c6b0 : (a1 == (rd l0 x8_1)) = false := beq_eq_false_iff_ne.mpr c6
              have c6b1 : (a1 != (rd l0 x8_1)) = true := bne_iff_ne.mpr c6
              have H' := Aside0.mk H
              clear H
              have p137 : 0 ≤ (x8_1 : Int) := of_decide_eq_true (by first | (with_reducible assumption) | assumption)
              have q137 : x8_1 < (l0.length : Int) := of_decide_eq_true (by first | (with_reducible assumption) | assumption)
              obtain ⟨ad137, e137, hx137_0⟩ := Kd.at_int HR0.out x8_1 p137 q137
              cases e137
              replace p137 := eq_true p137
              replace q137 := eq_true q137
              go_wp2
              go_roundg k1
              case measure => have := HK1.out; omega
              case rel => exact ⟨(wrap64 (x8_1 + 1)), (by first | rfl | (simp; done) | (simp [*]; done)), H', ⟨by have := HK1.out; omega⟩, by repeat (first | exact Drawn0.refl _ | apply Drawn0.step)⟩
          · rw [if_neg c5] at H
            exact absurd H (by simp)
        · rw [if_neg c4] at H
          exact absurd H (by simp)
      · rw [if_neg c3] at H
        have c3b0 : decide (x8_1 < (l0.length : Int)) = false := decide_eq_false c3
        clear c3
        obtain rfl := Option.some.inj H
        go_wp2
        go_ret
        exact ⟨by first | rfl | (simp; done) | (simp [*]; done), by repeat (first | exact Drawn0.refl _ | apply Drawn0.step)⟩

/-! ### slices_Contains_int_int: function 51 -/
def slices_Contains_int_int.f (k : Nat) (l0 : List Int) (a1 : Int) : Option (Bool) := (slices_Index_int_int.f k l0 a1).bind fun t138 => (some (decide (t138 ≥ 0)))
theorem slices_Contains_int_int.mono : ∀ a0 a1 k, LeO (slices_Contains_int_int.f k a0 a1) (slices_Contains_int_int.f (k + 1) a0 a1) := by
  intro a0 a1 k
  unfold slices_Contains_int_int.f
  repeat' first
      | (with_reducible exact slices_Index_int_int.mono _ _ _)
      | (with_reducible exact LeO.refl _)
      | (with_reducible exact LeO.none _)
      | (with_reducible refine LeO.ite ?_ ?_)
      | (with_reducible refine LeO.bind ?_ (fun _ => ?_))
      | exact slices_Index_int_int.mono _ _ _
      | exact LeO.none _
      | refine LeO.ite ?_ ?_
      | refine LeO.bind ?_ (fun _ => ?_)
set_option maxHeartbeats 8000000 in
set_option maxRecDepth 100000 in
theorem slices_Contains_int_int.calls (k : Nat) (A0 : Option Addr) (c0 : Nat) (l0 : List Int) (a1 : Int) (r : Bool) (w : World) (hr0 : Kd.C (Kd.int .i64) w A0 l0.length l0) (hc0 : l0.length ≤ c0) (h : slices_Contains_int_int.f k l0 a1 = some r) :
    Calls Tryd.prog 51 #[.slice A0 l0.length c0, .int .i64 a1] w fun e w' => e = .returned (.bool r) ∧ Drawn0 w w' := by
  have HR0 := Aside0.mk hr0
  have HC0 := Aside0.mk hc0
  clear hr0 hc0
  have H : ((slices_Index_int_int.f k l0 a1).bind fun t138 => (some (decide (t138 ≥ 0)))) = some r := h
  clear h
  replace H := Option.bind_eq_some_iff.mp H
  obtain ⟨t138, A30, H⟩ := H
  replace H : (some (decide (t138 ≥ 0))) = some r := H
  have A3 := Aside0.mk A30
  clear A30
  obtain rfl := Option.some.inj H
  go_enter Tryd.func51, Tryd.ntmps51
  go_wp2_with (first | ((with_reducible refine gate_callee (f := 67) rfl ?_); refine goesL_ (some 7) rfl rfl Tryd.func67 (by kernel_rfl) rfl #[.slice A0 l0.length c0, .int .i64 a1] rfl (by (try simp only [List.map_toArray, List.map_cons, List.map_nil]); first | done | rfl | (simp only [List.length_drop, List.length_take]; rfl)) ?_; (with_reducible refine (slices_Index_int_int.calls k _ _ l0 a1 t138 _ ?side1 ?side2 A3.out).mono ?_); (case side1 => repeat (first | exact HR0.out | (with_reducible refine Kd.C_alloc ?_ _) | (with_reducible refine Kd.C_drewN ?_ _) | (with_reducible refine Kd.C_drew ?_))); (case side2 => exact HC0.out); rintro e w' ⟨rfl, ⟨nd, rfl⟩⟩; refine ⟨_, rfl, ?_⟩))
  go_ret
  exact ⟨by first | rfl | (simp; done) | (simp [*]; done), by repeat (first | exact Drawn0.refl _ | apply Drawn0.step)⟩

end Go.Proofs.YtikbgoppmailjaaDoor.H
