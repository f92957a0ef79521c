/- Parts of the proof of LawOrdersOne: words, contracts of the functions, plain laws. -/
import Derived.Test.YtdfkbiffdcfnpaaDoorProg
import Derived.Below
import Derived.Deep.Draws
import Derived.Deep.AppendLies
import Derived.Maps.AppendAt
import Derived.OwnWalk
import Derived.Laws.BytesArg
import Derived.Laws.MakeOwn
import Derived.Laws.OwnMore
import Derived.Deep.OwnRows
import Derived.Tactics
import Derived.Lib.ConvBytes
import Derived.Laws.Slices
import Derived.WalkKit
import Derived.KernelRfl
import Derived.RowKit3
import Derived.Deep.LoopGhost
import Derived.Deep.QuietTactic
import Derived.BigQuiet
import Derived.WideLaws
import Derived.Deep.DeepCutAuto
import Derived.Deep.CutBlock
import Derived.Deep.RegionHeld3
import Derived.Laws.Rows
import Derived.Lib.AppendStr
import Derived.ArgAppend
import Derived.Laws.IdiomCopy
import Derived.OrdersHeld
import Derived.Laws.BitsLemmas
import Derived.RowKit
import Derived.Test.YtdfkbiffdcfnpaaDoorCA01
import Derived.Great.Walk
import Derived.Deep.WholeRow
import Derived.ScopeJumps
import Derived.Laws.NewBlocks
import Derived.Laws.Tables
import Derived.LoopN
import Derived.Deep.MidRow
import Derived.Carry
import Derived.Deep.Slices
import Derived.Shelf.Small.Strs
import Derived.Shelf.Small.Wraps
import Derived.Shelf.Strconv.Atoi
import Derived.Shelf.Strconv.Itoa0
import Derived.Shelf.Strconv.Itoa1
import Derived.Shelf.LaysM
import Derived.Shelf.Strconv.Itoa2
import Derived.Shelf.Strconv.Itoa3
import Derived.Shelf.Strconv.AtoiErrFast
import Derived.Shelf.Strconv.ParseIntEmpty
import Derived.Shelf.Strconv.AtoiFail
import Derived.Shelf.Strconv.Clone
import Derived.Shelf.Strconv.SyntaxError
import Derived.Shelf.LaysC
import Derived.Shelf.Strconv.ToError
import Derived.Shelf.Strconv.Lower
import Derived.Shelf.Strconv.ParseUint10
import Derived.Shelf.Strconv.ParseUint10Empty
import Derived.Shelf.Strconv.ParseUint10Any
import Derived.Shelf.Strconv.ParseInt10
import Derived.Shelf.Strconv.AtoiLong
import Derived.Shelf.Strconv.AtoiInnerAll
import Derived.Shelf.Strconv.RangeError
import Derived.Shelf.Strconv.ToErrorRange
import Derived.Shelf.Strconv.AtoiAll
import Derived.Ground.MpProg
import Derived.Shelf.Pu.ParseUintPublic10
import Derived.Shelf.Strings.Search1
import Derived.Shelf.Strings.Search2
import Derived.Shelf.Strings.Cut
import Derived.Shelf.Strings.Shaped
import Derived.Shelf.Sort.Plain
import Derived.Shelf.Strings.Prefix
import Derived.Shelf.Bits.Mul64
import Derived.Ground.Names2Prog
import Derived.Shelf.Slices.CompactI
import Derived.Shelf.Slices.Cells
import Derived.Shelf.Slices.In.SortNone
import Derived.Lib.ParseIntB
import Derived.Lib.Atoi
import Derived.Laws.Externs
-- Written by hp.py (a program of this session, over the kit's print.py), with hand-made contracts beside it.
namespace Go.Proofs.YtdfkbiffdcfnpaaDoor.H
open Go.RowKit Go.Proofs.YtdfkbiffdcfnpaaDoorW.PrintWords Go.Proofs.YtdfkbiffdcfnpaaDoorW.PrintLast Go.Proofs.YtdfkbiffdcfnpaaDoorW.PrintMore
attribute [local go_sem] max2_int min2_int max_two min_two max_three min_three max_four min_four   -- for this text's walks alone
set_option linter.unusedVariables false
set_option linter.unusedSimpArgs false



def errW : Option Int → Value
  | none => .nilIface
  | some c => .iface 0 (.int .i64 c)
theorem errW_none : errW none = .nilIface := rfl
theorem errW_some (c : Int) : errW (some c) = .iface 0 (.int .i64 c) := rfl

theorem info32 : (Tryd.prog.info? 32).map (fun i => (i.zero, i.size, i.bytes)) = some (some (.agg #[(.int .i64 0), (.int .i64 0), (.int .i64 0), (.int .i64 0)]), 4, 32) := by kernel_rfl
theorem info35 : (Tryd.prog.info? 35).map (fun i => (i.zero, i.size, i.bytes)) = some (some (.agg #[(.int .i64 0), (.int .i64 0), (.int .i64 0), (.int .i64 0), (.int .u64 0)]), 5, 40) := by kernel_rfl
/-! #### struct type 45 -/
structure S45 where
  f0 : Int
  f1 : Int
  f2 : Int
  f3 : Int
  f4 : ByteArray
def z45 : S45 := ⟨(0 : Int), (0 : Int), (0 : Int), (0 : Int), (⟨#[]⟩ : ByteArray)⟩
def k45 : Kd S45 := Kd.iso (Kd.pair (Kd.int .i64) (Kd.pair (Kd.int .i64) (Kd.pair (Kd.int .i64) (Kd.pair (Kd.int .i64) Kd.string)))) (fun x : S45 => (x.f0, x.f1, x.f2, x.f3, x.f4))
theorem k45_open {w : World} {x : S45} {cs : List Value} (h : k45.K w x cs) : cs = [.int .i64 x.f0, .int .i64 x.f1, .int .i64 x.f2, .int .i64 x.f3, .string x.f4] := by
  obtain ⟨_, _, rfl, rfl, ⟨_, _, rfl, rfl, ⟨_, _, rfl, rfl, ⟨_, _, rfl, rfl, rfl⟩⟩⟩⟩ := h
  exact rfl
theorem k45_mkM (w : World) (base : Nat) (ok : Nat → Prop) (x : S45)  : k45.M w base ok x [.int .i64 x.f0, .int .i64 x.f1, .int .i64 x.f2, .int .i64 x.f3, .string x.f4] := ⟨[.int .i64 x.f0], [.int .i64 x.f1, .int .i64 x.f2, .int .i64 x.f3, .string x.f4], rfl, rfl, ⟨[.int .i64 x.f1], [.int .i64 x.f2, .int .i64 x.f3, .string x.f4], rfl, rfl, ⟨[.int .i64 x.f2], [.int .i64 x.f3, .string x.f4], rfl, rfl, ⟨[.int .i64 x.f3], [.string x.f4], rfl, rfl, rfl⟩⟩⟩⟩
def rd_T45 (xs : List S45) (i : Int) : S45 := xs.getD i.toNat z45
theorem at_T45 {w : World} {A : Option Addr} {n : Nat} {xs : List S45} (h : Kd.C k45 w A n xs) (i : Int) (h0 : 0 ≤ i) (h1 : i < n) : ∃ ad , A = some ad ∧ w.cell? (ad.add (i.toNat * 5)) = some (.int .i64 (rd_T45 xs i).f0) ∧ w.cell? ⟨(ad.add (i.toNat * 5)).block, (ad.add (i.toNat * 5)).off + 1, none⟩ = some (.int .i64 (rd_T45 xs i).f1) ∧ w.cell? ⟨(ad.add (i.toNat * 5)).block, (ad.add (i.toNat * 5)).off + 2, none⟩ = some (.int .i64 (rd_T45 xs i).f2) ∧ w.cell? ⟨(ad.add (i.toNat * 5)).block, (ad.add (i.toNat * 5)).off + 3, none⟩ = some (.int .i64 (rd_T45 xs i).f3) ∧ w.cell? ⟨(ad.add (i.toNat * 5)).block, (ad.add (i.toNat * 5)).off + 4, none⟩ = some (.string (rd_T45 xs i).f4) := by
  obtain ⟨ad, c, e, _, hK, hc0⟩ := Kd.C_get h z45 i h0 h1
  have hc : ∀ j u, c[j]? = some u → w.cell? (ad.add (i.toNat * 5 + j)) = some u := hc0
  obtain rfl := k45_open hK
  exact ⟨ad, e, hc 0 _ rfl, by rw [← add_field _ _ 1 (by omega)]; exact hc 1 _ rfl, by rw [← add_field _ _ 2 (by omega)]; exact hc 2 _ rfl, by rw [← add_field _ _ 3 (by omega)]; exact hc 3 _ rfl, by rw [← add_field _ _ 4 (by omega)]; exact hc 4 _ rfl⟩

/-! #### struct type 47 -/
structure S47 where
  f0 : Int
  f1 : Int
  f2 : Int
  f3 : Int
  f4 : ByteArray
def z47 : S47 := ⟨(0 : Int), (0 : Int), (0 : Int), (0 : Int), (⟨#[]⟩ : ByteArray)⟩
def k47 : Kd S47 := Kd.iso (Kd.pair (Kd.int .i64) (Kd.pair (Kd.int .i64) (Kd.pair (Kd.int .i64) (Kd.pair (Kd.int .i64) Kd.string)))) (fun x : S47 => (x.f0, x.f1, x.f2, x.f3, x.f4))
theorem k47_open {w : World} {x : S47} {cs : List Value} (h : k47.K w x cs) : cs = [.int .i64 x.f0, .int .i64 x.f1, .int .i64 x.f2, .int .i64 x.f3, .string x.f4] := by
  obtain ⟨_, _, rfl, rfl, ⟨_, _, rfl, rfl, ⟨_, _, rfl, rfl, ⟨_, _, rfl, rfl, rfl⟩⟩⟩⟩ := h
  exact rfl
def rd_T47 (xs : List S47) (i : Int) : S47 := xs.getD i.toNat z47
theorem at_T47 {w : World} {A : Option Addr} {n : Nat} {xs : List S47} (h : Kd.C k47 w A n xs) (i : Int) (h0 : 0 ≤ i) (h1 : i < n) : ∃ ad , A = some ad ∧ w.cell? (ad.add (i.toNat * 5)) = some (.int .i64 (rd_T47 xs i).f0) ∧ w.cell? ⟨(ad.add (i.toNat * 5)).block, (ad.add (i.toNat * 5)).off + 1, none⟩ = some (.int .i64 (rd_T47 xs i).f1) ∧ w.cell? ⟨(ad.add (i.toNat * 5)).block, (ad.add (i.toNat * 5)).off + 2, none⟩ = some (.int .i64 (rd_T47 xs i).f2) ∧ w.cell? ⟨(ad.add (i.toNat * 5)).block, (ad.add (i.toNat * 5)).off + 3, none⟩ = some (.int .i64 (rd_T47 xs i).f3) ∧ w.cell? ⟨(ad.add (i.toNat * 5)).block, (ad.add (i.toNat * 5)).off + 4, none⟩ = some (.string (rd_T47 xs i).f4) := by
  obtain ⟨ad, c, e, _, hK, hc0⟩ := Kd.C_get h z47 i h0 h1
  have hc : ∀ j u, c[j]? = some u → w.cell? (ad.add (i.toNat * 5 + j)) = some u := hc0
  obtain rfl := k47_open hK
  exact ⟨ad, e, hc 0 _ rfl, by rw [← add_field _ _ 1 (by omega)]; exact hc 1 _ rfl, by rw [← add_field _ _ 2 (by omega)]; exact hc 2 _ rfl, by rw [← add_field _ _ 3 (by omega)]; exact hc 3 _ rfl, by rw [← add_field _ _ 4 (by omega)]; exact hc 4 _ rfl⟩

def rd_L4 (xs : List (List S45)) (i : Int) : (List S45) := xs.getD i.toNat ([] : List S45)
def rd_L5 (xs : List (List S47)) (i : Int) : (List S47) := xs.getD i.toNat ([] : List S47)
/-! #### struct type 25 -/
structure S25 where
  f0 : ByteArray
  f1 : (List S45)
  f2 : (List S47)
def z25 : S25 := ⟨(⟨#[]⟩ : ByteArray), ([] : List S45), ([] : List S47)⟩
def k25 : Kd S25 := Kd.iso (Kd.pair Kd.string (Kd.pair (Kd.slice 45 k45) (Kd.slice 47 k47))) (fun x : S25 => (x.f0, x.f1, x.f2))
def rd_T25 (xs : List S25) (i : Int) : S25 := xs.getD i.toNat z25
/-! #### struct type 32 -/
structure S32 where
  f0 : Int
  f1 : Int
  f2 : Int
  f3 : Int
def z32 : S32 := ⟨(0 : Int), (0 : Int), (0 : Int), (0 : Int)⟩
def k32 : Kd S32 := Kd.iso (Kd.pair (Kd.int .i64) (Kd.pair (Kd.int .i64) (Kd.pair (Kd.int .i64) (Kd.int .i64)))) (fun x : S32 => (x.f0, x.f1, x.f2, x.f3))
theorem k32_open {w : World} {x : S32} {cs : List Value} (h : k32.K w x cs) : cs = [.int .i64 x.f0, .int .i64 x.f1, .int .i64 x.f2, .int .i64 x.f3] := by
  obtain ⟨_, _, rfl, rfl, ⟨_, _, rfl, rfl, ⟨_, _, rfl, rfl, rfl⟩⟩⟩ := h
  exact rfl
theorem k32_mkM (w : World) (base : Nat) (ok : Nat → Prop) (x : S32)  : k32.M w base ok x [.int .i64 x.f0, .int .i64 x.f1, .int .i64 x.f2, .int .i64 x.f3] := ⟨[.int .i64 x.f0], [.int .i64 x.f1, .int .i64 x.f2, .int .i64 x.f3], rfl, rfl, ⟨[.int .i64 x.f1], [.int .i64 x.f2, .int .i64 x.f3], rfl, rfl, ⟨[.int .i64 x.f2], [.int .i64 x.f3], rfl, rfl, rfl⟩⟩⟩
def rd_T32 (xs : List S32) (i : Int) : S32 := xs.getD i.toNat z32
theorem at_T32 {w : World} {A : Option Addr} {n : Nat} {xs : List S32} (h : Kd.C k32 w A n xs) (i : Int) (h0 : 0 ≤ i) (h1 : i < n) : ∃ ad , A = some ad ∧ w.cell? (ad.add (i.toNat * 4)) = some (.int .i64 (rd_T32 xs i).f0) ∧ w.cell? ⟨(ad.add (i.toNat * 4)).block, (ad.add (i.toNat * 4)).off + 1, none⟩ = some (.int .i64 (rd_T32 xs i).f1) ∧ w.cell? ⟨(ad.add (i.toNat * 4)).block, (ad.add (i.toNat * 4)).off + 2, none⟩ = some (.int .i64 (rd_T32 xs i).f2) ∧ w.cell? ⟨(ad.add (i.toNat * 4)).block, (ad.add (i.toNat * 4)).off + 3, none⟩ = some (.int .i64 (rd_T32 xs i).f3) := by
  obtain ⟨ad, c, e, _, hK, hc0⟩ := Kd.C_get h z32 i h0 h1
  have hc : ∀ j u, c[j]? = some u → w.cell? (ad.add (i.toNat * 4 + j)) = some u := hc0
  obtain rfl := k32_open hK
  exact ⟨ad, e, hc 0 _ rfl, by rw [← add_field _ _ 1 (by omega)]; exact hc 1 _ rfl, by rw [← add_field _ _ 2 (by omega)]; exact hc 2 _ rfl, by rw [← add_field _ _ 3 (by omega)]; exact hc 3 _ rfl⟩

/-! #### struct type 35 -/
structure S35 where
  f0 : Int
  f1 : Int
  f2 : Int
  f3 : Int
  f4 : Int
def z35 : S35 := ⟨(0 : Int), (0 : Int), (0 : Int), (0 : Int), (0 : Int)⟩
def k35 : Kd S35 := Kd.iso (Kd.pair (Kd.int .i64) (Kd.pair (Kd.int .i64) (Kd.pair (Kd.int .i64) (Kd.pair (Kd.int .i64) (Kd.int .u64))))) (fun x : S35 => (x.f0, x.f1, x.f2, x.f3, x.f4))
theorem k35_open {w : World} {x : S35} {cs : List Value} (h : k35.K w x cs) : cs = [.int .i64 x.f0, .int .i64 x.f1, .int .i64 x.f2, .int .i64 x.f3, .int .u64 x.f4] := by
  obtain ⟨_, _, rfl, rfl, ⟨_, _, rfl, rfl, ⟨_, _, rfl, rfl, ⟨_, _, rfl, rfl, rfl⟩⟩⟩⟩ := h
  exact rfl
theorem k35_mkM (w : World) (base : Nat) (ok : Nat → Prop) (x : S35)  : k35.M w base ok x [.int .i64 x.f0, .int .i64 x.f1, .int .i64 x.f2, .int .i64 x.f3, .int .u64 x.f4] := ⟨[.int .i64 x.f0], [.int .i64 x.f1, .int .i64 x.f2, .int .i64 x.f3, .int .u64 x.f4], rfl, rfl, ⟨[.int .i64 x.f1], [.int .i64 x.f2, .int .i64 x.f3, .int .u64 x.f4], rfl, rfl, ⟨[.int .i64 x.f2], [.int .i64 x.f3, .int .u64 x.f4], rfl, rfl, ⟨[.int .i64 x.f3], [.int .u64 x.f4], rfl, rfl, rfl⟩⟩⟩⟩
def rd_T35 (xs : List S35) (i : Int) : S35 := xs.getD i.toNat z35
theorem at_T35 {w : World} {A : Option Addr} {n : Nat} {xs : List S35} (h : Kd.C k35 w A n xs) (i : Int) (h0 : 0 ≤ i) (h1 : i < n) : ∃ ad , A = some ad ∧ w.cell? (ad.add (i.toNat * 5)) = some (.int .i64 (rd_T35 xs i).f0) ∧ w.cell? ⟨(ad.add (i.toNat * 5)).block, (ad.add (i.toNat * 5)).off + 1, none⟩ = some (.int .i64 (rd_T35 xs i).f1) ∧ w.cell? ⟨(ad.add (i.toNat * 5)).block, (ad.add (i.toNat * 5)).off + 2, none⟩ = some (.int .i64 (rd_T35 xs i).f2) ∧ w.cell? ⟨(ad.add (i.toNat * 5)).block, (ad.add (i.toNat * 5)).off + 3, none⟩ = some (.int .i64 (rd_T35 xs i).f3) ∧ w.cell? ⟨(ad.add (i.toNat * 5)).block, (ad.add (i.toNat * 5)).off + 4, none⟩ = some (.int .u64 (rd_T35 xs i).f4) := by
  obtain ⟨ad, c, e, _, hK, hc0⟩ := Kd.C_get h z35 i h0 h1
  have hc : ∀ j u, c[j]? = some u → w.cell? (ad.add (i.toNat * 5 + j)) = some u := hc0
  obtain rfl := k35_open hK
  exact ⟨ad, e, hc 0 _ rfl, by rw [← add_field _ _ 1 (by omega)]; exact hc 1 _ rfl, by rw [← add_field _ _ 2 (by omega)]; exact hc 2 _ rfl, by rw [← add_field _ _ 3 (by omega)]; exact hc 3 _ rfl, by rw [← add_field _ _ 4 (by omega)]; exact hc 4 _ rfl⟩

def rd_L11 (xs : List (List S35)) (i : Int) : (List S35) := xs.getD i.toNat ([] : List S35)
def rd_L12 (xs : List (List Int)) (i : Int) : (List Int) := xs.getD i.toNat ([] : List Int)
end Go.Proofs.YtdfkbiffdcfnpaaDoor.H
-- Written by hp.py (a program of this session, over the kit's print.py), with hand-made contracts beside it.
namespace Go.Proofs.YtdfkbiffdcfnpaaDoor.H
open Go.RowKit Go.Proofs.YtdfkbiffdcfnpaaDoorW.PrintWords Go.Proofs.YtdfkbiffdcfnpaaDoorW.PrintLast Go.Proofs.YtdfkbiffdcfnpaaDoorW.PrintMore
attribute [local go_sem] max2_int min2_int max_two min_two max_three min_three max_four min_four   -- for this text's walks alone
set_option linter.unusedVariables false
set_option linter.unusedSimpArgs false

/-! ### orders_class: function 13 -/
def orders_class.f (a0_0 : ByteArray) (l0_1 : List (S45)) (l0_2 : List (S47)) (a1 : Int) : Option (Int) := if a1 < 1 then (some 0) else (if a1 > (l0_1.length : Int) then (some 0) else (if 0 ≤ (wrap64 (a1 - 1)) then (if (wrap64 (a1 - 1)) < (l0_1.length : Int) then (some ((rd_T45 l0_1 (wrap64 (a1 - 1))).f2)) else (none)) else (none)))
set_option maxHeartbeats 8000000 in
set_option maxRecDepth 100000 in
theorem orders_class.calls (a0_0 : ByteArray) (A0_1 : Option Addr) (c0_1 : Nat) (l0_1 : List (S45)) (A0_2 : Option Addr) (c0_2 : Nat) (l0_2 : List (S47)) (a1 : Int) (r : Int) (w : World) (hr0_1 : Kd.C k45 w A0_1 l0_1.length l0_1) (hc0_1 : l0_1.length ≤ c0_1) (hr0_2 : Kd.C k47 w A0_2 l0_2.length l0_2) (hc0_2 : l0_2.length ≤ c0_2) (h : orders_class.f a0_0 l0_1 l0_2 a1 = some r) :
    Calls Tryd.prog 13 #[.agg #[.string a0_0, .slice A0_1 l0_1.length c0_1, .slice A0_2 l0_2.length c0_2], .int .i64 a1] w fun e w' => e = .returned (.int .i64 r) ∧ Below w.heap.size w w' := by
  have hu25 := Tryd.underlying25
  have HR0_1 := Aside0.mk hr0_1
  have HC0_1 := Aside0.mk hc0_1
  clear hr0_1 hc0_1
  have HR0_2 := Aside0.mk hr0_2
  have HC0_2 := Aside0.mk hc0_2
  clear hr0_2 hc0_2
  have HB := Aside0.mk (Below.refl w.heap.size w)
  have H : (if a1 < 1 then (some 0) else (if a1 > (l0_1.length : Int) then (some 0) else (if 0 ≤ (wrap64 (a1 - 1)) then (if (wrap64 (a1 - 1)) < (l0_1.length : Int) then (some ((rd_T45 l0_1 (wrap64 (a1 - 1))).f2)) else (none)) else (none)))) = some r := h
  clear h
  by_cases c3 : a1 < 1
  · rw [if_pos c3] at H
    have c3b0 : decide (a1 < 1) = true := decide_eq_true c3
    clear c3
    obtain rfl := Option.some.inj H
    go_enter Tryd.func13, Tryd.ntmps13
    go_wp2_with (first | ((with_reducible refine gate_dst (N := 2) rfl ?_); (try (refine gate_guard (by rfl) ?_; dsimp only)); refine box_event ?hg (N := 2) ?hd (cs := #[.string a0_0, .slice A0_1 l0_1.length c0_1, .slice A0_2 l0_2.length c0_2]) (t := 25) ?hr ?_; (case hd => rfl); (case hg => rfl); (case hr => first | (go_simp; done) | (go_simp; rfl)); intro gb101 hg w4 hbox hb; have n0_ := Aside0.mk (below_step (by repeat (first | (with_reducible first | exact HB.out | apply below_alloc | apply pw_below_drewN | apply below_drew1) | exact HB.out)) hb); have n1_ := Aside0.mk (hbox); have n2_ := Aside0.mk ((by rw [hg]; exact (below_size (by repeat (first | (with_reducible first | exact HB.out | apply below_alloc | apply pw_below_drewN | apply below_drew1) | exact HB.out))) : w.heap.size ≤ gb101)); have n3_ := Aside0.mk ((by rw [hg]; exact (below_size (by repeat (first | (with_reducible first | exact HB.out | apply below_alloc | apply pw_below_drewN | apply below_drew1) | exact HB.out))) : w.heap.size ≤ gb101)); clear HB; have HB := n0_; have BK101 := n1_; have GW101 := n2_; have GE101 := n3_; clear n0_ n1_ n2_ n3_; clear hb hbox hg))
    go_ret
    exact ⟨by first | rfl | (simp [errW_none, errW_some] <;> rfl) | (simp [*, errW_none, errW_some] <;> rfl), by repeat (first | (with_reducible first | exact HB.out | apply below_alloc | apply pw_below_drewN | apply below_drew1 | refine below_set ?_ GE101.out) | exact HB.out)⟩
  · rw [if_neg c3] at H
    have c3b0 : decide (a1 < 1) = false := decide_eq_false c3
    clear c3
    by_cases c5 : a1 > (l0_1.length : Int)
    · rw [if_pos c5] at H
      have c5b0 : decide ((l0_1.length : Int) < a1) = true := decide_eq_true c5
      clear c5
      obtain rfl := Option.some.inj H
      go_enter Tryd.func13, Tryd.ntmps13
      go_wp2_with (first | ((with_reducible refine gate_dst (N := 2) rfl ?_); (try (refine gate_guard (by rfl) ?_; dsimp only)); refine box_event ?hg (N := 2) ?hd (cs := #[.string a0_0, .slice A0_1 l0_1.length c0_1, .slice A0_2 l0_2.length c0_2]) (t := 25) ?hr ?_; (case hd => rfl); (case hg => rfl); (case hr => first | (go_simp; done) | (go_simp; rfl)); intro gb101 hg w6 hbox hb; have n0_ := Aside0.mk (below_step (by repeat (first | (with_reducible first | exact HB.out | apply below_alloc | apply pw_below_drewN | apply below_drew1) | exact HB.out)) hb); have n1_ := Aside0.mk (hbox); have n2_ := Aside0.mk ((by rw [hg]; exact (below_size (by repeat (first | (with_reducible first | exact HB.out | apply below_alloc | apply pw_below_drewN | apply below_drew1) | exact HB.out))) : w.heap.size ≤ gb101)); have n3_ := Aside0.mk ((by rw [hg]; exact (below_size (by repeat (first | (with_reducible first | exact HB.out | apply below_alloc | apply pw_below_drewN | apply below_drew1) | exact HB.out))) : w.heap.size ≤ gb101)); clear HB; have HB := n0_; have BK101 := n1_; have GW101 := n2_; have GE101 := n3_; clear n0_ n1_ n2_ n3_; clear hb hbox hg; have hcz7_0 : w6.cell? ⟨gb101, 0, none⟩ = some (.string a0_0) := (blk_cell BK101.out 0).trans rfl; have hcz7_1 : w6.cell? ⟨gb101, 1, none⟩ = some (.slice A0_1 l0_1.length c0_1) := (blk_cell BK101.out 1).trans rfl; have hcz7_2 : w6.cell? ⟨gb101, 2, none⟩ = some (.slice A0_2 l0_2.length c0_2) := (blk_cell BK101.out 2).trans rfl; have hfz7_0 := blk_frozen BK101.out 0; have hfz7_1 := blk_frozen BK101.out 1; have hfz7_2 := blk_frozen BK101.out 2))
      go_ret
      exact ⟨by first | rfl | (simp [errW_none, errW_some] <;> rfl) | (simp [*, errW_none, errW_some] <;> rfl), by repeat (first | (with_reducible first | exact HB.out | apply below_alloc | apply pw_below_drewN | apply below_drew1 | refine below_set ?_ GE101.out) | exact HB.out)⟩
    · rw [if_neg c5] at H
      have c5b0 : decide ((l0_1.length : Int) < a1) = false := decide_eq_false c5
      clear c5
      obtain ⟨ji8, hji8⟩ : ∃ j_ : Int, (wrap64 (a1 - 1)) = j_ := ⟨_, rfl⟩
      replace H : (if 0 ≤ (ji8) then (if (ji8) < (l0_1.length : Int) then (some ((rd_T45 l0_1 (ji8)).f2)) else (none)) else (none)) = some r := by first | (rw [hji8] at H; exact H) | (simp only [hji8] at H ⊢; exact H)
      have hji8w : (IntKind.i64.wrap (a1 - 1)) = ji8 := (i64_w _).trans hji8
      by_cases c9 : 0 ≤ (ji8)
      · rw [if_pos c9] at H
        have c9b0 : decide (0 ≤ (ji8)) = true := decide_eq_true c9
        clear c9
        by_cases c10 : (ji8) < (l0_1.length : Int)
        · rw [if_pos c10] at H
          have c10b0 : decide ((ji8) < (l0_1.length : Int)) = true := decide_eq_true c10
          clear c10
          obtain rfl := Option.some.inj H
          go_enter Tryd.func13, Tryd.ntmps13
          go_wp2_with (first | ((with_reducible refine gate_dst (N := 2) rfl ?_); (try (refine gate_guard (by rfl) ?_; dsimp only)); refine box_event ?hg (N := 2) ?hd (cs := #[.string a0_0, .slice A0_1 l0_1.length c0_1, .slice A0_2 l0_2.length c0_2]) (t := 25) ?hr ?_; (case hd => rfl); (case hg => rfl); (case hr => first | (go_simp; done) | (go_simp; rfl)); intro gb101 hg w11 hbox hb; have n0_ := Aside0.mk (below_step (by repeat (first | (with_reducible first | exact HB.out | apply below_alloc | apply pw_below_drewN | apply below_drew1) | exact HB.out)) hb); have n1_ := Aside0.mk (hbox); have n2_ := Aside0.mk ((by rw [hg]; exact (below_size (by repeat (first | (with_reducible first | exact HB.out | apply below_alloc | apply pw_below_drewN | apply below_drew1) | exact HB.out))) : w.heap.size ≤ gb101)); have n3_ := Aside0.mk ((by rw [hg]; exact (below_size (by repeat (first | (with_reducible first | exact HB.out | apply below_alloc | apply pw_below_drewN | apply below_drew1) | exact HB.out))) : w.heap.size ≤ gb101)); clear HB; have HB := n0_; have BK101 := n1_; have GW101 := n2_; have GE101 := n3_; clear n0_ n1_ n2_ n3_; clear hb hbox hg; have hcz12_0 : w11.cell? ⟨gb101, 0, none⟩ = some (.string a0_0) := (blk_cell BK101.out 0).trans rfl; have hcz12_1 : w11.cell? ⟨gb101, 1, none⟩ = some (.slice A0_1 l0_1.length c0_1) := (blk_cell BK101.out 1).trans rfl; have hcz12_2 : w11.cell? ⟨gb101, 2, none⟩ = some (.slice A0_2 l0_2.length c0_2) := (blk_cell BK101.out 2).trans rfl; have hfz12_0 := blk_frozen BK101.out 0; have hfz12_1 := blk_frozen BK101.out 1; have hfz12_2 := blk_frozen BK101.out 2; have p102 : 0 ≤ ((ji8) : Int) := of_decide_eq_true (by first | (with_reducible assumption) | assumption); have q102 : (ji8) < (l0_1.length : Int) := of_decide_eq_true (by first | (with_reducible assumption) | assumption); obtain ⟨ad102, e102, hx102_0, hx102_1, hx102_2, hx102_3, hx102_4⟩ := at_T45 HR0_1.out (ji8) p102 q102; cases e102; replace hx102_0 := (HB.out.cell (World.block_lt_of_cell? w _ hx102_0)).trans hx102_0; replace hx102_1 := (HB.out.cell (World.block_lt_of_cell? w _ hx102_1)).trans hx102_1; replace hx102_2 := (HB.out.cell (World.block_lt_of_cell? w _ hx102_2)).trans hx102_2; replace hx102_3 := (HB.out.cell (World.block_lt_of_cell? w _ hx102_3)).trans hx102_3; replace hx102_4 := (HB.out.cell (World.block_lt_of_cell? w _ hx102_4)).trans hx102_4; replace p102 := eq_true p102; replace q102 := eq_true q102))
          go_ret
          exact ⟨by first | rfl | (simp [errW_none, errW_some] <;> rfl) | (simp only [← hji8]; first | rfl | (simp [errW_none, errW_some] <;> rfl)) | (simp [*, errW_none, errW_some] <;> rfl), by repeat (first | (with_reducible first | exact HB.out | apply below_alloc | apply pw_below_drewN | apply below_drew1 | refine below_set ?_ GE101.out) | exact HB.out)⟩
        · rw [if_neg c10] at H
          exact absurd H (by simp)
      · rw [if_neg c9] at H
        exact absurd H (by simp)

end Go.Proofs.YtdfkbiffdcfnpaaDoor.H
/- Small laws of this session, over any program: an operation met by its run; a scope with several labels. -/
namespace Go.HK
open Go Go.RowKit

theorem wpList_doTo {P : Program} {ops : Array Oper} {rest : List Oper} {o : Oper} {a : Act} {w : World} {Q : Exit → Act → World → Prop} (hg : o.guard = none) (w' : World)
    (hrun : (execOp a.eval o).run P w = .ok .skip w')
    (h : wpList P ops Q rest (a.put o.dst undef) w') : wpList P ops Q (o :: rest) a w := by
  refine wpList_plain hg fun K hK => ?_
  unfold Oper.wp
  rw [hrun, Oper.upon_skip]
  exact hK _ _ h
theorem exec_store {P : Program} {ρ : Operand → Value} {o : Oper} {t : TypeId} {a x : Operand} (ho : o.op = .store t a x) {w w' : World} (h : (Instr.storeAt t (ρ a) (ρ x)).run P w = .ok () w') : (execOp ρ o).run P w = .ok .skip w' := by
  unfold execOp
  rw [ho]
  simp only [Sem.run_bind, h, Result.andThen]
  rfl
/-- As Q; by a goto to label l: J l. -/
def jumps (J : Nat → Act → World → Prop) (Q : Exit → Act → World → Prop) : Exit → Act → World → Prop
  | .goto l, a, w => J l a w
  | e, a, w => Q e a w

section
variable {P : Program} {a : Act} {w : World} {Q : Exit → Act → World → Prop}
theorem jumps_ret {J : Nat → Act → World → Prop} (h : Q .ret a w) : jumps J Q .ret a w := h
theorem wp_scope_labels {c : Code} (I : Nat → Nat → Act → World → Prop)
    (pass : ∀ l n a w, I l n a w → ∀ K : Nat → Act → World → Prop, (∀ l' n' a' w', n' < n → I l' n' a' w' → K l' a' w') → ∃ rest, findLabel c l = some (.seq .skip rest) ∧ rest.wp P (jumps K Q) a w)
    (first : ∀ K : Nat → Act → World → Prop, (∀ l n a' w', I l n a' w' → K l a' w') → (∀ l rest, findLabel c l = some (.seq .skip rest) → ∀ n a' w', I l n a' w' → rest.wp P (jumps K Q) a' w') → c.wp P (jumps K Q) a w) : (Code.scope c).wp P Q a w := by
  intro b k cs
  have key : ∀ n l a w, I l n a w → ∃ rest, findLabel c l = some rest ∧ ∃ e a' w', Q e a' w' ∧ Arrives P (lone (b.at a (.code rest :: .inScope c :: k)) cs w) b k cs e a' w' := by
    intro n
    induction n using Nat.strongRecOn with
    | _ n ih =>
      intro l a w hJ
      obtain ⟨rest, hr, hw0⟩ := pass l n a w hJ (fun l' a' w' => ∃ n', n' < n ∧ I l' n' a' w') (fun l' n' a' w' h1 h2 => ⟨n', h1, h2⟩)
      refine ⟨_, hr, ?_⟩
      have hw := wp_seq (x := Code.skip) (y := rest) (P := P) (Q := jumps (fun l' a' w' => ∃ n', n' < n ∧ I l' n' a' w') Q) (wp_skip hw0)
      obtain ⟨e, a₁, w₁, hq, harr⟩ := hw b (.inScope c :: k) cs
      cases e with
      | normal => exact ⟨.normal, a₁, w₁, hq, Steps.trans harr (.one step_inScope)⟩
      | exit id => exact ⟨.exit id, a₁, w₁, hq, fun k' hk => harr k' (by simp [exitTo, hk])⟩
      | goto l' =>
        obtain ⟨n', hlt, hJ'⟩ := hq
        obtain ⟨rest', hr', e₂, a₂, w₂, hq₂, harr₂⟩ := ih n' hlt l' a₁ w₁ hJ'
        exact ⟨e₂, a₂, w₂, hq₂, .of_steps (harr _ (by simp [gotoIn, hr'])) harr₂⟩
      | ret => exact ⟨_, a₁, w₁, hq, harr⟩
      | panic ch => exact ⟨_, a₁, w₁, hq, harr⟩
      | outgrown => exact ⟨_, a₁, w₁, hq, harr⟩
  obtain ⟨e, a₁, w₁, hq, harr⟩ := first (fun l a w => ∃ n, I l n a w) (fun l n a' w' h => ⟨n, h⟩) (fun l rest hr n a' w' h => by
    obtain ⟨rest', hr', hw⟩ := pass l n a' w' h (fun l a w => ∃ n, I l n a w) (fun l' n' a' w' _ h2 => ⟨n', h2⟩)
    rw [hr] at hr'
    simp only [Option.some.injEq, Code.seq.injEq, true_and] at hr'
    subst hr'
    exact hw) b (.inScope c :: k) cs
  cases e with
  | normal => exact ⟨.normal, a₁, w₁, hq, .head step_scope (Steps.trans harr (.one step_inScope))⟩
  | exit id => exact ⟨.exit id, a₁, w₁, hq, fun k' hk => .head step_scope (harr k' (by simp [exitTo, hk]))⟩
  | goto l' =>
    obtain ⟨n', hJ'⟩ := hq
    obtain ⟨rest', hr', e₂, a₂, w₂, hq₂, harr₂⟩ := key n' l' a₁ w₁ hJ'
    exact ⟨e₂, a₂, w₂, hq₂, .of_steps (.head step_scope (harr _ (by simp [gotoIn, hr']))) harr₂⟩
  | ret => exact ⟨_, a₁, w₁, hq, .of_steps (.one step_scope) harr⟩
  | panic ch => exact ⟨_, a₁, w₁, hq, .of_steps (.one step_scope) harr⟩
  | outgrown => exact ⟨_, a₁, w₁, hq, .of_steps (.one step_scope) harr⟩
end
end Go.HK
/- Rows of orders: their words. -/
namespace Go.Proofs.YtdfkbiffdcfnpaaDoor.H
open Go.RowKit Go.HK Go.Lib Go.WideShapes Go.ChangeShapes Go.Proofs.YtdfkbiffdcfnpaaDoorW.PrintWords Go.Proofs.YtdfkbiffdcfnpaaDoorW.PrintLast Go.Proofs.YtdfkbiffdcfnpaaDoorW.PrintMore
set_option linter.unusedVariables false
set_option linter.unusedSimpArgs false
/-- An order: its kind, token, node, class, ticks. -/
abbrev O5 := Int × Int × Int × Int × Int
abbrev c5 (x : O5) : List Value := [.int .i64 x.1, .int .i64 x.2.1, .int .i64 x.2.2.1, .int .i64 x.2.2.2.1, .int .u64 x.2.2.2.2]
abbrev ov (a b c d e : Int) : Value := .agg #[.int .i64 a, .int .i64 b, .int .i64 c, .int .i64 d, .int .u64 e]
abbrev ocs (a b c d e : Int) : Array Value := #[.int .i64 a, .int .i64 b, .int .i64 c, .int .i64 d, .int .u64 e]
abbrev ox (x : O5) : Value := ov x.1 x.2.1 x.2.2.1 x.2.2.2.1 x.2.2.2.2
/-- Block g holds N orders and maybe more: f i is the i-th. -/
def RowO (w : World) (g M N : Nat) (f : Nat → O5) : Prop := ∃ C : Array Value, w.heap[g]? = some (.cells C 35 (0, 0)) ∧ C.size = M ∧ 5 * N ≤ M ∧ ∀ i, i < N → ∀ r, r < 5 → C[5 * i + r]? = (c5 (f i))[r]?
def updO (f : Nat → O5) (i : Nat) (x : O5) : Nat → O5 := fun k => if k = i then x else f k
section
variable {w w' : World} {g M N : Nat} {f : Nat → O5}
theorem RowO.lt (h : RowO w g M N f) : g < w.heap.size := by obtain ⟨C, e, _⟩ := h; exact blk_lt e
theorem RowO.block (h : RowO w g M N f) (e : w'.heap[g]? = w.heap[g]?) : RowO w' g M N f := by
  obtain ⟨C, h1, h2⟩ := h
  exact ⟨C, e.trans h1, h2⟩
theorem RowO.keep (h : RowO w g M N f) (hb : Below w.heap.size w w') : RowO w' g M N f := h.block (hb.block g h.lt)
theorem RowO.cell (h : RowO w g M N f) {i r : Nat} (hi : i < N) (hr : r < 5) : w.cell? ⟨g, 5 * i + r, none⟩ = (c5 (f i))[r]? := by
  obtain ⟨C, h1, h2, h20, h3⟩ := h
  rw [cell_of_row w g (5 * i + r) _ _ (0, 0) h1]
  exact h3 i hi r hr
theorem orow_load (h : RowO w g M N f) {i : Nat} (hi : i < N) : (Instr.loadAt 35 (.pointer (some ⟨g, 5 * i, none⟩))).run Tryd.prog w = .ok (ox (f i)) w :=
  run_loadAt_mid (P := Tryd.prog) w g (5 * i) _ (c5 (f i)) _ (fun j v hv => by
    have hj : j < 5 := (List.getElem?_eq_some_iff.1 hv).1
    rw [h.cell hi hj]
    exact hv) Tryd.underlying35 rfl (by kernel_rfl)
theorem orow_index {cap i : Nat} (hi : i < N) : (Instr.indexAt 29 (.slice (some ⟨g, 0, none⟩) N cap) (.int .i64 i)).run Tryd.prog w = .ok (.pointer (some ⟨g, 5 * i, none⟩)) w := by
  have hs : (sizeOf 35).run Tryd.prog w = .ok 5 w := by kernel_rfl
  have hu := run_underlying Tryd.underlying29 w
  have hb : (0 : Int) ≤ (i : Int) ∧ (i : Int) < (N : Int) := by omega
  have ha : (⟨g, 0, none⟩ : Addr).add (5 * i) = ⟨g, 5 * i, none⟩ := by rw [Addr.add_mid]; simp
  simp [Instr.indexAt, asIntOf, Sem.run_bind, hu, hs, Result.andThen, hb, hi, Nat.mul_comm i 5, ha]
theorem setCells_five (w : World) (g o : Nat) (a b c d e : Value) : w.setCells g o [a, b, c, d, e] = ((((w.setCell ⟨g, o, none⟩ a).setCell ⟨g, o + 1, none⟩ b).setCell ⟨g, o + 1 + 1, none⟩ c).setCell ⟨g, o + 1 + 1 + 1, none⟩ d).setCell ⟨g, o + 1 + 1 + 1 + 1, none⟩ e := rfl
set_option maxHeartbeats 2000000 in
theorem orow_store (h : RowO w g M N f) {i : Nat} (hi : i < N) (x : O5) : ∃ w', (Instr.storeAt 35 (.pointer (some ⟨g, 5 * i, none⟩)) (ox x)).run Tryd.prog w = .ok () w' ∧ RowO w' g M N (updO f i x) ∧ w.grownBy w' (some g) := by
  obtain ⟨C, h1, h2, h20, h3⟩ := h
  have hc : ∀ j, j < 5 → (w.cell? ⟨g, 5 * i + j, none⟩).isSome = true ∧ w.frozen? ⟨g, 5 * i + j, none⟩ = false := fun j hj => by
    constructor
    · rw [cell_of_row w g (5 * i + j) _ _ (0, 0) h1, Array.getElem?_eq_getElem (by omega)]; rfl
    · exact blk_frozen h1 _
  refine ⟨_, run_storeAt_mid (P := Tryd.prog) w g (5 * i) _ (ocs x.1 x.2.1 x.2.2.1 x.2.2.2.1 x.2.2.2.2) (fun j hj => hc j hj) (by kernel_rfl) (by simp [Value.oneCell']), ?_, ?_⟩
  · show RowO (w.setCells g (5 * i) [.int .i64 x.1, .int .i64 x.2.1, .int .i64 x.2.2.1, .int .i64 x.2.2.2.1, .int .u64 x.2.2.2.2]) g M N (updO f i x)
    rw [setCells_five]
    refine ⟨_, blk_set (blk_set (blk_set (blk_set (blk_set h1 _ _) _ _) _ _) _ _) _ _, by simpa using h2, h20, fun k hk r hr => ?_⟩
    have a0 := h3 k hk r hr
    by_cases e : k = i
    · subst e
      simp only [updO, if_true]
      have s0 : 5 * k + 4 < C.size := by omega
      match r, hr with
      | 0, _ => rw [Array.getElem?_setIfInBounds_ne (by omega), Array.getElem?_setIfInBounds_ne (by omega), Array.getElem?_setIfInBounds_ne (by omega), Array.getElem?_setIfInBounds_ne (by omega), Nat.add_zero, Array.getElem?_setIfInBounds_self_of_lt (by omega)]; rfl
      | 1, _ => rw [Array.getElem?_setIfInBounds_ne (by omega), Array.getElem?_setIfInBounds_ne (by omega), Array.getElem?_setIfInBounds_ne (by omega), Array.getElem?_setIfInBounds_self_of_lt (by simp only [Array.size_setIfInBounds]; omega)]; rfl
      | 2, _ => rw [Array.getElem?_setIfInBounds_ne (by omega), Array.getElem?_setIfInBounds_ne (by omega), show 5 * k + 2 = 5 * k + 1 + 1 by omega, Array.getElem?_setIfInBounds_self_of_lt (by simp only [Array.size_setIfInBounds]; omega)]; rfl
      | 3, _ => rw [Array.getElem?_setIfInBounds_ne (by omega), show 5 * k + 3 = 5 * k + 1 + 1 + 1 by omega, Array.getElem?_setIfInBounds_self_of_lt (by simp only [Array.size_setIfInBounds]; omega)]; rfl
      | 4, _ => rw [show 5 * k + 4 = 5 * k + 1 + 1 + 1 + 1 by omega, Array.getElem?_setIfInBounds_self_of_lt (by simp only [Array.size_setIfInBounds]; omega)]; rfl
      | r + 5, hr => omega
    · simp only [updO, if_neg e]
      rw [Array.getElem?_setIfInBounds_ne (by omega), Array.getElem?_setIfInBounds_ne (by omega), Array.getElem?_setIfInBounds_ne (by omega), Array.getElem?_setIfInBounds_ne (by omega), Array.getElem?_setIfInBounds_ne (by omega)]
      exact a0
  · show w.grownBy (w.setCells g (5 * i) [.int .i64 x.1, .int .i64 x.2.1, .int .i64 x.2.2.1, .int .i64 x.2.2.2.1, .int .u64 x.2.2.2.2]) (some g)
    rw [setCells_five]
    exact ⟨rfl, rfl, rfl, by simp, fun k hk hne => by
      have e : k ≠ g := fun e => hne (by rw [e])
      rw [Below.heap_setCell _ _ _ _ e, Below.heap_setCell _ _ _ _ e, Below.heap_setCell _ _ _ _ e, Below.heap_setCell _ _ _ _ e, Below.heap_setCell _ _ _ _ e]⟩
end
theorem exec_indexAddr {P : Program} {ρ : Operand → Value} {o : Oper} {t : TypeId} {a x : Operand} (ho : o.op = .indexAddr t a x) {w w' : World} {v : Value} (h : (Instr.indexAt t (ρ a) (ρ x)).run P w = .ok v w') : (execOp ρ o).run P w = .ok (.value v) w' := by
  unfold execOp
  rw [ho]
  simp only [Sem.run_bind, h, Result.andThen]
  rfl
theorem exec_load {P : Program} {ρ : Operand → Value} {o : Oper} {t : TypeId} {a : Operand} (ho : o.op = .load t a) {w w' : World} {v : Value} (h : (Instr.loadAt t (ρ a)).run P w = .ok v w') : (execOp ρ o).run P w = .ok (.value v) w' := by
  unfold execOp
  rw [ho]
  simp only [Sem.run_bind, h, Result.andThen]
  rfl
theorem exec_store {P : Program} {ρ : Operand → Value} {o : Oper} {t : TypeId} {a x : Operand} (ho : o.op = .store t a x) {w w' : World} (h : (Instr.storeAt t (ρ a) (ρ x)).run P w = .ok () w') : (execOp ρ o).run P w = .ok .skip w' := by
  unfold execOp
  rw [ho]
  simp only [Sem.run_bind, h, Result.andThen]
  rfl
theorem exec_clear {P : Program} {ρ : Operand → Value} {o : Oper} {t : TypeId} {x : Operand} (ho : o.op = Op.call { callee := Callee.builtin Builtin.clear, args := #[x], argTypes := #[t] }) {w w' : World} {v : Value} (h : (Builtin.clear_ #[t] o.type #[ρ x]).run P w = .ok v w') : (execOp ρ o).run P w = .ok (.value v) w' := by
  unfold execOp
  simp [ho, resolve, invoke, builtin, h, Result.andThen]
theorem grown_trans {w w' w'' : World} {r : Option Nat} (h : w.grownBy w' r) (h' : w'.grownBy w'' r) : w.grownBy w'' r :=
  ⟨h'.os.trans h.os, h'.tape.trans h.tape, h'.output.trans h.output, Nat.le_trans h.size h'.size, fun k hk hne => (h'.block k (Nat.lt_of_lt_of_le hk h.size) hne).trans (h.block k hk hne)⟩
theorem below_grown {w w' : World} (r : Option Nat) (h : Below w.heap.size w w') : w.grownBy w' r := ⟨h.os, h.tape, h.output, h.size, fun k hk _ => h.block k hk⟩
set_option maxRecDepth 100000 in
/-- kept's closure: is it the same token? -/
theorem same_calls {w : World} {q : Nat} {a b c d e tok : Int} (hq : w.cell? ⟨q, 1, none⟩ = some (.int .i64 tok)) :
    Calls Tryd.prog 21 #[ov a b c d e, .pointer (some ⟨q, 0, none⟩)] w fun z w' => z = .returned (.bool (b == tok)) ∧ Below w.heap.size w w' := by
  have BL := Aside0.mk ((Below.refl w.heap.size w).alloc (Nat.le_refl _) (.cells (ocs a b c d e) 35))
  have hq2 : (w.alloc (.cells (ocs a b c d e) 35)).cell? ⟨q, 1, none⟩ = some (.int .i64 tok) := by
    rw [World.cell?_alloc_lt _ _ _ (World.block_lt_of_cell? w _ hq)]; exact hq
  go_enter Tryd.func21, Tryd.ntmps21
  go_wp2
  go_ret
  exact ⟨rfl, BL.out⟩
end Go.Proofs.YtdfkbiffdcfnpaaDoor.H
/- IndexFunc over a row of leases: the first that lasts longer. -/
namespace Go.Proofs.YtdfkbiffdcfnpaaDoor.H
open Go.RowKit Go.HK Go.Lib Go.WideShapes Go.ChangeShapes Go.Proofs.YtdfkbiffdcfnpaaDoorW.PrintWords Go.Proofs.YtdfkbiffdcfnpaaDoorW.PrintLast Go.Proofs.YtdfkbiffdcfnpaaDoorW.PrintMore
set_option linter.unusedVariables false
set_option linter.unusedSimpArgs false
theorem index_body {r0 r1 body rt r0' r1' body' rt' : Code} {z z' : Nat} (h : Tryd.f27.body = some (.seq r0 (.seq (.seq r1 (.block z (.loop body))) rt))) (h' : Tryd.f27.body = some (.seq r0' (.seq (.seq r1' (.block z' (.loop body'))) rt'))) : body' = body := by
  rw [h] at h'
  injection h' with h'
  injection h' with _ h'
  injection h' with h1 _
  injection h1 with _ h1
  injection h1 with _ h1
  injection h1 with h1
  exact h1.symm
set_option maxRecDepth 100000 in
set_option maxHeartbeats 4000000 in
theorem index_next {w0 w : World} {q g M L cap : Nat} {tok : Int} {f : Nat → O5} {K : Act → World → Prop} {R : Ending → World → Prop} {N z : Nat} {r0 r1 body rt : Code} {i : Nat} {x2 x3 x5 x6 x9 x10 x11 x12 x13 x14 x15 x16 x17 x18 : Value} (hB : Tryd.f27.body = some (.seq r0 (.seq (.seq r1 (.block z (.loop body))) rt))) (HQ : Aside0 (w0.cell? ⟨q, 1, none⟩ = some (.int .i64 tok))) (HF : Aside0 (RowO w0 g M L f)) (HB : Aside0 (Below w0.heap.size w0 w)) (hi : i < L) (hl : L ≤ 100000) (hd : (f i).2.1 ≠ tok)
    (cont : ∀ (w' : World) (y2 y3 y5 y6 y9 y10 y11 y12 y13 y14 y15 y16 y17 y18 : Value), Below w0.heap.size w0 w' → Code.rounds Tryd.prog body (Exit.inBlock 0 (Exit.then K (bodyPost Tryd.prog Tryd.f27 R))) N ⟨#[.slice (some ⟨g, 0, none⟩) L cap, .func (.func 21) #[] #[.pointer (some ⟨q, 0, none⟩)], y2, y3, .int .i64 0, y5, y6, .int .i64 L, .int .i64 (i + 1), y9, y10, y11, y12, y13, y14, y15, y16, y17, y18], []⟩ w') :
    Code.rounds Tryd.prog body (Exit.inBlock 0 (Exit.then K (bodyPost Tryd.prog Tryd.f27 R))) (N + 1) ⟨#[.slice (some ⟨g, 0, none⟩) L cap, .func (.func 21) #[] #[.pointer (some ⟨q, 0, none⟩)], x2, x3, .int .i64 0, x5, x6, .int .i64 L, .int .i64 i, x9, x10, x11, x12, x13, x14, x15, x16, x17, x18], []⟩ w := by
  have hbody := index_body rfl hB
  clear hB
  subst hbody
  have F2 := Aside0.mk (HF.out.keep HB.out)
  have Q2 := Aside0.mk ((HB.out.cell (p := ⟨q, 1, none⟩) (World.block_lt_of_cell? w0 _ HQ.out)).trans HQ.out)
  have IX := Aside0.mk (fun (v : World) => orow_index (w := v) (g := g) (cap := cap) hi)
  have DD : ((f i).2.1 == tok) = false := by simpa using hd
  have hcont := Aside0.mk cont
  clear cont
  rw [rounds_succ]
  go_upto_region 3 with fail
  go_upto_region 99 with (first
    | (go_at_call 21; refine (same_calls Q2.out).mono ?_; rintro e w1 ⟨rfl, hb⟩; have B1 := Aside0.mk (HB.out.trans (hb.mono HB.out.size)); clear hb; rw [DD])
    | (refine Great.wpList_readTo rfl (some 14) rfl (.pointer (some ⟨g, 5 * i, none⟩)) (exec_indexAddr rfl (IX.out _)) ?_)
    | (refine Great.wpList_readTo rfl (some 15) rfl (ox (f i)) (exec_load rfl (orow_load F2.out hi)) ?_))
  exact hcont.out _ _ _ _ _ _ _ _ _ _ _ _ _ _ _ B1.out
set_option maxRecDepth 100000 in
set_option maxHeartbeats 4000000 in
theorem index_hit {w0 w : World} {q g M L cap : Nat} {tok : Int} {f : Nat → O5} {K : Act → World → Prop} {R : Ending → World → Prop} {N z : Nat} {r0 r1 body rt : Code} {i : Nat} {x2 x3 x5 x6 x9 x10 x11 x12 x13 x14 x15 x16 x17 x18 : Value} (hB : Tryd.f27.body = some (.seq r0 (.seq (.seq r1 (.block z (.loop body))) rt))) (HQ : Aside0 (w0.cell? ⟨q, 1, none⟩ = some (.int .i64 tok))) (HF : Aside0 (RowO w0 g M L f)) (HB : Aside0 (Below w0.heap.size w0 w)) (hi : i < L) (hl : L ≤ 100000) (hd : (f i).2.1 = tok)
    (cont : ∀ (w' : World), Below w0.heap.size w0 w' → R (.returned (.int .i64 i)) w') :
    Code.rounds Tryd.prog body (Exit.inBlock 0 (Exit.then K (bodyPost Tryd.prog Tryd.f27 R))) (N + 1) ⟨#[.slice (some ⟨g, 0, none⟩) L cap, .func (.func 21) #[] #[.pointer (some ⟨q, 0, none⟩)], x2, x3, .int .i64 0, x5, x6, .int .i64 L, .int .i64 i, x9, x10, x11, x12, x13, x14, x15, x16, x17, x18], []⟩ w := by
  have hbody := index_body rfl hB
  clear hB
  subst hbody
  have F2 := Aside0.mk (HF.out.keep HB.out)
  have Q2 := Aside0.mk ((HB.out.cell (p := ⟨q, 1, none⟩) (World.block_lt_of_cell? w0 _ HQ.out)).trans HQ.out)
  have IX := Aside0.mk (fun (v : World) => orow_index (w := v) (g := g) (cap := cap) hi)
  have DD : ((f i).2.1 == tok) = true := by simpa using hd
  have hcont := Aside0.mk cont
  clear cont
  rw [rounds_succ]
  go_upto_region 3 with fail
  go_upto_region 99 with (first
    | (go_at_call 21; refine (same_calls Q2.out).mono ?_; rintro e w1 ⟨rfl, hb⟩; have B1 := Aside0.mk (HB.out.trans (hb.mono HB.out.size)); clear hb; rw [DD])
    | (refine Great.wpList_readTo rfl (some 14) rfl (.pointer (some ⟨g, 5 * i, none⟩)) (exec_indexAddr rfl (IX.out _)) ?_)
    | (refine Great.wpList_readTo rfl (some 15) rfl (ox (f i)) (exec_load rfl (orow_load F2.out hi)) ?_))
  exact hcont.out _ B1.out
set_option maxRecDepth 100000 in
set_option maxHeartbeats 4000000 in
theorem index_end {w : World} {q g L cap : Nat} {K : Act → World → Prop} {R : Ending → World → Prop} {N z : Nat} {r0 r1 body rt : Code} {x2 x3 x5 x6 x9 x10 x11 x12 x13 x14 x15 x16 x17 x18 : Value} (hB : Tryd.f27.body = some (.seq r0 (.seq (.seq r1 (.block z (.loop body))) rt))) (hl : L ≤ 100000) (cont : ∀ (y2 y3 y5 y6 y9 y10 y11 y12 y13 y14 y15 y16 y17 y18 : Value), K ⟨#[.slice (some ⟨g, 0, none⟩) L cap, .func (.func 21) #[] #[.pointer (some ⟨q, 0, none⟩)], y2, y3, .int .i64 0, y5, y6, .int .i64 L, .int .i64 L, y9, y10, y11, y12, y13, y14, y15, y16, y17, y18], []⟩ w) :
    Code.rounds Tryd.prog body (Exit.inBlock 0 (Exit.then K (bodyPost Tryd.prog Tryd.f27 R))) (N + 1) ⟨#[.slice (some ⟨g, 0, none⟩) L cap, .func (.func 21) #[] #[.pointer (some ⟨q, 0, none⟩)], x2, x3, .int .i64 0, x5, x6, .int .i64 L, .int .i64 L, x9, x10, x11, x12, x13, x14, x15, x16, x17, x18], []⟩ w := by
  have hbody := index_body rfl hB
  clear hB
  subst hbody
  have hcont := Aside0.mk cont
  clear cont
  rw [rounds_succ]
  go_wp2
  exact hcont.out _ _ _ _ _ _ _ _ _ _ _ _ _ _
set_option maxRecDepth 100000 in
set_option maxHeartbeats 4000000 in
theorem index_loop {w0 : World} {q g M L cap : Nat} {tok : Int} {f : Nat → O5} {K : Act → World → Prop} {R : Ending → World → Prop} {z : Nat} {r0 r1 body rt : Code} (hB : Tryd.f27.body = some (.seq r0 (.seq (.seq r1 (.block z (.loop body))) rt))) (HQ : w0.cell? ⟨q, 1, none⟩ = some (.int .i64 tok)) (HF : RowO w0 g M L f) (hl : L ≤ 100000)
    (hR : ∀ (w' : World) (i : Nat), i < L → (f i).2.1 = tok → (∀ j, j < i → (f j).2.1 ≠ tok) → Below w0.heap.size w0 w' → R (.returned (.int .i64 i)) w')
    (hK : ∀ (w' : World) (y2 y3 y5 y6 y9 y10 y11 y12 y13 y14 y15 y16 y17 y18 : Value), (∀ j, j < L → (f j).2.1 ≠ tok) → Below w0.heap.size w0 w' → K ⟨#[.slice (some ⟨g, 0, none⟩) L cap, .func (.func 21) #[] #[.pointer (some ⟨q, 0, none⟩)], y2, y3, .int .i64 0, y5, y6, .int .i64 L, .int .i64 L, y9, y10, y11, y12, y13, y14, y15, y16, y17, y18], []⟩ w') :
    ∀ (d i : Nat) (w : World) {y2 y3 y5 y6 y9 y10 y11 y12 y13 y14 y15 y16 y17 y18 : Value}, i + d = L → (∀ j, j < i → (f j).2.1 ≠ tok) → Below w0.heap.size w0 w → Code.rounds Tryd.prog body (Exit.inBlock 0 (Exit.then K (bodyPost Tryd.prog Tryd.f27 R))) (d + 1) ⟨#[.slice (some ⟨g, 0, none⟩) L cap, .func (.func 21) #[] #[.pointer (some ⟨q, 0, none⟩)], y2, y3, .int .i64 0, y5, y6, .int .i64 L, .int .i64 i, y9, y10, y11, y12, y13, y14, y15, y16, y17, y18], []⟩ w := by
  intro d
  induction d with
  | zero =>
    intro i w y2 y3 y5 y6 y9 y10 y11 y12 y13 y14 y15 y16 y17 y18 hd H HB
    obtain rfl : i = L := by omega
    exact index_end hB hl (fun y2 y3 y5 y6 y9 y10 y11 y12 y13 y14 y15 y16 y17 y18 => hK w y2 y3 y5 y6 y9 y10 y11 y12 y13 y14 y15 y16 y17 y18 H HB)
  | succ d ih =>
    intro i w y2 y3 y5 y6 y9 y10 y11 y12 y13 y14 y15 y16 y17 y18 hd H HB
    have hi : i < L := by omega
    by_cases c : (f i).2.1 = tok
    · exact index_hit hB ⟨HQ⟩ ⟨HF⟩ ⟨HB⟩ hi hl c (fun w' hb => hR w' i hi c H hb)
    · refine index_next hB ⟨HQ⟩ ⟨HF⟩ ⟨HB⟩ hi hl c (fun w' y2 y3 y5 y6 y9 y10 y11 y12 y13 y14 y15 y16 y17 y18 hb => ih (i + 1) w' (by omega) (fun j hj => ?_) hb)
      by_cases e : j = i
      · subst e; exact c
      · exact H j (by omega)
set_option maxRecDepth 100000 in
set_option maxHeartbeats 4000000 in
theorem index_calls {w : World} {q g M L cap : Nat} {tok : Int} {f : Nat → O5} (HQ : w.cell? ⟨q, 1, none⟩ = some (.int .i64 tok)) (HF : RowO w g M L f) (hl : L ≤ 100000) :
    Calls Tryd.prog 27 #[.slice (some ⟨g, 0, none⟩) L cap, .func (.func 21) #[] #[.pointer (some ⟨q, 0, none⟩)]] w fun e w' => Below w.heap.size w w' ∧ ((e = .returned (.int .i64 (-1)) ∧ ∀ j, j < L → (f j).2.1 ≠ tok) ∨ ∃ i : Nat, i < L ∧ e = .returned (.int .i64 i) ∧ (f i).2.1 = tok ∧ ∀ j, j < i → (f j).2.1 ≠ tok) := by
  have Q := Aside0.mk HQ
  have F := Aside0.mk HF
  clear HQ HF
  go_enter Tryd.func27, Tryd.ntmps27
  go_wp2
  refine wp_loop_rounds (L + 1) ?_
  refine index_loop rfl Q.out F.out hl (fun w' i hi h1 h2 hb => ⟨hb, .inr ⟨i, hi, rfl, h1, h2⟩⟩) ?_ L 0 w (by omega) (fun j hj => absurd hj (Nat.not_lt_zero j)) (Below.refl _ _)
  intro w' y2 y3 y5 y6 y9 y10 y11 y12 y13 y14 y15 y16 y17 y18 h hb
  have HH := Aside0.mk h
  have BB := Aside0.mk hb
  clear h hb
  go_wp2
  go_ret
  exact ⟨BB.out, .inl ⟨rfl, HH.out⟩⟩
end Go.Proofs.YtdfkbiffdcfnpaaDoor.H
/- DeleteFunc over a row of orders: those of other tokens stay, in their order. -/
namespace Go.Proofs.YtdfkbiffdcfnpaaDoor.H
open Go.RowKit Go.HK Go.Lib Go.WideShapes Go.ChangeShapes Go.Proofs.YtdfkbiffdcfnpaaDoorW.PrintWords Go.Proofs.YtdfkbiffdcfnpaaDoorW.PrintLast Go.Proofs.YtdfkbiffdcfnpaaDoorW.PrintMore
set_option linter.unusedVariables false
set_option linter.unusedSimpArgs false
theorem setCells_row {t : TypeId} (g : Nat) : ∀ (vs : List Value) (o : Nat) (w : World) (C : Array Value), w.heap[g]? = some (.cells C t (0, 0)) → (∃ C', (w.setCells g o vs).heap[g]? = some (.cells C' t (0, 0)) ∧ C'.size = C.size ∧ ∀ k, k < o → C'[k]? = C[k]?) ∧ w.grownBy (w.setCells g o vs) (some g)
  | [], _, w, C, h => ⟨⟨C, h, rfl, fun _ _ => rfl⟩, World.grownBy.refl w _⟩
  | v :: r, o, w, C, h => by
    obtain ⟨⟨C', h1, h2, h3⟩, h4⟩ := setCells_row g r (o + 1) (w.setCell ⟨g, o, none⟩ v) _ (blk_set h o v)
    refine ⟨⟨C', h1, by simpa using h2, fun k hk => ?_⟩, ?_⟩
    · rw [h3 k (by omega), Array.getElem?_setIfInBounds_ne (by omega)]
    · have h0 : w.grownBy (w.setCell ⟨g, o, none⟩ v) (some g) := ⟨rfl, rfl, rfl, by rw [World.size_setCell]; exact Nat.le_refl _, fun k hk hne => Below.heap_setCell w ⟨g, o, none⟩ v k (fun e => hne (congrArg some e))⟩
      exact grown_trans h0 h4
theorem zeroO (w : World) : (zeroValue 35).run Tryd.prog w = .ok (ov 0 0 0 0 0) w := by kernel_rfl
theorem orow_clear {w : World} {g M L : Nat} {f : Nat → O5} (h : RowO w g M L f) {i : Nat} (hi : i ≤ L) (c : Nat) (ty : TypeId) : ∃ w', (Builtin.clear_ #[29] ty #[.slice (some ⟨g, 5 * i, none⟩) (L - i) c]).run Tryd.prog w = .ok (.tuple #[]) w' ∧ RowO w' g M i f ∧ w.grownBy w' (some g) := by
  have hf := h
  obtain ⟨C, h1, h2, h20, h3⟩ := h
  by_cases e : L - i = 0
  · refine ⟨w, ?_, ⟨C, h1, h2, by omega, fun k hk => h3 k (by omega)⟩, World.grownBy.refl w _⟩
    rw [e]
    simp [Builtin.clear_, run_underlying Tryd.underlying29]
  · obtain ⟨n, hn⟩ : ∃ n, L - i = n + 1 := ⟨L - i - 1, by omega⟩
    have hz := zeroO w
    have hlen : (Builtin.zeroCells (ov 0 0 0 0 0).cells (L - i)).toList.length = 5 * (L - i) := by simp [Builtin.zeroCells, Value.cells, Nat.mul_comm]
    have hst := run_storeCells_cells (P := Tryd.prog) g (5 * i) (Builtin.zeroCells (ov 0 0 0 0 0).cells (L - i)).toList 0 w
      (fun j hj => by rw [hlen] at hj; rw [cell_of_row w g _ _ _ (0, 0) h1, Array.getElem?_eq_getElem (by omega)]; rfl) (fun j hj => blk_frozen h1 _)
      (by
        intro v hv
        simp only [Builtin.zeroCells, Value.cells, Array.toList_map, List.mem_map] at hv
        obtain ⟨k, _, rfl⟩ := hv
        have : k % 5 < 5 := Nat.mod_lt _ (by omega)
        have h5 : k % 5 = 0 ∨ k % 5 = 1 ∨ k % 5 = 2 ∨ k % 5 = 3 ∨ k % 5 = 4 := by omega
        rcases h5 with h5 | h5 | h5 | h5 | h5 <;> simp [h5, Value.oneCell'])
    obtain ⟨⟨C', q1, q2, q3⟩, q4⟩ := setCells_row (t := 35) g (Builtin.zeroCells (ov 0 0 0 0 0).cells (L - i)).toList (5 * i) w C h1
    refine ⟨_, ?_, ⟨C', q1, by omega, by omega, fun k hk => ?_⟩, q4⟩
    · simp only [Nat.add_zero] at hst
      rw [hn] at hst ⊢
      simp [Builtin.clear_, run_underlying Tryd.underlying29, hz, hst]
    · intro r hr
      rw [q3 _ (by omega)]
      exact h3 k (by omega) r hr
end Go.Proofs.YtdfkbiffdcfnpaaDoor.H
/- DeleteFunc over a row of orders: those of other tokens stay, in their order. -/
namespace Go.Proofs.YtdfkbiffdcfnpaaDoor.H
open Go.RowKit Go.HK Go.Lib Go.WideShapes Go.ChangeShapes Go.Proofs.YtdfkbiffdcfnpaaDoorW.PrintWords Go.Proofs.YtdfkbiffdcfnpaaDoorW.PrintLast Go.Proofs.YtdfkbiffdcfnpaaDoorW.PrintMore
set_option linter.unusedVariables false
set_option linter.unusedSimpArgs false
theorem delete_body {r0 r1 c2 r4 body rt r0' r1' c2' r4' body' rt' : Code} {z z' : Nat} (h : Tryd.f20.body = some (.seq r0 (.seq r1 (.seq c2 (.seq (.seq r4 (.block z (.loop body))) rt))))) (h' : Tryd.f20.body = some (.seq r0' (.seq r1' (.seq c2' (.seq (.seq r4' (.block z' (.loop body'))) rt'))))) : body' = body := by
  rw [h] at h'
  injection h' with h'
  injection h' with _ h'
  injection h' with _ h'
  injection h' with _ h'
  injection h' with h1 _
  injection h1 with _ h1
  injection h1 with _ h1
  injection h1 with h1
  exact h1.symm
set_option maxRecDepth 100000 in
set_option maxHeartbeats 4000000 in
theorem delete_drop {w : World} {q g M L cap i j : Nat} {tok : Int} {f : Nat → O5} {K : Act → World → Prop} {R : Ending → World → Prop} {N z : Nat} {r0 r1 c2 r4 body rt : Code} {x2 x3 x7 x8 x9 x10 x11 x12 x13 x14 x15 x16 x17 x18 x19 x20 x21 x22 x23 x24 x25 x26 x27 x28 x29 x30 x31 x32 x33 x34 x35 x36 x37 x38 x39 x40 x41 : Value} (hB : Tryd.f20.body = some (.seq r0 (.seq r1 (.seq c2 (.seq (.seq r4 (.block z (.loop body))) rt))))) (HQ : Aside0 (w.cell? ⟨q, 1, none⟩ = some (.int .i64 tok))) (HF : Aside0 (RowO w g M L f)) (hij : i ≤ j) (hi : j < L) (hl : L ≤ 100000) (hd : (f j).2.1 = tok)
    (cont : ∀ (w' : World) (y2 y3 y7 y8 y9 y10 y11 y12 y13 y14 y15 y16 y17 y18 y19 y20 y21 y22 y23 y24 y25 y26 y27 y28 y29 y30 y31 y32 y33 y34 y35 y36 y37 y38 y39 y40 y41 : Value), RowO w' g M L f → w.grownBy w' (some g) → Code.rounds Tryd.prog body (Exit.inBlock 0 (Exit.then K (bodyPost Tryd.prog Tryd.f20 R))) N ⟨#[.slice (some ⟨g, 0, none⟩) L cap, .func (.func 21) #[] #[.pointer (some ⟨q, 0, none⟩)], y2, y3, .slice none 0 0, .int .i64 i, .int .i64 (j + 1), y7, y8, y9, y10, y11, y12, y13, y14, y15, y16, y17, y18, y19, y20, y21, y22, y23, y24, y25, y26, y27, y28, y29, y30, y31, y32, y33, y34, y35, y36, y37, y38, y39, y40, y41], []⟩ w') :
    Code.rounds Tryd.prog body (Exit.inBlock 0 (Exit.then K (bodyPost Tryd.prog Tryd.f20 R))) (N + 1) ⟨#[.slice (some ⟨g, 0, none⟩) L cap, .func (.func 21) #[] #[.pointer (some ⟨q, 0, none⟩)], x2, x3, .slice none 0 0, .int .i64 i, .int .i64 j, x7, x8, x9, x10, x11, x12, x13, x14, x15, x16, x17, x18, x19, x20, x21, x22, x23, x24, x25, x26, x27, x28, x29, x30, x31, x32, x33, x34, x35, x36, x37, x38, x39, x40, x41], []⟩ w := by
  have hbody := delete_body rfl hB
  clear hB
  subst hbody
  obtain ⟨a, b, c, d, e5, hx⟩ : ∃ a b c d e, f j = (a, b, c, d, e) := ⟨_, _, _, _, _, rfl⟩
  have LD := Aside0.mk (show (Instr.loadAt 35 (.pointer (some ⟨g, 5 * j, none⟩))).run Tryd.prog w = .ok (ov a b c d e5) w from by have h := orow_load HF.out hi; rw [hx] at h; exact h)
  have IJ := Aside0.mk (fun (v : World) => orow_index (w := v) (g := g) (cap := cap) hi)
  have BA := Aside0.mk ((Below.refl w.heap.size w).alloc (Nat.le_refl _) (.cells (ocs a b c d e5) 35))
  have XA := Aside0.mk (heap_alloc_last w (.cells (ocs a b c d e5) 35))
  have QA := Aside0.mk (show (w.alloc (.cells (ocs a b c d e5) 35)).cell? ⟨q, 1, none⟩ = some (.int .i64 tok) from by rw [World.cell?_alloc_lt _ _ _ (World.block_lt_of_cell? w _ HQ.out)]; exact HQ.out)
  have DD : (b == tok) = true := by rw [hx] at hd; simpa using hd
  have hcont := Aside0.mk cont
  clear cont hd hx
  rw [rounds_succ]
  go_upto_region 7 with fail
  go_upto_region 99 with (first
    | (go_at_call 21; refine (same_calls QA.out).mono ?_; rintro e w2 ⟨rfl, hb⟩; have B2 := Aside0.mk (BA.out.trans (hb.mono BA.out.size)); have X2 := Aside0.mk ((hb.block _ (blk_lt XA.out)).trans XA.out); have k0 := blk_cell X2.out 0; have k1 := blk_cell X2.out 1; have k2 := blk_cell X2.out 2; have k3 := blk_cell X2.out 3; have k4 := blk_cell X2.out 4; clear hb; rw [DD])
    | (refine Great.wpList_readTo rfl (some 24) rfl (.pointer (some ⟨g, 5 * j, none⟩)) (exec_indexAddr rfl (IJ.out _)) ?_)
    | (refine Great.wpList_readTo rfl (some 25) rfl (ov a b c d e5) (exec_load rfl LD.out) ?_))
  exact hcont.out _ _ _ _ _ _ _ _ _ _ _ _ _ _ _ _ _ _ _ _ _ _ _ _ _ _ _ _ _ _ _ _ _ _ _ _ _ _ (HF.out.keep B2.out) (below_grown _ B2.out)
set_option maxRecDepth 100000 in
set_option maxHeartbeats 4000000 in
theorem delete_keep {w : World} {q g M L cap i j : Nat} {tok : Int} {f : Nat → O5} {K : Act → World → Prop} {R : Ending → World → Prop} {N z : Nat} {r0 r1 c2 r4 body rt : Code} {x2 x3 x7 x8 x9 x10 x11 x12 x13 x14 x15 x16 x17 x18 x19 x20 x21 x22 x23 x24 x25 x26 x27 x28 x29 x30 x31 x32 x33 x34 x35 x36 x37 x38 x39 x40 x41 : Value} (hB : Tryd.f20.body = some (.seq r0 (.seq r1 (.seq c2 (.seq (.seq r4 (.block z (.loop body))) rt))))) (HQ : Aside0 (w.cell? ⟨q, 1, none⟩ = some (.int .i64 tok))) (HF : Aside0 (RowO w g M L f)) (hij : i ≤ j) (hi : j < L) (hl : L ≤ 100000) (hd : (f j).2.1 ≠ tok)
    (cont : ∀ (w' : World) (y2 y3 y7 y8 y9 y10 y11 y12 y13 y14 y15 y16 y17 y18 y19 y20 y21 y22 y23 y24 y25 y26 y27 y28 y29 y30 y31 y32 y33 y34 y35 y36 y37 y38 y39 y40 y41 : Value), RowO w' g M L (updO f i (f j)) → w.grownBy w' (some g) → Code.rounds Tryd.prog body (Exit.inBlock 0 (Exit.then K (bodyPost Tryd.prog Tryd.f20 R))) N ⟨#[.slice (some ⟨g, 0, none⟩) L cap, .func (.func 21) #[] #[.pointer (some ⟨q, 0, none⟩)], y2, y3, .slice none 0 0, .int .i64 (i + 1), .int .i64 (j + 1), y7, y8, y9, y10, y11, y12, y13, y14, y15, y16, y17, y18, y19, y20, y21, y22, y23, y24, y25, y26, y27, y28, y29, y30, y31, y32, y33, y34, y35, y36, y37, y38, y39, y40, y41], []⟩ w') :
    Code.rounds Tryd.prog body (Exit.inBlock 0 (Exit.then K (bodyPost Tryd.prog Tryd.f20 R))) (N + 1) ⟨#[.slice (some ⟨g, 0, none⟩) L cap, .func (.func 21) #[] #[.pointer (some ⟨q, 0, none⟩)], x2, x3, .slice none 0 0, .int .i64 i, .int .i64 j, x7, x8, x9, x10, x11, x12, x13, x14, x15, x16, x17, x18, x19, x20, x21, x22, x23, x24, x25, x26, x27, x28, x29, x30, x31, x32, x33, x34, x35, x36, x37, x38, x39, x40, x41], []⟩ w := by
  have hbody := delete_body rfl hB
  clear hB
  subst hbody
  obtain ⟨a, b, c, d, e5, hx⟩ : ∃ a b c d e, f j = (a, b, c, d, e) := ⟨_, _, _, _, _, rfl⟩
  have LD := Aside0.mk (show (Instr.loadAt 35 (.pointer (some ⟨g, 5 * j, none⟩))).run Tryd.prog w = .ok (ov a b c d e5) w from by have h := orow_load HF.out hi; rw [hx] at h; exact h)
  have IJ := Aside0.mk (fun (v : World) => orow_index (w := v) (g := g) (cap := cap) hi)
  have BA := Aside0.mk ((Below.refl w.heap.size w).alloc (Nat.le_refl _) (.cells (ocs a b c d e5) 35))
  have XA := Aside0.mk (heap_alloc_last w (.cells (ocs a b c d e5) 35))
  have QA := Aside0.mk (show (w.alloc (.cells (ocs a b c d e5) 35)).cell? ⟨q, 1, none⟩ = some (.int .i64 tok) from by rw [World.cell?_alloc_lt _ _ _ (World.block_lt_of_cell? w _ HQ.out)]; exact HQ.out)
  have DD : (b == tok) = false := by rw [hx] at hd; simpa using hd
  have hcont := Aside0.mk cont
  have hiL : i < L := by omega
  have II := Aside0.mk (fun (v : World) => orow_index (w := v) (g := g) (cap := cap) hiL)
  have HX := Aside0.mk hx
  clear cont hd hx
  rw [rounds_succ]
  go_upto_region 7 with fail
  go_upto_region 99 with (first
    | (go_at_call 21; refine (same_calls QA.out).mono ?_; rintro e w2 ⟨rfl, hb⟩; have B2 := Aside0.mk (BA.out.trans (hb.mono BA.out.size)); have X2 := Aside0.mk ((hb.block _ (blk_lt XA.out)).trans XA.out); have k0 := blk_cell X2.out 0; have k1 := blk_cell X2.out 1; have k2 := blk_cell X2.out 2; have k3 := blk_cell X2.out 3; have k4 := blk_cell X2.out 4; clear hb; rw [DD])
    | (refine Great.wpList_readTo rfl (some 24) rfl (.pointer (some ⟨g, 5 * j, none⟩)) (exec_indexAddr rfl (IJ.out _)) ?_)
    | (refine Great.wpList_readTo rfl (some 25) rfl (ov a b c d e5) (exec_load rfl LD.out) ?_)
    | (refine Great.wpList_readTo rfl (some 33) rfl (.pointer (some ⟨g, 5 * i, none⟩)) (exec_indexAddr rfl (II.out _)) ?_; obtain ⟨w3, hrun, hF, hg⟩ := orow_store (HF.out.keep B2.out) hiL (a, b, c, d, e5); have ST := Aside0.mk hrun; have F3 := Aside0.mk hF; have G5 := Aside0.mk (grown_trans (below_grown (some g) B2.out) hg); clear hrun hF hg)
    | (refine wpList_doTo rfl w3 (exec_store rfl ST.out) ?_))
  exact hcont.out _ _ _ _ _ _ _ _ _ _ _ _ _ _ _ _ _ _ _ _ _ _ _ _ _ _ _ _ _ _ _ _ _ _ _ _ _ _ (HX.out ▸ F3.out) G5.out
end Go.Proofs.YtdfkbiffdcfnpaaDoor.H
/- DeleteFunc over a row of orders: those of other tokens stay, in their order. -/
namespace Go.Proofs.YtdfkbiffdcfnpaaDoor.H
open Go.RowKit Go.HK Go.Lib Go.WideShapes Go.ChangeShapes Go.Proofs.YtdfkbiffdcfnpaaDoorW.PrintWords Go.Proofs.YtdfkbiffdcfnpaaDoorW.PrintLast Go.Proofs.YtdfkbiffdcfnpaaDoorW.PrintMore
set_option linter.unusedVariables false
set_option linter.unusedSimpArgs false
def stays (tok : Int) (x : O5) : Bool := x.2.1 != tok
theorem stays_step {tok : Int} {f h : Nat → O5} {i j : Nat} (H : (List.range i).map h = ((List.range j).map f).filter (stays tok)) (hj : h j = f j) (hij : i ≤ j) :
    (stays tok (f j) = true → (List.range (i + 1)).map (updO h i (h j)) = ((List.range (j + 1)).map f).filter (stays tok)) ∧ (stays tok (f j) = false → (List.range i).map h = ((List.range (j + 1)).map f).filter (stays tok)) := by
  constructor
  · intro e
    rw [List.range_succ, List.range_succ, List.map_append, List.map_append, List.filter_append, ← H]
    congr 1
    · apply List.map_congr_left
      intro k hk
      have := List.mem_range.1 hk
      unfold updO
      rw [if_neg (by omega)]
    · simp [updO, e, hj]
  · intro e
    rw [List.range_succ, List.map_append, List.filter_append, ← H]
    simp [e]
set_option maxRecDepth 100000 in
set_option maxHeartbeats 4000000 in
theorem delete_end {w : World} {q g L cap i : Nat} {K : Act → World → Prop} {R : Ending → World → Prop} {N z : Nat} {r0 r1 c2 r4 body rt : Code} {x2 x3 x7 x8 x9 x10 x11 x12 x13 x14 x15 x16 x17 x18 x19 x20 x21 x22 x23 x24 x25 x26 x27 x28 x29 x30 x31 x32 x33 x34 x35 x36 x37 x38 x39 x40 x41 : Value} (hB : Tryd.f20.body = some (.seq r0 (.seq r1 (.seq c2 (.seq (.seq r4 (.block z (.loop body))) rt))))) (hl : L ≤ 100000) (cont : ∀ (y2 y3 y7 y8 y9 y10 y11 y12 y13 y14 y15 y16 y17 y18 y19 y20 y21 y22 y23 y24 y25 y26 y27 y28 y29 y30 y31 y32 y33 y34 y35 y36 y37 y38 y39 y40 y41 : Value), K ⟨#[.slice (some ⟨g, 0, none⟩) L cap, .func (.func 21) #[] #[.pointer (some ⟨q, 0, none⟩)], y2, y3, .slice none 0 0, .int .i64 i, .int .i64 L, y7, y8, y9, y10, y11, y12, y13, y14, y15, y16, y17, y18, y19, y20, y21, y22, y23, y24, y25, y26, y27, y28, y29, y30, y31, y32, y33, y34, y35, y36, y37, y38, y39, y40, y41], []⟩ w) :
    Code.rounds Tryd.prog body (Exit.inBlock 0 (Exit.then K (bodyPost Tryd.prog Tryd.f20 R))) (N + 1) ⟨#[.slice (some ⟨g, 0, none⟩) L cap, .func (.func 21) #[] #[.pointer (some ⟨q, 0, none⟩)], x2, x3, .slice none 0 0, .int .i64 i, .int .i64 L, x7, x8, x9, x10, x11, x12, x13, x14, x15, x16, x17, x18, x19, x20, x21, x22, x23, x24, x25, x26, x27, x28, x29, x30, x31, x32, x33, x34, x35, x36, x37, x38, x39, x40, x41], []⟩ w := by
  have hbody := delete_body rfl hB
  clear hB
  subst hbody
  have hcont := Aside0.mk cont
  clear cont
  rw [rounds_succ]
  go_wp2
  exact hcont.out _ _ _ _ _ _ _ _ _ _ _ _ _ _ _ _ _ _ _ _ _ _ _ _ _ _ _ _ _ _ _ _ _ _ _ _ _
set_option maxRecDepth 100000 in
set_option maxHeartbeats 4000000 in
theorem delete_loop {w0 : World} {q g M L cap : Nat} {tok : Int} {f : Nat → O5} {K : Act → World → Prop} {R : Ending → World → Prop} {z : Nat} {r0 r1 c2 r4 body rt : Code} (hB : Tryd.f20.body = some (.seq r0 (.seq r1 (.seq c2 (.seq (.seq r4 (.block z (.loop body))) rt))))) (HQ : w0.cell? ⟨q, 1, none⟩ = some (.int .i64 tok)) (hq : q ≠ g) (hl : L ≤ 100000)
    (hK : ∀ (w' : World) (i : Nat) (h : Nat → O5) (y2 y3 y7 y8 y9 y10 y11 y12 y13 y14 y15 y16 y17 y18 y19 y20 y21 y22 y23 y24 y25 y26 y27 y28 y29 y30 y31 y32 y33 y34 y35 y36 y37 y38 y39 y40 y41 : Value), i ≤ L → RowO w' g M L h → w0.grownBy w' (some g) → (List.range i).map h = ((List.range L).map f).filter (stays tok) → K ⟨#[.slice (some ⟨g, 0, none⟩) L cap, .func (.func 21) #[] #[.pointer (some ⟨q, 0, none⟩)], y2, y3, .slice none 0 0, .int .i64 i, .int .i64 L, y7, y8, y9, y10, y11, y12, y13, y14, y15, y16, y17, y18, y19, y20, y21, y22, y23, y24, y25, y26, y27, y28, y29, y30, y31, y32, y33, y34, y35, y36, y37, y38, y39, y40, y41], []⟩ w') :
    ∀ (d i j : Nat) (w : World) (h : Nat → O5) {y2 y3 y7 y8 y9 y10 y11 y12 y13 y14 y15 y16 y17 y18 y19 y20 y21 y22 y23 y24 y25 y26 y27 y28 y29 y30 y31 y32 y33 y34 y35 y36 y37 y38 y39 y40 y41 : Value}, j + d = L → i ≤ j → RowO w g M L h → w0.grownBy w (some g) → (∀ k, j ≤ k → k < L → h k = f k) → (List.range i).map h = ((List.range j).map f).filter (stays tok) → Code.rounds Tryd.prog body (Exit.inBlock 0 (Exit.then K (bodyPost Tryd.prog Tryd.f20 R))) (d + 1) ⟨#[.slice (some ⟨g, 0, none⟩) L cap, .func (.func 21) #[] #[.pointer (some ⟨q, 0, none⟩)], y2, y3, .slice none 0 0, .int .i64 i, .int .i64 j, y7, y8, y9, y10, y11, y12, y13, y14, y15, y16, y17, y18, y19, y20, y21, y22, y23, y24, y25, y26, y27, y28, y29, y30, y31, y32, y33, y34, y35, y36, y37, y38, y39, y40, y41], []⟩ w := by
  intro d
  induction d with
  | zero =>
    intro i j w h y2 y3 y7 y8 y9 y10 y11 y12 y13 y14 y15 y16 y17 y18 y19 y20 y21 y22 y23 y24 y25 y26 y27 y28 y29 y30 y31 y32 y33 y34 y35 y36 y37 y38 y39 y40 y41 hd hij HF HG HE H
    obtain rfl : j = L := by omega
    exact delete_end hB hl (fun y2 y3 y7 y8 y9 y10 y11 y12 y13 y14 y15 y16 y17 y18 y19 y20 y21 y22 y23 y24 y25 y26 y27 y28 y29 y30 y31 y32 y33 y34 y35 y36 y37 y38 y39 y40 y41 => hK w i h y2 y3 y7 y8 y9 y10 y11 y12 y13 y14 y15 y16 y17 y18 y19 y20 y21 y22 y23 y24 y25 y26 y27 y28 y29 y30 y31 y32 y33 y34 y35 y36 y37 y38 y39 y40 y41 hij HF HG H)
  | succ d ih =>
    intro i j w h y2 y3 y7 y8 y9 y10 y11 y12 y13 y14 y15 y16 y17 y18 y19 y20 y21 y22 y23 y24 y25 y26 y27 y28 y29 y30 y31 y32 y33 y34 y35 y36 y37 y38 y39 y40 y41 hd hij HF HG HE H
    have hj : j < L := by omega
    have hQ := HG.cell (a := ⟨q, 1, none⟩) HQ (fun e => hq (Option.some.inj e))
    have hfj := HE j (Nat.le_refl _) hj
    obtain ⟨s1, s2⟩ := stays_step H hfj hij
    by_cases c : (h j).2.1 = tok
    · refine delete_drop hB ⟨hQ⟩ ⟨HF⟩ hij hj hl c (fun w' y2 y3 y7 y8 y9 y10 y11 y12 y13 y14 y15 y16 y17 y18 y19 y20 y21 y22 y23 y24 y25 y26 y27 y28 y29 y30 y31 y32 y33 y34 y35 y36 y37 y38 y39 y40 y41 hr hg => ih i (j + 1) w' h (by omega) (by omega) hr (grown_trans HG hg) (fun k h1 h2 => HE k (by omega) h2) (s2 ?_))
      rw [hfj] at c
      simp [stays, c]
    · refine delete_keep hB ⟨hQ⟩ ⟨HF⟩ hij hj hl c (fun w' y2 y3 y7 y8 y9 y10 y11 y12 y13 y14 y15 y16 y17 y18 y19 y20 y21 y22 y23 y24 y25 y26 y27 y28 y29 y30 y31 y32 y33 y34 y35 y36 y37 y38 y39 y40 y41 hr hg => ih (i + 1) (j + 1) w' _ (by omega) (by omega) hr (grown_trans HG hg) (fun k h1 h2 => ?_) (s1 ?_))
      · unfold updO
        rw [if_neg (by omega)]
        exact HE k (by omega) h2
      · rw [hfj] at c
        simp [stays, c]
set_option maxRecDepth 100000 in
set_option maxHeartbeats 4000000 in
theorem delete_calls {w : World} {q g M L cap : Nat} {tok : Int} {f : Nat → O5} (HQ : w.cell? ⟨q, 1, none⟩ = some (.int .i64 tok)) (HF : RowO w g M L f) (hq : q ≠ g) (hl : L ≤ 100000) (hcap : L ≤ cap) :
    Calls Tryd.prog 20 #[.slice (some ⟨g, 0, none⟩) L cap, .func (.func 21) #[] #[.pointer (some ⟨q, 0, none⟩)]] w fun e w' => ∃ (i : Nat) (h : Nat → O5), e = .returned (.slice (some ⟨g, 0, none⟩) i cap) ∧ i ≤ L ∧ RowO w' g M i h ∧ w.grownBy w' (some g) ∧ (List.range i).map h = ((List.range L).map f).filter (stays tok) := by
  have Q := Aside0.mk HQ
  have F := Aside0.mk HF
  clear HQ HF
  go_enter Tryd.func20, Tryd.ntmps20
  go_wp2_with (go_at_call 27; refine (index_calls Q.out F.out hl).mono ?_; rintro e w1 ⟨hb, hc⟩; have B1 := Aside0.mk hb; clear hb; rcases hc with ⟨rfl, h1⟩ | ⟨k, hk, rfl, h1, h2⟩)
  · go_ret
    refine ⟨L, f, rfl, Nat.le_refl _, F.out.keep B1.out, below_grown _ B1.out, ?_⟩
    rw [List.filter_eq_self.2]
    intro x hx
    obtain ⟨j, hj, rfl⟩ := List.mem_map.1 hx
    have := h1 j (List.mem_range.1 hj)
    simpa [stays] using this
  · refine wp_loop_rounds (L - (k + 1) + 1) ?_
    refine delete_loop (f := f) rfl Q.out hq hl ?_ (L - (k + 1)) k (k + 1) w1 f (by omega) (by omega) (F.out.keep B1.out) (below_grown _ B1.out) (fun _ _ _ => rfl) ?_
    · intro w' i h y2 y3 y7 y8 y9 y10 y11 y12 y13 y14 y15 y16 y17 y18 y19 y20 y21 y22 y23 y24 y25 y26 y27 y28 y29 y30 y31 y32 y33 y34 y35 y36 y37 y38 y39 y40 y41 hi hr hg H
      have HI := Aside0.mk hi
      have HR := Aside0.mk hr
      have HG := Aside0.mk hg
      have HH := Aside0.mk H
      by_cases hc : i < cap
      · obtain ⟨w5, hrun, hF5, hg5⟩ := orow_clear hr hi (cap - i) 0
        rw [Nat.mul_comm 5 i] at hrun
        have RC := Aside0.mk hrun
        have F5 := Aside0.mk hF5
        have G5 := Aside0.mk (grown_trans hg hg5)
        clear hr hg H hrun hF5 hg5
        go_wp2_with (first
          | (refine Great.wpList_runTo rfl none rfl (.tuple #[]) w5 (exec_clear rfl RC.out) ?_))
        go_ret
        exact ⟨i, h, rfl, hi, F5.out, G5.out, HH.out⟩
      · have e0 : L - i = 0 := by omega
        have RC := Aside0.mk (show (Builtin.clear_ #[29] 0 #[.slice (some ⟨g, 0, none⟩) 0 0]).run Tryd.prog w' = .ok (.tuple #[]) w' from by simp [Builtin.clear_, run_underlying Tryd.underlying29])
        have e1 : i = L := by omega
        have F5 := Aside0.mk (show RowO w' g M i h from e1 ▸ hr)
        have e2 : cap = i := by omega
        subst e2
        clear hr hg H e0 e1
        go_wp2_with (first
          | (refine Great.wpList_runTo rfl none rfl (.tuple #[]) w' (exec_clear rfl RC.out) ?_))
        go_ret
        exact ⟨_, h, rfl, hi, F5.out, HG.out, HH.out⟩
    · rw [List.range_succ, List.map_append, List.filter_append, List.filter_eq_self.2]
      · have e : stays tok (f k) = false := by simp [stays, h1]
        simp [e]
      · intro x hx
        obtain ⟨j, hj, rfl⟩ := List.mem_map.1 hx
        have := h2 j (List.mem_range.1 hj)
        simpa [stays] using this
end Go.Proofs.YtdfkbiffdcfnpaaDoor.H
/- Rows of orders as slices; an argument's orders. -/
namespace Go.Proofs.YtdfkbiffdcfnpaaDoor.H
open Go.RowKit Go.HK Go.Lib Go.WideShapes Go.ChangeShapes Go.Proofs.YtdfkbiffdcfnpaaDoorW.PrintWords Go.Proofs.YtdfkbiffdcfnpaaDoorW.PrintLast Go.Proofs.YtdfkbiffdcfnpaaDoorW.PrintMore
set_option linter.unusedVariables false
set_option linter.unusedSimpArgs false
abbrev OT : TypeId := 35
abbrev OS : TypeId := 29
abbrev o0 : O5 := (0, 0, 0, 0, 0)
abbrev flat5 (l : List O5) : List Value := l.flatMap c5
theorem infoO : ∃ i, Tryd.prog.info? OT = some i ∧ i.zero = some (ov 0 0 0 0 0) ∧ i.size = 5 ∧ i.bytes = 40 := by
  have h : (Tryd.prog.info? OT).map (fun i => (i.zero, i.size, i.bytes)) = some (some (ov 0 0 0 0 0), 5, 40) := by kernel_rfl
  obtain ⟨i, hi, e⟩ := Option.map_eq_some_iff.1 h
  injection e with e1 e2
  injection e2 with e2 e3
  exact ⟨i, hi, e1, e2, e3⟩
theorem flat5_len (l : List O5) : (flat5 l).length = l.length * 5 := by
  induction l with
  | nil => rfl
  | cons x l ih => simp [flat5] at ih ⊢; omega
theorem flat5_get {r : Nat} (hr : r < 5) : ∀ (l : List O5) (i : Nat), i < l.length → (flat5 l)[5 * i + r]? = (c5 (l.getD i o0))[r]? := by
  intro l
  induction l with
  | nil => intro i h; simp at h
  | cons x l ih =>
    intro i h
    have hc : flat5 (x :: l) = c5 x ++ flat5 l := rfl
    rw [hc]
    cases i with
    | zero => rw [List.getElem?_append_left (by simp; omega)]; simp
    | succ i =>
      rw [List.getElem?_append_right (by simp; omega)]
      have : 5 * (i + 1) + r - (c5 x).length = 5 * i + r := by simp; omega
      rw [this, ih i (by simpa using h)]
      simp
/-- v is a row of the orders l, in memory from B on. -/
def RowQ (w : World) (B : Nat) (v : Value) (l : List O5) : Prop := w.ownsRow B OT 5 v l.length (flat5 l)
section
variable {w w' : World} {B : Nat} {v : Value} {l : List O5}
theorem RowQ.nil (w : World) (B : Nat) : RowQ w B (.slice none 0 0) [] := World.ownsRow_nil _ _ _ _
theorem RowQ.own (h : RowQ w B v l) : ∀ k, v.ownBlock = some k → B ≤ k := by
  rcases h.2 with ⟨rfl, _⟩ | ⟨g, cap, cur, rfl, h2, _⟩
  · intro k e; cases e
  · intro k e; cases e; exact h2
theorem RowQ.lt (h : RowQ w B v l) : ∀ k, v.ownBlock = some k → k < w.heap.size := by
  intro k hk
  rcases h.2 with ⟨rfl, _⟩ | ⟨g, cap, cur, rfl, _, hg, _⟩
  · cases hk
  · cases hk
    exact blk_lt hg
theorem RowQ.move (h : RowQ w B v l) (e : ∀ k, v.ownBlock = some k → w'.heap[k]? = w.heap[k]?) : RowQ w' B v l := by
  refine ⟨h.1, ?_⟩
  rcases h.2 with h2 | ⟨g, cap, cur, rfl, hB, hg, r⟩
  · exact .inl h2
  · exact .inr ⟨g, cap, cur, rfl, hB, (e g rfl).trans hg, r⟩
theorem RowQ.keep (h : RowQ w B v l) (hb : Below w.heap.size w w') : RowQ w' B v l := h.move (fun k hk => hb.block k (h.lt k hk))
theorem RowQ.snoc {x : O5} (h : w.ownsRow B OT 5 v (l.length + 1) (flat5 l ++ c5 x)) : RowQ w B v (l ++ [x]) := by
  have e : flat5 (l ++ [x]) = flat5 l ++ c5 x := by simp [flat5, List.flatMap_append]
  unfold RowQ
  rw [List.length_append, e]
  exact h
theorem RowQ.fn (h : RowQ w B v l) : (v = .slice none 0 0 ∧ l = []) ∨ ∃ (g cap : Nat), v = .slice (some ⟨g, 0, none⟩) l.length cap ∧ B ≤ g ∧ l.length ≤ cap ∧ cap ≤ maxLen ∧ RowO w g (cap * 5) l.length (fun i => l.getD i o0) ∧ (List.range l.length).map (fun i => l.getD i o0) = l := by
  rcases h.2 with ⟨rfl, hz⟩ | ⟨g, cap, cur, rfl, hB, hg, r1, r2, r3, r4⟩
  · exact .inl ⟨rfl, List.eq_nil_of_length_eq_zero hz⟩
  · refine .inr ⟨g, cap, rfl, hB, r1, r2, ⟨cur, hg, r3, by omega, fun i hi r hr => ?_⟩, ?_⟩
    · have e1 : cur[5 * i + r]? = (flat5 l)[5 * i + r]? := by
        rw [← r4, List.getElem?_take_of_lt (by omega), Array.getElem?_toList]
      rw [e1]
      exact flat5_get hr l i hi
    · apply List.ext_getElem
      · simp
      · intro i h1 h2
        simp [List.getD_eq_getElem?_getD, List.getElem?_eq_getElem h2]
theorem RowQ.mk' {g cap i : Nat} {f : Nat → O5} (h : RowO w g (cap * 5) i f) (hB : B ≤ g) (hi : i ≤ cap) (hc : cap ≤ maxLen) : RowQ w B (.slice (some ⟨g, 0, none⟩) i cap) ((List.range i).map f) := by
  obtain ⟨C, h1, h2, h3, h4⟩ := h
  have e : ((List.range i).map f).length = i := by simp
  refine ⟨by rw [flat5_len], .inr ⟨g, cap, C, by rw [e], hB, h1, by rw [e]; exact hi, hc, h2, ?_⟩⟩
  rw [e]
  apply List.ext_getElem?
  intro j
  by_cases hj : j < i * 5
  · rw [List.getElem?_take_of_lt hj, Array.getElem?_toList]
    obtain ⟨k, r, rfl, hr⟩ : ∃ k r, j = 5 * k + r ∧ r < 5 := ⟨j / 5, j % 5, by omega, by omega⟩
    rw [h4 k (by omega) r hr, flat5_get hr _ k (by rw [e]; omega)]
    simp [List.getD_eq_getElem?_getD, show k < i by omega]
  · rw [List.getElem?_eq_none (by rw [List.length_take]; omega), List.getElem?_eq_none (by rw [flat5_len, e]; omega)]
/-- v tells the orders l, wherever they lie. -/
def ArgO (w : World) (v : Value) (l : List O5) : Prop := ∃ (o : Option Addr) (cap : Nat), v = .slice o l.length cap ∧ ∀ i, i < l.length → ∃ a, o = some a ∧ ∀ r, r < 5 → w.cell? (a.add (i * 5 + r)) = (c5 (l.getD i o0))[r]?
theorem c5_some (x : O5) {r : Nat} (hr : r < 5) : ∃ u, (c5 x)[r]? = some u := ⟨_, List.getElem?_eq_getElem (by simpa using hr)⟩
theorem ArgO.keep (h : ArgO w v l) (hb : Below w.heap.size w w') : ArgO w' v l := by
  obtain ⟨o, cap, rfl, h⟩ := h
  refine ⟨o, cap, rfl, fun i hi => ?_⟩
  obtain ⟨a, rfl, h2⟩ := h i hi
  refine ⟨a, rfl, fun r hr => ?_⟩
  obtain ⟨u, hu⟩ := c5_some (l.getD i o0) hr
  have hc := (h2 r hr).trans hu
  rw [hu]
  exact (hb.cell (World.block_lt_of_cell? w _ hc)).trans hc
theorem RowQ.arg (h : RowQ w B v l) : ArgO w v l := by
  rcases h.fn with ⟨rfl, rfl⟩ | ⟨g, cap, rfl, _, _, _, hF, _⟩
  · exact ⟨none, 0, rfl, fun i hi => absurd hi (Nat.not_lt_zero i)⟩
  · refine ⟨_, cap, rfl, fun i hi => ⟨_, rfl, fun r hr => ?_⟩⟩
    rw [Addr.add_mid, Nat.zero_add, Nat.mul_comm]
    exact hF.cell hi hr
end
theorem run_loadAt_any {P : Program} (w : World) (ad : Addr) (ty : TypeId) (cs : List Value) (d : TypeDesc) (hc : ∀ j v, cs[j]? = some v → w.cell? (ad.add j) = some v)
    (hu : P.underlying ty = some d) (hd : d.isRow = true) (hi : (P.info? ty).map (·.size) = some cs.length) : (Instr.loadAt ty (.pointer (some ad))).run P w = .ok (.agg cs.toArray) w := by
  have hl : (loadCells ad cs.length).run P w = .ok cs.toArray w := run_loadCells_list (P := P) w ad cs hc
  have hv : (loadVar ty ad).run P w = .ok (.agg cs.toArray) w := by
    cases hq : P.info? ty with
    | none => simp [hq] at hi
    | some i =>
      have hs : i.size = cs.length := by simpa [hq] using hi
      have hagg : (isAgg ty).run P w = .ok true w := by
        unfold isAgg
        rw [Sem.run_bind, run_underlying hu w]
        cases d <;> simp_all
      simp [loadVar, Sem.run_bind, hagg, sizeOf, typeInfo, hq, hs, hl]
  simp only [Instr.loadAt, Instr.sureAddr, Sem.run_bind, Sem.run_pure, Result.andThen_ok, hv]
theorem arg_load {w : World} {a : Addr} {i : Nat} {x : O5} (h : ∀ r, r < 5 → w.cell? (a.add (i * 5 + r)) = (c5 x)[r]?) : (Instr.loadAt OT (.pointer (some (a.add (i * 5))))).run Tryd.prog w = .ok (ox x) w :=
  run_loadAt_any (P := Tryd.prog) w (a.add (i * 5)) _ (c5 x) _ (fun j v hv => by
    have hj : j < 5 := (List.getElem?_eq_some_iff.1 hv).1
    rw [Go.Deep.add_add, h j hj]
    exact hv) Tryd.underlying35 rfl (by kernel_rfl)
theorem arg_index {w : World} {a : Addr} {L cap i : Nat} (hi : i < L) : (Instr.indexAt OS (.slice (some a) L cap) (.int .i64 i)).run Tryd.prog w = .ok (.pointer (some (a.add (i * 5)))) w := by
  have hs : (sizeOf OT).run Tryd.prog w = .ok 5 w := by kernel_rfl
  have hu := run_underlying Tryd.underlying29 w
  have hb : (0 : Int) ≤ (i : Int) ∧ (i : Int) < (L : Int) := by omega
  simp [Instr.indexAt, asIntOf, Sem.run_bind, hu, hs, Result.andThen, hb, hi]
/-- append(v, x): one more. -/
theorem omore {w : World} {gx base : Nat} {r : Value} {l : List O5} {x : O5} (hx : w.heap[gx]? = some (.cells (ocs x.1 x.2.1 x.2.2.1 x.2.2.2.1 x.2.2.2.2) OT (0, 0))) (hR : RowQ w base r l) (hb : base ≤ w.heap.size) (hl : l.length ≤ 1000) :
    ∃ v' w3, (Builtin.append_ #[OS, OS] OS #[r, .slice (some ⟨gx, 0, none⟩) 1 1]).run Tryd.prog w = .ok v' w3 ∧ RowQ w3 base v' (l ++ [x]) ∧ w.grownBy w3 r.ownBlock := by
  obtain ⟨i0, hi0, hz0, hz1, hz2⟩ := infoO
  obtain ⟨v', w3, h1, h2, h3, _, _⟩ := run_append_own_at (P := Tryd.prog) w base OS OS OT i0 (ov 0 0 0 0 0) 5 40 Tryd.underlying29 hi0 hz0 hz1 hz2 rfl (by decide) r l.length (flat5 l) hR ⟨gx, 0, none⟩ 1 1 (c5 x) rfl (fun j u hj => by
    rw [Addr.add_mid, blk_cell hx]
    simpa using hj) (fun u hu => by simp at hu; rcases hu with rfl | rfl | rfl | rfl | rfl <;> rfl) (by unfold maxLen; omega) (by omega) hb
  exact ⟨v', w3, h1, RowQ.snoc h2, h3⟩
theorem exec_append {P : Program} {ρ : Operand → Value} {o : Oper} {t : TypeId} {s x : Operand} (ho : o.op = Op.call { callee := Callee.builtin Builtin.append, args := #[s, x], argTypes := #[t, t] }) {w w' : World} {v : Value} (h : (Builtin.append_ #[t, t] o.type #[ρ s, ρ x]).run P w = .ok v w') : (execOp ρ o).run P w = .ok (.value v) w' := by
  unfold execOp
  simp [ho, resolve, invoke, builtin, h, Result.andThen]
/-- kept's orders, as they come. -/
def keptStep (kd : Int) (out : List O5) (x : O5) : List O5 := if x.1 = kd then out ++ [x] else if x.1 = 3 then out.filter (stays x.2.1) else out
def keptL (kd : Int) (l : List O5) : List O5 := l.foldl (keptStep kd) []
theorem keptStep_len (kd : Int) (out : List O5) (x : O5) : (keptStep kd out x).length ≤ out.length + 1 := by
  unfold keptStep
  split
  · simp
  · split
    · have := List.length_filter_le (stays x.2.1) out; omega
    · omega
theorem keptL_take {kd : Int} {l : List O5} {i : Nat} (hi : i < l.length) : keptL kd (l.take (i + 1)) = keptStep kd (keptL kd (l.take i)) (l.getD i o0) := by
  unfold keptL
  rw [List.take_add_one, List.foldl_append, List.getD_eq_getElem?_getD, List.getElem?_eq_getElem hi]
  rfl
theorem keptL_len (kd : Int) (l : List O5) (i : Nat) (hi : i ≤ l.length) : (keptL kd (l.take i)).length ≤ i := by
  induction i with
  | zero => simp [keptL]
  | succ i ih =>
    rw [keptL_take (by omega)]
    have := keptStep_len kd (keptL kd (l.take i)) (l.getD i o0)
    have := ih (by omega)
    omega
end Go.Proofs.YtdfkbiffdcfnpaaDoor.H
/- What span.Parse and cycle.Parse compute, over lists of bytes. -/
namespace Go.Proofs.YtdfkbiffdcfnpaaDoor.H
set_option linter.unusedVariables false
set_option linter.unusedSimpArgs false
def isDg (b : UInt8) : Bool := decide (48 ≤ b.toNat ∧ b.toNat ≤ 57)
def decV (l : List UInt8) : Nat := l.foldl (fun n b => n * 10 + (b.toNat - 48)) 0
/-- The digits that a text begins with. -/
def dgs (s : List UInt8) : List UInt8 := s.takeWhile isDg
/-- span's next: the number, the unit, the rest. -/
def spNext (s : List UInt8) : Nat × Nat × List UInt8 :=
  if (dgs s).length < 1 ∨ 15 < (dgs s).length ∨ (dgs s).length = s.length ∨ (s.headD 0 = 48 ∧ 1 < (dgs s).length) then (0, 0, [])
  else (decV (dgs s), ((s.drop (dgs s).length).headD 0).toNat, s.drop ((dgs s).length + 1))
/-- tick.Times, Held as span's more uses them. -/
def spMore (total n unit : Nat) : Nat :=
  if total + (if n * unit < 18446744073709551616 then n * unit else 1125899906842625) < 18446744073709551616 then total + (if n * unit < 18446744073709551616 then n * unit else 1125899906842625) else 18446744073709551615
def spPlace (u : Nat) : Int := if u = 72 then 0 else if u = 77 then 1 else if u = 83 then 2 else -1
def spUnit (p : Int) : Nat := if p = 0 then 3600 else if p = 1 then 60 else 1
def spEnd (total : Nat) : Nat × Int := if total > 1125899906842624 then (0, 3) else (total, 0)
/-- The parts behind T: k: 3 less the place of the last one. -/
def spParts : Nat → Int → Nat → List UInt8 → Nat × Int
  | 0, _, _, _ => (0, 2)
  | k + 1, last, total, s =>
    if spPlace (spNext s).2.1 ≤ last then (0, 2)
    else if (spNext s).2.2 = [] then spEnd (spMore total (spNext s).1 (spUnit (spPlace (spNext s).2.1)))
    else spParts k (spPlace (spNext s).2.1) (spMore total (spNext s).1 (spUnit (spPlace (spNext s).2.1))) (spNext s).2.2
def spTime (total : Nat) : List UInt8 → Nat × Int
  | [] => (0, 2)
  | b :: s => if b = 84 then spParts 4 (-1) total s else (0, 2)
def spDate (s : List UInt8) : Nat × Int :=
  if (spNext s).2.1 = 89 ∨ (spNext s).2.1 = 77 then (0, 4)
  else if (spNext s).2.1 = 87 then (if (spNext s).2.2 = [] then spEnd (spMore 0 (spNext s).1 604800) else (0, 2))
  else if (spNext s).2.1 = 68 then (if (spNext s).2.2 = [] then spEnd (spMore 0 (spNext s).1 86400) else spTime (spMore 0 (spNext s).1 86400) (spNext s).2.2)
  else (0, 2)
/-- span.Parse. -/
def spParse : List UInt8 → Nat × Int
  | [] => (0, 2)
  | b :: s => if b = 80 then (if s.headD 0 = 84 then spTime 0 s else spDate s) else (0, 2)
/-- cycle.Parse behind the R: number, whether there is a slash, what stands behind it. -/
def cyBody (num : List UInt8) (slash : Bool) (rest : List UInt8) : Int × Nat × Int :=
  if slash = true ∧ num = [] then (0, 0, 5)
  else if num.any (fun b => !isDg b) = true then (0, 0, 2)
  else if slash = false ∨ 7 < num.length ∨ num.headD 0 = 48 then (0, 0, 2)
  else if 1000000 < decV num then (0, 0, 3)
  else if (spParse rest).2 ≠ 0 then (0, 0, (spParse rest).2)
  else if (spParse rest).1 = 0 then (0, 0, 6)
  else (decV num, (spParse rest).1, 0)
/-- cycle.Parse: rounds, ticks, error. -/
def cyParse : List UInt8 → Int × Nat × Int
  | [] => (0, 0, 2)
  | b :: s => if b = 82 then cyBody (s.takeWhile (fun c => c != 47)) (s.contains 47) ((s.dropWhile (fun c => c != 47)).drop 1) else (0, 0, 2)
/-- graph's waits, of a node's kind and time: rounds, ticks, is there one. -/
def grWaits (kind : Int) (t : List UInt8) : Int × Nat × Bool :=
  if kind = 4 ∨ kind = 8 ∨ kind = 9 then
    if (spParse t).2 = 0 then (1, (spParse t).1, decide (0 < (spParse t).1))
    else if kind ≠ 9 ∨ (cyParse t).2.2 ≠ 0 ∨ 9 < (cyParse t).1 then (0, 0, false)
    else ((cyParse t).1, (cyParse t).2.1, true)
  else (0, 0, false)
/-- graph.Time's ticks. -/
def grTicks (kind : Int) (t : List UInt8) : Nat := if (grWaits kind t).2.2 = true then (grWaits kind t).2.1 else 0
theorem spNext_n (s : List UInt8) : (spNext s).1 < 1000000000000000 := by
  unfold spNext
  split
  · simp
  · rename_i h
    simp only [not_or] at h
    have key : ∀ (l : List UInt8) (a : Nat), (∀ b ∈ l, isDg b = true) → l.foldl (fun n b => n * 10 + (b.toNat - 48)) a < (a + 1) * 10 ^ l.length := by
      intro l
      induction l with
      | nil => intro a _; simp
      | cons b l ih =>
        intro a hb
        have h1 := hb b (by simp)
        simp only [isDg, decide_eq_true_eq] at h1
        refine Nat.lt_of_lt_of_le (ih (a * 10 + (b.toNat - 48)) (fun c hc => hb c (by simp [hc]))) ?_
        rw [List.length_cons, Nat.pow_succ, Nat.mul_comm (10 ^ l.length) 10, ← Nat.mul_assoc]
        exact Nat.mul_le_mul_right _ (by omega)
    have hd : ∀ b ∈ dgs s, isDg b = true := fun b hb => List.all_eq_true.1 List.all_takeWhile b hb
    have h1 := key (dgs s) 0 hd
    have h2 : 10 ^ (dgs s).length ≤ 10 ^ 15 := Nat.pow_le_pow_right (by omega) (by omega)
    show decV (dgs s) < _
    unfold decV
    omega
theorem spMore_lt (a b c : Nat) : spMore a b c < 18446744073709551616 := by
  unfold spMore
  generalize (if b * c < 18446744073709551616 then b * c else 1125899906842625) = x
  split <;> omega
theorem spNext_u (s : List UInt8) : (spNext s).2.1 < 256 := by
  unfold spNext
  split
  · simp
  · exact UInt8.toNat_lt _
theorem spPlace_le (u : Nat) : spPlace u ≤ 2 ∧ -1 ≤ spPlace u := by
  unfold spPlace
  split
  · omega
  · split
    · omega
    · split <;> omega
end Go.Proofs.YtdfkbiffdcfnpaaDoor.H
/- Rows of nodes and events as arguments; a node's class. -/
namespace Go.Proofs.YtdfkbiffdcfnpaaDoor.H
open Go.RowKit Go.HK Go.Lib Go.WideShapes Go.ChangeShapes Go.Proofs.YtdfkbiffdcfnpaaDoorW.PrintWords Go.Proofs.YtdfkbiffdcfnpaaDoorW.PrintLast Go.Proofs.YtdfkbiffdcfnpaaDoorW.PrintMore
set_option linter.unusedVariables false
set_option linter.unusedSimpArgs false
/-- A node: kind, scope, class, on, time. -/
abbrev N5 := Int × Int × Int × Int × ByteArray
abbrev n5 (x : N5) : List Value := [.int .i64 x.1, .int .i64 x.2.1, .int .i64 x.2.2.1, .int .i64 x.2.2.2.1, .string x.2.2.2.2]
abbrev nx0 : N5 := (0, 0, 0, 0, ⟨#[]⟩)
/-- An event: kind, in, node, token. -/
abbrev E4 := Int × Int × Int × Int
abbrev e4 (x : E4) : List Value := [.int .i64 x.1, .int .i64 x.2.1, .int .i64 x.2.2.1, .int .i64 x.2.2.2]
abbrev ex0 : E4 := (0, 0, 0, 0)
/-- v tells the nodes l, wherever they lie. -/
def ArgN (w : World) (v : Value) (l : List N5) : Prop := ∃ (o : Option Addr) (cap : Nat), v = .slice o l.length cap ∧ l.length ≤ cap ∧ ∀ i, i < l.length → ∃ a, o = some a ∧ ∀ r, r < 5 → w.cell? (a.add (i * 5 + r)) = (n5 (l.getD i nx0))[r]?
theorem n5_some (x : N5) {r : Nat} (hr : r < 5) : ∃ u, (n5 x)[r]? = some u := ⟨_, List.getElem?_eq_getElem (by simpa using hr)⟩
theorem ArgN.keep {w w' : World} {v : Value} {l : List N5} (h : ArgN w v l) (hb : Below w.heap.size w w') : ArgN w' v l := by
  obtain ⟨o, cap, rfl, h1, h⟩ := h
  refine ⟨o, cap, rfl, h1, fun i hi => ?_⟩
  obtain ⟨a, rfl, h2⟩ := h i hi
  refine ⟨a, rfl, fun r hr => ?_⟩
  obtain ⟨u, hu⟩ := n5_some (l.getD i nx0) hr
  have hc := (h2 r hr).trans hu
  rw [hu]
  exact (hb.cell (World.block_lt_of_cell? w _ hc)).trans hc
theorem n5_load {w : World} {a : Addr} {i : Nat} {x : N5} (h : ∀ r, r < 5 → w.cell? (a.add (i * 5 + r)) = (n5 x)[r]?) : (Instr.loadAt 45 (.pointer (some (a.add (i * 5))))).run Tryd.prog w = .ok (.agg #[.int .i64 x.1, .int .i64 x.2.1, .int .i64 x.2.2.1, .int .i64 x.2.2.2.1, .string x.2.2.2.2]) w :=
  run_loadAt_any (P := Tryd.prog) w (a.add (i * 5)) _ (n5 x) _ (fun j v hv => by
    have hj : j < 5 := (List.getElem?_eq_some_iff.1 hv).1
    rw [Go.Deep.add_add, h j hj]
    exact hv) Tryd.underlying45 rfl (by kernel_rfl)
theorem n5_index {w : World} {a : Addr} {L cap i : Nat} (hi : i < L) : (Instr.indexAt 22 (.slice (some a) L cap) (.int .i64 i)).run Tryd.prog w = .ok (.pointer (some (a.add (i * 5)))) w := by
  have hs : (sizeOf 45).run Tryd.prog w = .ok 5 w := by kernel_rfl
  have hu := run_underlying Tryd.underlying22 w
  have hb : (0 : Int) ≤ (i : Int) ∧ (i : Int) < (L : Int) := by omega
  simp [Instr.indexAt, asIntOf, Sem.run_bind, hu, hs, Result.andThen, hb, hi]
/-- v tells the events l, wherever they lie. -/
def ArgE (w : World) (v : Value) (l : List E4) : Prop := ∃ (o : Option Addr) (cap : Nat), v = .slice o l.length cap ∧ l.length ≤ cap ∧ ∀ i, i < l.length → ∃ a, o = some a ∧ ∀ r, r < 4 → w.cell? (a.add (i * 4 + r)) = (e4 (l.getD i ex0))[r]?
theorem e4_some (x : E4) {r : Nat} (hr : r < 4) : ∃ u, (e4 x)[r]? = some u := ⟨_, List.getElem?_eq_getElem (by simpa using hr)⟩
theorem ArgE.keep {w w' : World} {v : Value} {l : List E4} (h : ArgE w v l) (hb : Below w.heap.size w w') : ArgE w' v l := by
  obtain ⟨o, cap, rfl, h1, h⟩ := h
  refine ⟨o, cap, rfl, h1, fun i hi => ?_⟩
  obtain ⟨a, rfl, h2⟩ := h i hi
  refine ⟨a, rfl, fun r hr => ?_⟩
  obtain ⟨u, hu⟩ := e4_some (l.getD i ex0) hr
  have hc := (h2 r hr).trans hu
  rw [hu]
  exact (hb.cell (World.block_lt_of_cell? w _ hc)).trans hc
def kindOf (nodes : List N5) (n : Int) : N5 := if 1 ≤ n ∧ n ≤ nodes.length then nodes.getD (n.toNat - 1) nx0 else nx0
theorem gin_calls (a b c : Int) (w : World) :
    Calls Tryd.prog 24 #[.int .i64 a, .int .i64 b, .int .i64 c] w fun e w' => e = .returned (.bool (decide (b ≤ a ∧ a ≤ c))) ∧ w' = w := by
  by_cases h1 : b ≤ a
  · have e1 : decide (b ≤ a ∧ a ≤ c) = decide (a ≤ c) := by simp [h1]
    rw [e1]
    go_enter Tryd.func24, Tryd.ntmps24
    go_wp2
    go_ret
    exact ⟨rfl, rfl⟩
  · have e1 : decide (b ≤ a ∧ a ≤ c) = false := by simp [h1]
    rw [e1]
    go_enter Tryd.func24, Tryd.ntmps24
    go_wp2
    go_ret
    exact ⟨rfl, rfl⟩
abbrev defV (nm : ByteArray) (nv fv : Value) : Value := .agg #[.string nm, nv, fv]
abbrev nv5 (a b c d : Int) (t : ByteArray) : Array Value := #[.int .i64 a, .int .i64 b, .int .i64 c, .int .i64 d, .string t]
theorem node_store (w : World) (a b c d : Int) (t : ByteArray) : (Instr.storeAt 45 (.pointer (some ⟨w.heap.size, 0, none⟩)) (.agg (nv5 a b c d t))).run Tryd.prog (w.alloc (.cells (nv5 0 0 0 0 ⟨#[]⟩) 45)) = .ok () (w.alloc (.cells (nv5 a b c d t) 45)) :=
  run_storeAt_new w 45 (nv5 0 0 0 0 ⟨#[]⟩) (nv5 a b c d t) (by kernel_rfl) rfl (by simp [nv5, Value.oneCell'])
set_option maxRecDepth 100000 in
set_option maxHeartbeats 4000000 in
theorem at_calls {w : World} {nm : ByteArray} {nv fv : Value} {nodes : List N5} {n : Int} (HN : ArgN w nv nodes) (hn : nodes.length ≤ 1000) :
    Calls Tryd.prog 18 #[defV nm nv fv, .int .i64 n] w fun e w' => e = .returned (.tuple #[.agg (n5 (kindOf nodes n)).toArray, .bool (decide (1 ≤ n ∧ n ≤ (nodes.length : Int)))]) ∧ Below w.heap.size w w' := by
  have HN2 := HN
  obtain ⟨o, cap, rfl, h1, hx⟩ := HN2
  have BL := Aside0.mk ((Below.refl w.heap.size w).alloc (Nat.le_refl _) (.cells #[.string nm, .slice o nodes.length cap, fv] 25))
  have HS1 : Aside0 ((w.alloc (.cells #[.string nm, .slice o nodes.length cap, fv] 25)).heap.size = w.heap.size + 1) := ⟨World.size_alloc _ _⟩
  have hB2 : ∀ cs : Array Value, Below w.heap.size w ((w.alloc (.cells #[.string nm, .slice o nodes.length cap, fv] 25)).alloc (.cells cs 45)) := fun cs => ((Below.refl w.heap.size w).alloc (Nat.le_refl _) _).alloc (by rw [World.size_alloc]; omega) _
  have HB2 := Aside0.mk hB2
  by_cases c1 : 1 ≤ n ∧ n ≤ nodes.length
  · have e : kindOf nodes n = nodes.getD (n.toNat - 1) nx0 := by unfold kindOf; rw [if_pos c1]
    rw [e]
    obtain ⟨_, _, e2, _, hx⟩ := HN.keep (hB2 (nv5 0 0 0 0 ⟨#[]⟩))
    injection e2 with e3 e4 e5
    subst e3
    obtain ⟨a, rfl, hc⟩ := hx (n.toNat - 1) (by omega)
    have hw : wrap64 (n - 1) = ((n.toNat - 1 : Nat) : Int) := by unfold wrap64; omega
    have hin : n.toNat - 1 < nodes.length := by omega
    have hd : decide (1 ≤ n ∧ n ≤ (nodes.length : Int)) = true := decide_eq_true c1
    rw [hd]
    generalize nodes.getD (n.toNat - 1) nx0 = x at *
    generalize n.toNat - 1 = i at *
    obtain ⟨x1, x2, x3, x4, x5⟩ := x
    have hwI : IntKind.i64.wrap (n - 1) = (i : Int) := (i64_w _).trans hw
    have IX := Aside0.mk (fun (v : World) => n5_index (w := v) (a := a) (cap := cap) hin)
    have LD := Aside0.mk (n5_load hc)
    have ST := Aside0.mk (node_store (w.alloc (.cells #[.string nm, .slice (some a) nodes.length cap, fv] 25)) x1 x2 x3 x4 x5)
    rw [HS1.out] at ST
    have NG := Aside0.mk (heap_alloc_last (w.alloc (.cells #[.string nm, .slice (some a) nodes.length cap, fv] 25)) (.cells (nv5 x1 x2 x3 x4 x5) 45))
    rw [HS1.out] at NG
    have HD := Aside0.mk hd
    clear hc HN e h1 hx e4 e5 c1 hd hB2 hn hin
    go_enter Tryd.func18, Tryd.ntmps18
    go_wp2_with (first
      | (go_at_call 24; refine (gin_calls _ _ _ _).mono ?_; rintro e1 w1 ⟨rfl, rfl⟩; rw [HD.out])
      | (refine Great.wpList_readTo rfl (some 17) rfl (.pointer (some (a.add (i * 5)))) (exec_indexAddr rfl (IX.out _)) ?_)
      | (refine Great.wpList_readTo rfl (some 18) rfl (.agg (nv5 x1 x2 x3 x4 x5)) (exec_load rfl LD.out) ?_)
      | (refine wpList_doTo rfl _ (exec_store rfl ST.out) ?_))
    refine bodyPost_ret (results_ct rfl _ _ (w.heap.size + 1) 45 (nv5 x1 x2 x3 x4 x5) (0, 0) _ rfl NG.out Tryd.underlying45 rfl (by kernel_rfl)) rfl ?_
    exact ⟨rfl, HB2.out _⟩
  · have e : kindOf nodes n = nx0 := by unfold kindOf; rw [if_neg c1]
    rw [e]
    have hd : decide (1 ≤ n ∧ n ≤ (nodes.length : Int)) = false := decide_eq_false c1
    rw [hd]
    have ST := Aside0.mk (node_store (w.alloc (.cells #[.string nm, .slice o nodes.length cap, fv] 25)) 0 0 0 0 ⟨#[]⟩)
    rw [HS1.out] at ST
    have NG := Aside0.mk (heap_alloc_last (w.alloc (.cells #[.string nm, .slice o nodes.length cap, fv] 25)) (.cells (nv5 0 0 0 0 ⟨#[]⟩) 45))
    rw [HS1.out] at NG
    have HD := Aside0.mk hd
    clear HN e hx h1 hd c1 hB2 hn
    go_enter Tryd.func18, Tryd.ntmps18
    go_wp2_with (first
      | (go_at_call 24; refine (gin_calls _ _ _ _).mono ?_; rintro e1 w1 ⟨rfl, rfl⟩; rw [HD.out])
      | (refine wpList_doTo rfl _ (exec_store rfl ST.out) ?_))
    refine bodyPost_ret (results_ct rfl _ _ (w.heap.size + 1) 45 (nv5 0 0 0 0 ⟨#[]⟩) (0, 0) _ rfl NG.out Tryd.underlying45 rfl (by kernel_rfl)) rfl ?_
    exact ⟨rfl, HB2.out _⟩
end Go.Proofs.YtdfkbiffdcfnpaaDoor.H
/- graph.at: for the printed kinds. -/
namespace Go.Proofs.YtdfkbiffdcfnpaaDoor.H
open Go.RowKit Go.HK Go.Lib Go.WideShapes Go.ChangeShapes Go.Proofs.YtdfkbiffdcfnpaaDoorW.PrintWords Go.Proofs.YtdfkbiffdcfnpaaDoorW.PrintLast Go.Proofs.YtdfkbiffdcfnpaaDoorW.PrintMore
set_option linter.unusedVariables false
set_option linter.unusedSimpArgs false
abbrev SN := S45
abbrev kN := k45
def on5 (x : SN) : N5 := (x.f0, x.f1, x.f2, x.f3, x.f4)
theorem argN_of {w : World} {A : Option Addr} {c : Nat} {l : List SN} (h : Kd.C kN w A l.length l) (hc : l.length ≤ c) : ArgN w (.slice A l.length c) (l.map on5) := by
  refine ⟨A, c, by rw [List.length_map], by rw [List.length_map]; exact hc, fun i hi => ?_⟩
  rw [List.length_map] at hi
  obtain ⟨ad, e, hc⟩ := h.2.2 (by omega)
  obtain ⟨cs, h1, h2, h3⟩ := hc i _ (List.getElem?_eq_getElem hi)
  refine ⟨ad, e, fun r hr => ?_⟩
  have hs : cs = n5 (on5 l[i]) := k45_open h2
  have hg : (l.map on5).getD i nx0 = on5 l[i] := by rw [List.getD_eq_getElem?_getD, List.getElem?_map, List.getElem?_eq_getElem hi]; rfl
  rw [hg, ← hs]
  obtain ⟨u, hu⟩ := n5_some (on5 l[i]) hr
  rw [← hs] at hu
  rw [hu]
  exact h3 r u hu
end Go.Proofs.YtdfkbiffdcfnpaaDoor.H
-- Written by hp.py (a program of this session, over the kit's print.py), with hand-made contracts beside it.
namespace Go.Proofs.YtdfkbiffdcfnpaaDoor.H
open Go.RowKit Go.Proofs.YtdfkbiffdcfnpaaDoorW.PrintWords Go.Proofs.YtdfkbiffdcfnpaaDoorW.PrintLast Go.Proofs.YtdfkbiffdcfnpaaDoorW.PrintMore
attribute [local go_sem] max2_int min2_int max_two min_two max_three min_three max_four min_four   -- for this text's walks alone
set_option linter.unusedVariables false
set_option linter.unusedSimpArgs false

-- HANDMADE remontoir/graph.at
/-! ### graph_at: function 18 -/
def graph_at.f (a0_0 : ByteArray) (l0_1 : List (S45)) (l0_2 : List (S47)) (a1 : Int) : Option (Int × Int × Int × Int × ByteArray × Bool) :=
  if l0_1.length ≤ 1000 then some ((kindOf (l0_1.map on5) a1).1, (kindOf (l0_1.map on5) a1).2.1, (kindOf (l0_1.map on5) a1).2.2.1, (kindOf (l0_1.map on5) a1).2.2.2.1, (kindOf (l0_1.map on5) a1).2.2.2.2, decide (1 ≤ a1 ∧ a1 ≤ ((l0_1.map on5).length : Int))) else none
theorem graph_at.calls (a0_0 : ByteArray) (A0_1 : Option Addr) (c0_1 : Nat) (l0_1 : List (S45)) (A0_2 : Option Addr) (c0_2 : Nat) (l0_2 : List (S47)) (a1 : Int) (r1 : Int) (r2 : Int) (r3 : Int) (r4 : Int) (r5 : ByteArray) (r6 : Bool) (w : World) (hr0_1 : Kd.C k45 w A0_1 l0_1.length l0_1) (hc0_1 : l0_1.length ≤ c0_1) (hr0_2 : Kd.C k47 w A0_2 l0_2.length l0_2) (hc0_2 : l0_2.length ≤ c0_2) (h : graph_at.f a0_0 l0_1 l0_2 a1 = some (r1, r2, r3, r4, r5, r6)) :
    Calls Tryd.prog 18 #[.agg #[.string a0_0, .slice A0_1 l0_1.length c0_1, .slice A0_2 l0_2.length c0_2], .int .i64 a1] w fun e w' => e = .returned (.tuple #[.agg #[.int .i64 r1, .int .i64 r2, .int .i64 r3, .int .i64 r4, .string r5], .bool r6]) ∧ Below w.heap.size w w' := by
  unfold graph_at.f at h
  by_cases hl : l0_1.length ≤ 1000
  · rw [if_pos hl] at h
    simp only [Option.some.injEq, Prod.mk.injEq] at h
    obtain ⟨rfl, rfl, rfl, rfl, rfl, rfl⟩ := h
    exact at_calls (argN_of hr0_1 hc0_1) (by rw [List.length_map]; exact hl)
  · rw [if_neg hl] at h
    cases h


end Go.Proofs.YtdfkbiffdcfnpaaDoor.H
/- The shelf's contracts at this dump, in plain words (lay-plain.mjs), only those that are used. -/
namespace Go.Proofs
open Go.Shelf
def Tryd.lays137_ren : Go.Shelf.Ren := ⟨fun | 137 => 43 | 217 => 57 | 266 => 65 | n => n, fun | 9 => 9 | 5 => 5 | 3 => 3 | n => n, fun | n => n⟩
theorem Tryd.lays137 : Go.Proofs.Lays.n137 Tryd.prog Tryd.lays137_ren := {
  mixed := by kernel_rfl
  f137 := Tryd.func43.trans (congrArg some (by kernel_rfl))
  f217 := Tryd.func57.trans (congrArg some (by kernel_rfl))
  f266 := Tryd.func65.trans (congrArg some (by kernel_rfl))
  t3 := Tryd.underlying3
  a3 := Tryd.isAgg3
  z3 := Tryd.sizeOf3
  v3 := Tryd.zeroValue3
  t5 := Tryd.underlying5
  a5 := Tryd.isAgg5
  z5 := Tryd.sizeOf5
  v5 := Tryd.zeroValue5
  t9 := Tryd.underlying9
  a9 := Tryd.isAgg9
  z9 := Tryd.sizeOf9
  v9 := Tryd.zeroValue9 }
open Go.RowKit in
theorem Tryd.strings_IndexByte (s : ByteArray) (c : Int) (w : World) :
    Calls Tryd.prog 43 #[.string s, .int .u8 c] w fun e w' => e = .returned (.int .i64 (Lib.indexByte s.data.toList c.toNat.toUInt8)) ∧ w' = w := Any.strings_IndexByte Tryd.lays137 s c w
def Tryd.lays103_ren : Go.Shelf.Ren := ⟨fun | 103 => 39 | 210 => 52 | 206 => 53 | n => n, fun | 9 => 9 | 4 => 4 | 24 => 83 | 3 => 3 | n => n, fun | n => n⟩
theorem Tryd.lays103 : Go.Proofs.Lays.n103 Tryd.prog Tryd.lays103_ren := {
  mixed := by kernel_rfl
  f103 := Tryd.func39.trans (congrArg some (by kernel_rfl))
  f206 := Tryd.func53.trans (congrArg some (by kernel_rfl))
  f210 := Tryd.func52.trans (congrArg some (by kernel_rfl))
  t3 := Tryd.underlying3
  a3 := Tryd.isAgg3
  z3 := Tryd.sizeOf3
  v3 := Tryd.zeroValue3
  t4 := Tryd.underlying4
  a4 := Tryd.isAgg4
  z4 := Tryd.sizeOf4
  v4 := Tryd.zeroValue4
  t9 := Tryd.underlying9
  a9 := Tryd.isAgg9
  z9 := Tryd.sizeOf9
  v9 := Tryd.zeroValue9
  t24 := Tryd.underlying83
  a24 := Tryd.isAgg83
  z24 := Tryd.sizeOf83
  v24 := Tryd.zeroValue83 }
open Go.RowKit in
theorem Tryd.strings_CutPrefix (s p : ByteArray) (w : World) :
    Calls Tryd.prog 39 #[.string s, .string p] w fun e w' => e = .returned (.tuple #[.string ⟨(Lib.trimPrefix s.data.toList p.data.toList).toArray⟩, .bool (Lib.hasPrefix s.data.toList p.data.toList)]) ∧ w' = w := Any.strings_CutPrefix Tryd.lays103 s p w
def Tryd.lays172_ren : Go.Shelf.Ren := ⟨fun | 172 => 45 | 244 => 59 | 245 => 60 | 247 => 67 | 279 => 68 | 280 => 69 | 281 => 70 | 282 => 71 | 287 => 62 | 316 => 78 | 171 => 80 | 205 => 79 | 321 => 72 | 322 => 73 | 243 => 82 | 246 => 83 | 283 => 84 | 284 => 85 | 285 => 86 | 286 => 87 | 129 => 38 | 317 => 88 | 318 => 89 | 319 => 90 | 320 => 91 | 337 => 92 | 338 => 93 | n => n, fun | 9 => 9 | 3 => 3 | 75 => 94 | 76 => 95 | 4 => 4 | 5 => 5 | 167 => 116 | 37 => 117 | 0 => 0 | 85 => 118 | 2 => 2 | 168 => 120 | 53 => 33 | 175 => 104 | 46 => 63 | 210 => 129 | 127 => 134 | 145 => 137 | 143 => 135 | 21 => 21 | 171 => 139 | 173 => 141 | 212 => 144 | 51 => 81 | 20 => 20 | 213 => 145 | 232 => 146 | 233 => 147 | 80 => 148 | n => n, fun | 15 => 1 | 16 => 2 | 17 => 3 | 18 => 4 | 19 => 5 | n => n⟩
theorem Tryd.lays172 : Go.Proofs.Lays.n172 Tryd.prog Tryd.lays172_ren := {
  mixed := by kernel_rfl
  f129 := Tryd.func38.trans (congrArg some (by kernel_rfl))
  f171 := Tryd.func80.trans (congrArg some (by kernel_rfl))
  f172 := Tryd.func45.trans (congrArg some (by kernel_rfl))
  f205 := Tryd.func79.trans (congrArg some (by kernel_rfl))
  f243 := Tryd.func82.trans (congrArg some (by kernel_rfl))
  f244 := Tryd.func59.trans (congrArg some (by kernel_rfl))
  f245 := Tryd.func60.trans (congrArg some (by kernel_rfl))
  f246 := Tryd.func83.trans (congrArg some (by kernel_rfl))
  f247 := Tryd.func67.trans (congrArg some (by kernel_rfl))
  f279 := Tryd.func68.trans (congrArg some (by kernel_rfl))
  f280 := Tryd.func69.trans (congrArg some (by kernel_rfl))
  f281 := Tryd.func70.trans (congrArg some (by kernel_rfl))
  f282 := Tryd.func71.trans (congrArg some (by kernel_rfl))
  f283 := Tryd.func84.trans (congrArg some (by kernel_rfl))
  f284 := Tryd.func85.trans (congrArg some (by kernel_rfl))
  f285 := Tryd.func86.trans (congrArg some (by kernel_rfl))
  f286 := Tryd.func87.trans (congrArg some (by kernel_rfl))
  f287 := Tryd.func62.trans (congrArg some (by kernel_rfl))
  f316 := Tryd.func78.trans (congrArg some (by kernel_rfl))
  f317 := Tryd.func88.trans (congrArg some (by kernel_rfl))
  f318 := Tryd.func89.trans (congrArg some (by kernel_rfl))
  f319 := Tryd.func90.trans (congrArg some (by kernel_rfl))
  f320 := Tryd.func91.trans (congrArg some (by kernel_rfl))
  f321 := Tryd.func72.trans (congrArg some (by kernel_rfl))
  f322 := Tryd.func73.trans (congrArg some (by kernel_rfl))
  f337 := Tryd.func92.trans (congrArg some (by kernel_rfl))
  f338 := Tryd.func93.trans (congrArg some (by kernel_rfl))
  t0 := Tryd.underlying0
  a0 := Tryd.isAgg0
  z0 := Tryd.sizeOf0
  v0 := Tryd.zeroValue0
  t2 := Tryd.underlying2
  a2 := Tryd.isAgg2
  z2 := Tryd.sizeOf2
  v2 := Tryd.zeroValue2
  t3 := Tryd.underlying3
  a3 := Tryd.isAgg3
  z3 := Tryd.sizeOf3
  v3 := Tryd.zeroValue3
  t4 := Tryd.underlying4
  a4 := Tryd.isAgg4
  z4 := Tryd.sizeOf4
  v4 := Tryd.zeroValue4
  t5 := Tryd.underlying5
  a5 := Tryd.isAgg5
  z5 := Tryd.sizeOf5
  v5 := Tryd.zeroValue5
  t9 := Tryd.underlying9
  a9 := Tryd.isAgg9
  z9 := Tryd.sizeOf9
  v9 := Tryd.zeroValue9
  t20 := Tryd.underlying20
  a20 := Tryd.isAgg20
  z20 := Tryd.sizeOf20
  v20 := Tryd.zeroValue20
  t21 := Tryd.underlying21
  a21 := Tryd.isAgg21
  z21 := Tryd.sizeOf21
  v21 := Tryd.zeroValue21
  t37 := Tryd.underlying117
  a37 := Tryd.isAgg117
  z37 := Tryd.sizeOf117
  v37 := Tryd.zeroValue117
  t46 := Tryd.underlying63
  a46 := Tryd.isAgg63
  z46 := Tryd.sizeOf63
  v46 := Tryd.zeroValue63
  t51 := Tryd.underlying81
  a51 := Tryd.isAgg81
  z51 := Tryd.sizeOf81
  v51 := Tryd.zeroValue81
  t53 := Tryd.underlying33
  a53 := Tryd.isAgg33
  z53 := Tryd.sizeOf33
  v53 := Tryd.zeroValue33
  t75 := Tryd.underlying94
  a75 := Tryd.isAgg94
  z75 := Tryd.sizeOf94
  v75 := Tryd.zeroValue94
  t76 := Tryd.underlying95
  a76 := Tryd.isAgg95
  z76 := Tryd.sizeOf95
  v76 := Tryd.zeroValue95
  t85 := Tryd.underlying118
  a85 := Tryd.isAgg118
  z85 := Tryd.sizeOf118
  v85 := Tryd.zeroValue118
  t127 := Tryd.underlying134
  a127 := Tryd.isAgg134
  z127 := Tryd.sizeOf134
  v127 := Tryd.zeroValue134
  t143 := Tryd.underlying135
  a143 := Tryd.isAgg135
  z143 := Tryd.sizeOf135
  v143 := Tryd.zeroValue135
  t145 := Tryd.underlying137
  a145 := Tryd.isAgg137
  z145 := Tryd.sizeOf137
  v145 := Tryd.zeroValue137
  t167 := Tryd.underlying116
  a167 := Tryd.isAgg116
  z167 := Tryd.sizeOf116
  v167 := Tryd.zeroValue116
  t168 := Tryd.underlying120
  a168 := Tryd.isAgg120
  z168 := Tryd.sizeOf120
  v168 := Tryd.zeroValue120
  t171 := Tryd.underlying139
  a171 := Tryd.isAgg139
  z171 := Tryd.sizeOf139
  v171 := Tryd.zeroValue139
  t173 := Tryd.underlying141
  a173 := Tryd.isAgg141
  z173 := Tryd.sizeOf141
  v173 := Tryd.zeroValue141
  t175 := Tryd.underlying104
  a175 := Tryd.isAgg104
  z175 := Tryd.sizeOf104
  v175 := Tryd.zeroValue104
  t210 := Tryd.underlying129
  a210 := Tryd.isAgg129
  z210 := Tryd.sizeOf129
  v210 := Tryd.zeroValue129
  t212 := Tryd.underlying144
  a212 := Tryd.isAgg144
  z212 := Tryd.sizeOf144
  v212 := Tryd.zeroValue144
  t213 := Tryd.underlying145
  a213 := Tryd.isAgg145
  z213 := Tryd.sizeOf145
  t232 := Tryd.underlying146
  a232 := Tryd.isAgg146
  z232 := Tryd.sizeOf146
  v232 := Tryd.zeroValue146
  t233 := Tryd.underlying147
  a233 := Tryd.isAgg147
  z233 := Tryd.sizeOf147
  v233 := Tryd.zeroValue147
  g15 := by kernel_rfl
  g16 := by kernel_rfl
  g17 := by kernel_rfl
  g18 := by kernel_rfl
  g19 := by kernel_rfl }
open Go.RowKit in
theorem Tryd.strconv_Atoi (s : ByteArray) (n : Int) (hl : s.size ≤ 18) (h : Lib.atoi s.data.toList = some n) (w : World) :
    Calls Tryd.prog 45 #[.string s] w fun e w' => e = .returned (.tuple #[.int .i64 n, .nilIface]) ∧ ∃ t, w' = Lib.bytesWorld w 5 t := Any.strconv_Atoi Tryd.lays172 s n hl h w
def Tryd.laysPu14_ren : Go.Shelf.Ren := ⟨fun | 14 => 54 | 16 => 62 | 17 => 60 | 19 => 72 | 20 => 73 | 21 => 68 | 22 => 69 | 23 => 70 | 24 => 71 | 25 => 78 | 27 => 80 | 26 => 79 | 28 => 82 | 29 => 83 | 30 => 84 | 31 => 85 | 32 => 86 | 33 => 87 | 35 => 38 | 34 => 88 | 36 => 89 | 37 => 90 | 38 => 91 | 39 => 92 | 40 => 93 | n => n, fun | 9 => 9 | 3 => 3 | 22 => 33 | 24 => 94 | 25 => 104 | 4 => 4 | 34 => 116 | 5 => 5 | 36 => 63 | 37 => 117 | 0 => 0 | 39 => 120 | 21 => 21 | 44 => 129 | 47 => 134 | 50 => 137 | 48 => 135 | 2 => 2 | 52 => 139 | 55 => 141 | 59 => 144 | 60 => 81 | 20 => 20 | 61 => 145 | 65 => 146 | 66 => 147 | 67 => 148 | n => n, fun | 0 => 1 | 1 => 2 | 2 => 3 | 3 => 4 | 4 => 5 | n => n⟩
theorem Tryd.laysPu14 : Go.Proofs.LaysPu.n14 Tryd.prog Tryd.laysPu14_ren := {
  mixed := by kernel_rfl
  f14 := Tryd.func54.trans (congrArg some (by kernel_rfl))
  f16 := Tryd.func62.trans (congrArg some (by kernel_rfl))
  f17 := Tryd.func60.trans (congrArg some (by kernel_rfl))
  f19 := Tryd.func72.trans (congrArg some (by kernel_rfl))
  f20 := Tryd.func73.trans (congrArg some (by kernel_rfl))
  f21 := Tryd.func68.trans (congrArg some (by kernel_rfl))
  f22 := Tryd.func69.trans (congrArg some (by kernel_rfl))
  f23 := Tryd.func70.trans (congrArg some (by kernel_rfl))
  f24 := Tryd.func71.trans (congrArg some (by kernel_rfl))
  f25 := Tryd.func78.trans (congrArg some (by kernel_rfl))
  f26 := Tryd.func79.trans (congrArg some (by kernel_rfl))
  f27 := Tryd.func80.trans (congrArg some (by kernel_rfl))
  f28 := Tryd.func82.trans (congrArg some (by kernel_rfl))
  f29 := Tryd.func83.trans (congrArg some (by kernel_rfl))
  f30 := Tryd.func84.trans (congrArg some (by kernel_rfl))
  f31 := Tryd.func85.trans (congrArg some (by kernel_rfl))
  f32 := Tryd.func86.trans (congrArg some (by kernel_rfl))
  f33 := Tryd.func87.trans (congrArg some (by kernel_rfl))
  f34 := Tryd.func88.trans (congrArg some (by kernel_rfl))
  f35 := Tryd.func38.trans (congrArg some (by kernel_rfl))
  f36 := Tryd.func89.trans (congrArg some (by kernel_rfl))
  f37 := Tryd.func90.trans (congrArg some (by kernel_rfl))
  f38 := Tryd.func91.trans (congrArg some (by kernel_rfl))
  f39 := Tryd.func92.trans (congrArg some (by kernel_rfl))
  f40 := Tryd.func93.trans (congrArg some (by kernel_rfl))
  t0 := Tryd.underlying0
  a0 := Tryd.isAgg0
  z0 := Tryd.sizeOf0
  v0 := Tryd.zeroValue0
  i0 := by kernel_rfl
  t2 := Tryd.underlying2
  a2 := Tryd.isAgg2
  z2 := Tryd.sizeOf2
  v2 := Tryd.zeroValue2
  i2 := by kernel_rfl
  t3 := Tryd.underlying3
  a3 := Tryd.isAgg3
  z3 := Tryd.sizeOf3
  v3 := Tryd.zeroValue3
  i3 := by kernel_rfl
  t4 := Tryd.underlying4
  a4 := Tryd.isAgg4
  z4 := Tryd.sizeOf4
  v4 := Tryd.zeroValue4
  i4 := by kernel_rfl
  t5 := Tryd.underlying5
  a5 := Tryd.isAgg5
  z5 := Tryd.sizeOf5
  v5 := Tryd.zeroValue5
  i5 := by kernel_rfl
  t9 := Tryd.underlying9
  a9 := Tryd.isAgg9
  z9 := Tryd.sizeOf9
  v9 := Tryd.zeroValue9
  i9 := by kernel_rfl
  t20 := Tryd.underlying20
  a20 := Tryd.isAgg20
  z20 := Tryd.sizeOf20
  v20 := Tryd.zeroValue20
  i20 := by kernel_rfl
  t21 := Tryd.underlying21
  a21 := Tryd.isAgg21
  z21 := Tryd.sizeOf21
  v21 := Tryd.zeroValue21
  i21 := by kernel_rfl
  t22 := Tryd.underlying33
  a22 := Tryd.isAgg33
  z22 := Tryd.sizeOf33
  v22 := Tryd.zeroValue33
  i22 := by kernel_rfl
  t24 := Tryd.underlying94
  a24 := Tryd.isAgg94
  z24 := Tryd.sizeOf94
  v24 := Tryd.zeroValue94
  i24 := by kernel_rfl
  t25 := Tryd.underlying104
  a25 := Tryd.isAgg104
  z25 := Tryd.sizeOf104
  v25 := Tryd.zeroValue104
  i25 := by kernel_rfl
  t34 := Tryd.underlying116
  a34 := Tryd.isAgg116
  z34 := Tryd.sizeOf116
  v34 := Tryd.zeroValue116
  i34 := by kernel_rfl
  c34 := by kernel_rfl
  t36 := Tryd.underlying63
  a36 := Tryd.isAgg63
  z36 := Tryd.sizeOf63
  v36 := Tryd.zeroValue63
  i36 := by kernel_rfl
  t37 := Tryd.underlying117
  a37 := Tryd.isAgg117
  z37 := Tryd.sizeOf117
  v37 := Tryd.zeroValue117
  i37 := by kernel_rfl
  t39 := Tryd.underlying120
  a39 := Tryd.isAgg120
  z39 := Tryd.sizeOf120
  v39 := Tryd.zeroValue120
  i39 := by kernel_rfl
  t44 := Tryd.underlying129
  a44 := Tryd.isAgg129
  z44 := Tryd.sizeOf129
  v44 := Tryd.zeroValue129
  i44 := by kernel_rfl
  t47 := Tryd.underlying134
  a47 := Tryd.isAgg134
  z47 := Tryd.sizeOf134
  v47 := Tryd.zeroValue134
  i47 := by kernel_rfl
  t48 := Tryd.underlying135
  a48 := Tryd.isAgg135
  z48 := Tryd.sizeOf135
  v48 := Tryd.zeroValue135
  i48 := by kernel_rfl
  t50 := Tryd.underlying137
  a50 := Tryd.isAgg137
  z50 := Tryd.sizeOf137
  v50 := Tryd.zeroValue137
  i50 := by kernel_rfl
  t52 := Tryd.underlying139
  a52 := Tryd.isAgg139
  z52 := Tryd.sizeOf139
  v52 := Tryd.zeroValue139
  i52 := by kernel_rfl
  t55 := Tryd.underlying141
  a55 := Tryd.isAgg141
  z55 := Tryd.sizeOf141
  v55 := Tryd.zeroValue141
  i55 := by kernel_rfl
  t59 := Tryd.underlying144
  a59 := Tryd.isAgg144
  z59 := Tryd.sizeOf144
  v59 := Tryd.zeroValue144
  i59 := by kernel_rfl
  t60 := Tryd.underlying81
  a60 := Tryd.isAgg81
  z60 := Tryd.sizeOf81
  v60 := Tryd.zeroValue81
  i60 := by kernel_rfl
  t61 := Tryd.underlying145
  a61 := Tryd.isAgg145
  z61 := Tryd.sizeOf145
  t65 := Tryd.underlying146
  a65 := Tryd.isAgg146
  z65 := Tryd.sizeOf146
  v65 := Tryd.zeroValue146
  i65 := by kernel_rfl
  t66 := Tryd.underlying147
  a66 := Tryd.isAgg147
  z66 := Tryd.sizeOf147
  v66 := Tryd.zeroValue147
  i66 := by kernel_rfl
  t67 := Tryd.underlying148
  a67 := Tryd.isAgg148
  z67 := Tryd.sizeOf148
  v67 := Tryd.zeroValue148
  i67 := by kernel_rfl
  g0 := by kernel_rfl
  m0 := by kernel_rfl
  g1 := by kernel_rfl
  m1 := by kernel_rfl
  g2 := by kernel_rfl
  m2 := by kernel_rfl
  g3 := by kernel_rfl
  m3 := by kernel_rfl
  g4 := by kernel_rfl
  m4 := by kernel_rfl }
open Go.RowKit in
theorem Tryd.strconv_ParseUint_10_at64_ok (s : ByteArray) (hmax : s.size ≤ 9223372036854775806) (u : Nat) (h : Lib.parseUintB 64 s.data.toList = .ok u) (w : World) :
    Calls Tryd.prog 54 #[.string s, .int .i64 10, .int .i64 64] w fun e w' => e = .returned (.tuple #[.int .u64 u, .nilIface]) ∧ (w' = w ∨ w' = Lib.bytesWorld w 5 s) := Any.strconv_ParseUint_10_at64_ok Tryd.laysPu14 s hmax u h w
def Tryd.lays219_ren : Go.Shelf.Ren := ⟨fun | 219 => 66 | 217 => 57 | 225 => 75 | 224 => 76 | 267 => 77 | 266 => 65 | 314 => 81 | n => n, fun | 9 => 9 | 3 => 3 | 4 => 4 | 5 => 5 | 46 => 63 | 146 => 132 | 51 => 81 | n => n, fun | 1 => 0 | n => n⟩
theorem Tryd.lays219 : Go.Proofs.Lays.n219 Tryd.prog Tryd.lays219_ren := {
  mixed := by kernel_rfl
  f217 := Tryd.func57.trans (congrArg some (by kernel_rfl))
  f219 := Tryd.func66.trans (congrArg some (by kernel_rfl))
  f224 := Tryd.func76.trans (congrArg some (by kernel_rfl))
  f225 := Tryd.func75.trans (congrArg some (by kernel_rfl))
  f266 := Tryd.func65.trans (congrArg some (by kernel_rfl))
  f267 := Tryd.func77.trans (congrArg some (by kernel_rfl))
  f314 := Tryd.func81.trans (congrArg some (by kernel_rfl))
  t3 := Tryd.underlying3
  a3 := Tryd.isAgg3
  z3 := Tryd.sizeOf3
  v3 := Tryd.zeroValue3
  t4 := Tryd.underlying4
  a4 := Tryd.isAgg4
  z4 := Tryd.sizeOf4
  v4 := Tryd.zeroValue4
  t5 := Tryd.underlying5
  a5 := Tryd.isAgg5
  z5 := Tryd.sizeOf5
  v5 := Tryd.zeroValue5
  t9 := Tryd.underlying9
  a9 := Tryd.isAgg9
  z9 := Tryd.sizeOf9
  v9 := Tryd.zeroValue9
  t46 := Tryd.underlying63
  a46 := Tryd.isAgg63
  z46 := Tryd.sizeOf63
  v46 := Tryd.zeroValue63
  t51 := Tryd.underlying81
  a51 := Tryd.isAgg81
  z51 := Tryd.sizeOf81
  v51 := Tryd.zeroValue81
  t146 := Tryd.underlying132
  a146 := Tryd.isAgg132
  z146 := Tryd.sizeOf132
  v146 := Tryd.zeroValue132
  g1 := by kernel_rfl }
open Go.RowKit Go.Lib in
theorem Tryd.stringslite_Index_one (s : ByteArray) (c : UInt8) (w : World) :
    Calls Tryd.prog 66 #[.string s, .string ⟨#[c]⟩] w fun e w' => e = .returned (.int .i64 (Lib.indexByte s.data.toList c)) ∧ w' = w := Any.stringslite_Index_one Tryd.lays219 s c w
def Tryd.lays189_ren : Go.Shelf.Ren := ⟨fun | 189 => 16 | 125 => 23 | 257 => 22 | 128 => 37 | 129 => 38 | 294 => 28 | 295 => 29 | 296 => 30 | 297 => 31 | 298 => 32 | 299 => 33 | 216 => 34 | 300 => 35 | 301 => 36 | 328 => 46 | 329 => 47 | 330 => 48 | 331 => 49 | 332 => 50 | 215 => 51 | 343 => 61 | n => n, fun | 28 => 38 | 3 => 3 | 46 => 63 | 0 => 0 | 51 => 81 | 53 => 33 | 4 => 4 | 183 => 73 | 182 => 72 | 131 => 78 | 5 => 5 | 9 => 9 | 218 => 97 | 222 => 101 | 228 => 110 | 229 => 111 | n => n, fun | n => n⟩
theorem Tryd.lays189 : Go.Proofs.Lays.n189 Tryd.prog Tryd.lays189_ren := {
  mixed := by kernel_rfl
  f125 := Tryd.func23.trans (congrArg some (by kernel_rfl))
  f128 := Tryd.func37.trans (congrArg some (by kernel_rfl))
  f129 := Tryd.func38.trans (congrArg some (by kernel_rfl))
  f189 := Tryd.func16.trans (congrArg some (by kernel_rfl))
  f215 := Tryd.func51.trans (congrArg some (by kernel_rfl))
  f216 := Tryd.func34.trans (congrArg some (by kernel_rfl))
  f257 := Tryd.func22.trans (congrArg some (by kernel_rfl))
  f294 := Tryd.func28.trans (congrArg some (by kernel_rfl))
  f295 := Tryd.func29.trans (congrArg some (by kernel_rfl))
  f296 := Tryd.func30.trans (congrArg some (by kernel_rfl))
  f297 := Tryd.func31.trans (congrArg some (by kernel_rfl))
  f298 := Tryd.func32.trans (congrArg some (by kernel_rfl))
  f299 := Tryd.func33.trans (congrArg some (by kernel_rfl))
  f300 := Tryd.func35.trans (congrArg some (by kernel_rfl))
  f301 := Tryd.func36.trans (congrArg some (by kernel_rfl))
  f328 := Tryd.func46.trans (congrArg some (by kernel_rfl))
  f329 := Tryd.func47.trans (congrArg some (by kernel_rfl))
  f330 := Tryd.func48.trans (congrArg some (by kernel_rfl))
  f331 := Tryd.func49.trans (congrArg some (by kernel_rfl))
  f332 := Tryd.func50.trans (congrArg some (by kernel_rfl))
  f343 := Tryd.func61.trans (congrArg some (by kernel_rfl))
  t0 := Tryd.underlying0
  a0 := Tryd.isAgg0
  z0 := Tryd.sizeOf0
  v0 := Tryd.zeroValue0
  t3 := Tryd.underlying3
  a3 := Tryd.isAgg3
  z3 := Tryd.sizeOf3
  v3 := Tryd.zeroValue3
  t4 := Tryd.underlying4
  a4 := Tryd.isAgg4
  z4 := Tryd.sizeOf4
  v4 := Tryd.zeroValue4
  t5 := Tryd.underlying5
  a5 := Tryd.isAgg5
  z5 := Tryd.sizeOf5
  v5 := Tryd.zeroValue5
  t9 := Tryd.underlying9
  a9 := Tryd.isAgg9
  z9 := Tryd.sizeOf9
  v9 := Tryd.zeroValue9
  t28 := Tryd.underlying38
  a28 := Tryd.isAgg38
  z28 := Tryd.sizeOf38
  v28 := Tryd.zeroValue38
  t46 := Tryd.underlying63
  a46 := Tryd.isAgg63
  z46 := Tryd.sizeOf63
  v46 := Tryd.zeroValue63
  t51 := Tryd.underlying81
  a51 := Tryd.isAgg81
  z51 := Tryd.sizeOf81
  v51 := Tryd.zeroValue81
  t53 := Tryd.underlying33
  a53 := Tryd.isAgg33
  z53 := Tryd.sizeOf33
  v53 := Tryd.zeroValue33
  t131 := Tryd.underlying78
  a131 := Tryd.isAgg78
  z131 := Tryd.sizeOf78
  v131 := Tryd.zeroValue78
  t182 := Tryd.underlying72
  a182 := Tryd.isAgg72
  z182 := Tryd.sizeOf72
  v182 := Tryd.zeroValue72
  t183 := Tryd.underlying73
  a183 := Tryd.isAgg73
  z183 := Tryd.sizeOf73
  v183 := Tryd.zeroValue73
  t218 := Tryd.underlying97
  a218 := Tryd.isAgg97
  z218 := Tryd.sizeOf97
  v218 := Tryd.zeroValue97
  t222 := Tryd.underlying101
  a222 := Tryd.isAgg101
  z222 := Tryd.sizeOf101
  v222 := Tryd.zeroValue101
  t228 := Tryd.underlying110
  a228 := Tryd.isAgg110
  z228 := Tryd.sizeOf110
  v228 := Tryd.zeroValue110
  t229 := Tryd.underlying111
  a229 := Tryd.isAgg111
  z229 := Tryd.sizeOf111
  v229 := Tryd.zeroValue111 }
open Go.Sort Go.RowKit in
theorem Tryd.slices_Sort_int (blk off cap : Nat) (zs : List Int) (w : World) (hH : Holds (Value.int .i64) w blk off zs.toArray) (hblk : blk < w.heap.size) (hsz : zs.length < 4611686018427387904) :
    Calls Tryd.prog 16 #[.slice (some ⟨blk, off, none⟩) zs.length cap] w fun e w' =>
      e = .returned (.tuple #[]) ∧ ∃ n os, w' = grow (putRow (Value.int .i64) (Sort.ahead w n) blk off (zs.mergeSort fun x y => decide (x ≤ y)).toArray) os := Any.slices_Sort_int Tryd.lays189 blk off cap zs w hH hblk hsz
def Tryd.lays99_ren : Go.Shelf.Ren := ⟨fun | 99 => 40 | 206 => 53 | n => n, fun | 9 => 9 | 4 => 4 | 3 => 3 | n => n, fun | n => n⟩
theorem Tryd.lays99 : Go.Proofs.Lays.n99 Tryd.prog Tryd.lays99_ren := {
  mixed := by kernel_rfl
  f99 := Tryd.func40.trans (congrArg some (by kernel_rfl))
  f206 := Tryd.func53.trans (congrArg some (by kernel_rfl))
  t3 := Tryd.underlying3
  a3 := Tryd.isAgg3
  z3 := Tryd.sizeOf3
  v3 := Tryd.zeroValue3
  t4 := Tryd.underlying4
  a4 := Tryd.isAgg4
  z4 := Tryd.sizeOf4
  v4 := Tryd.zeroValue4
  t9 := Tryd.underlying9
  a9 := Tryd.isAgg9
  z9 := Tryd.sizeOf9
  v9 := Tryd.zeroValue9 }
open Go.RowKit Go.Lib in
theorem Tryd.strings_HasPrefix (s p : ByteArray) (w : World) :
    Calls Tryd.prog 40 #[.string s, .string p] w fun e w' => e = .returned (.bool (Lib.hasPrefix s.data.toList p.data.toList)) ∧ w' = w := Any.strings_HasPrefix Tryd.lays99 s p w
def Tryd.lays264_ren : Go.Shelf.Ren := ⟨fun | 264 => 63 | n => n, fun | 53 => 33 | 46 => 63 | n => n, fun | n => n⟩
theorem Tryd.lays264 : Go.Proofs.Lays.n264 Tryd.prog Tryd.lays264_ren := {
  mixed := by kernel_rfl
  f264 := Tryd.func63.trans (congrArg some (by kernel_rfl))
  t46 := Tryd.underlying63
  a46 := Tryd.isAgg63
  z46 := Tryd.sizeOf63
  v46 := Tryd.zeroValue63
  t53 := Tryd.underlying33
  a53 := Tryd.isAgg33
  z53 := Tryd.sizeOf33
  v53 := Tryd.zeroValue33 }
open Go.RowKit Go.Lib in
theorem Tryd.bits_Mul64 (x y : Nat) (hx : x < 18446744073709551616) (hy : y < 18446744073709551616) (w : World) :
    Calls Tryd.prog 63 #[.int .u64 x, .int .u64 y] w fun e w' => e = .returned (.tuple #[.int .u64 ((x * y / 18446744073709551616 : Nat) : Int), .int .u64 ((x * y % 18446744073709551616 : Nat) : Int)]) ∧ w' = w := Any.bits_Mul64 Tryd.lays264 x y hx hy w
def Tryd.laysNm220_ren : Go.Shelf.Ren := ⟨fun | 20 => 17 | n => n, fun | 22 => 38 | 3 => 3 | 4 => 4 | 0 => 0 | n => n, fun | n => n⟩
theorem Tryd.laysNm220 : Go.Proofs.Lays2.n20 Tryd.prog Tryd.laysNm220_ren := {
  mixed := by kernel_rfl
  f20 := Tryd.func17.trans (congrArg some (by kernel_rfl))
  t0 := Tryd.underlying0
  a0 := Tryd.isAgg0
  z0 := Tryd.sizeOf0
  v0 := Tryd.zeroValue0
  t3 := Tryd.underlying3
  a3 := Tryd.isAgg3
  z3 := Tryd.sizeOf3
  v3 := Tryd.zeroValue3
  t4 := Tryd.underlying4
  a4 := Tryd.isAgg4
  z4 := Tryd.sizeOf4
  v4 := Tryd.zeroValue4
  t22 := Tryd.underlying38
  a22 := Tryd.isAgg38
  z22 := Tryd.sizeOf38
  v22 := Tryd.zeroValue38
  i3 := by kernel_rfl }
open Go.RowKit Go.Lib Go.Sort in
theorem Tryd.slices_Compact_int (blk off cap : Nat) (zs : List Int) (w : World) (hH : Holds (Value.int .i64) w blk off zs.toArray) (hsz : zs.length ≤ 9223372036854775807) (hcap : zs.length ≤ cap) :
    Calls Tryd.prog 17 #[.slice (some ⟨blk, off, none⟩) zs.length cap] w fun e w' => e = .returned (.slice (some ⟨blk, off, none⟩) (Lib.compact zs).length cap) ∧ ∃ q, w' = putRow (Value.int .i64) (Sort.ahead w q) blk off (Lib.compact zs ++ List.replicate (zs.length - (Lib.compact zs).length) 0).toArray := Any.slices_Compact_int Tryd.laysNm220 blk off cap zs w hH hsz hcap
open Go.RowKit Go.Lib Go.Sort in
theorem Tryd.slices_Compact_int_empty (a : Option Addr) (cap : Nat) (w : World) :
    Calls Tryd.prog 17 #[.slice a 0 cap] w fun e w' => e = .returned (.slice a 0 cap) ∧ w' = w := Any.slices_Compact_int_empty Tryd.laysNm220 a cap w
open Go.RowKit Go.Sort in
theorem Tryd.slices_Sort_int_none (p : Option Addr) (cap : Nat) (w : World) :
    Calls Tryd.prog 16 #[.slice p 0 cap] w fun e w' => e = .returned (.tuple #[]) ∧ w' = w := Any.slices_Sort_int_none Tryd.lays189 p cap w
end Go.Proofs
/- Digits: what strconv makes of them. -/
namespace Go.Proofs.YtdfkbiffdcfnpaaDoor.H
set_option linter.unusedVariables false
set_option linter.unusedSimpArgs false
theorem isDg_iff (b : UInt8) : isDg b = true ↔ 48 ≤ b.toNat ∧ b.toNat ≤ 57 := by unfold isDg; exact decide_eq_true_iff
theorem uint_dgs : ∀ (l : List UInt8) (acc : Nat), (∀ b ∈ l, isDg b = true) → (acc + 1) * 10 ^ l.length ≤ 10 ^ 15 → Lib.parseUintM (2 ^ 64 - 1) acc l = .ok (l.foldl (fun n b => n * 10 + (b.toNat - 48)) acc)
  | [], acc, _, _ => rfl
  | b :: l, acc, h, hl => by
    have hb := (isDg_iff b).1 (h b (by simp))
    have hp : 1 ≤ 10 ^ l.length := Nat.one_le_pow _ _ (by omega)
    have h1 : acc + 1 ≤ 10 ^ 15 := by
      refine Nat.le_trans ?_ hl
      exact Nat.le_mul_of_pos_right _ (Nat.pow_pos (by omega))
    have h3 : (acc * 10 + (b.toNat - 48) + 1) * 10 ^ l.length ≤ 10 ^ 15 := by
      refine Nat.le_trans ?_ hl
      rw [List.length_cons, Nat.pow_succ, Nat.mul_comm (10 ^ l.length) 10, ← Nat.mul_assoc]
      exact Nat.mul_le_mul_right _ (by omega)
    unfold Lib.parseUintM
    rw [if_pos hb, if_neg (by omega), if_neg (by omega), uint_dgs l _ (fun c hc => h c (by simp [hc])) h3]
    rfl
theorem parse_dgs {l : List UInt8} (h : ∀ b ∈ l, isDg b = true) (h1 : l ≠ []) (h2 : l.length ≤ 15) : Lib.parseUintB 64 l = .ok (decV l) := by
  unfold Lib.parseUintB
  rw [if_neg h1, uint_dgs l 0 h (by rw [Nat.zero_add, Nat.one_mul]; exact Nat.pow_le_pow_right (by omega) h2)]
  rfl
theorem decFrom_dgs : ∀ (l : List UInt8) (acc : Nat), (∀ b ∈ l, isDg b = true) → Lib.decFrom acc l = some (l.foldl (fun n b => n * 10 + (b.toNat - 48)) acc)
  | [], acc, _ => rfl
  | b :: l, acc, h => by
    have hb := (isDg_iff b).1 (h b (by simp))
    simp only [Lib.decFrom, Lib.digitVal, if_pos hb]
    exact decFrom_dgs l _ (fun c hc => h c (by simp [hc]))
theorem atoi_dgs {l : List UInt8} (h : ∀ b ∈ l, isDg b = true) (h1 : l ≠ []) : Lib.atoi l = some (decV l : Int) := by
  cases l with
  | nil => exact absurd rfl h1
  | cons b r =>
    have hb := (isDg_iff b).1 (h b (by simp))
    have n1 : (b == 45) = false := by rw [beq_eq_false_iff_ne]; rintro rfl; exact absurd hb.1 (by decide)
    have n2 : (b == 43) = false := by rw [beq_eq_false_iff_ne]; rintro rfl; exact absurd hb.1 (by decide)
    simp [Lib.atoi, n1, n2, Lib.decNat, decFrom_dgs _ 0 h, decV]
theorem dgs_all (s : List UInt8) : ∀ b ∈ dgs s, isDg b = true := fun b hb => List.all_eq_true.1 List.all_takeWhile b hb
theorem dgs_take (s : List UInt8) : s.take (dgs s).length = dgs s := List.prefix_iff_eq_take.1 (List.takeWhile_prefix _) |>.symm
theorem dgs_le (s : List UInt8) : (dgs s).length ≤ s.length := (List.takeWhile_prefix _).length_le
/-- The loop's test at place k. -/
theorem dgs_go : ∀ (s : List UInt8) (k : Nat), k ≤ (dgs s).length → ((∃ h : k < s.length, isDg s[k] = true) ↔ k < (dgs s).length)
  | [], k, _ => by simp [dgs]
  | b :: s, 0, _ => by
    unfold dgs
    simp only [List.takeWhile, List.length_cons, List.getElem_cons_zero]
    cases h : isDg b <;> simp
  | b :: s, k + 1, hk => by
    unfold dgs at hk ⊢
    rw [List.takeWhile_cons] at hk ⊢
    cases h : isDg b
    · rw [h] at hk; simp at hk
    · rw [h] at hk
      simp only [if_true, List.length_cons] at hk ⊢
      have ih := dgs_go s k (by unfold dgs; omega)
      unfold dgs at ih
      simp only [List.getElem_cons_succ]
      constructor
      · rintro ⟨h1, h2⟩
        have := ih.1 ⟨by omega, h2⟩
        omega
      · intro h1
        obtain ⟨h2, h3⟩ := ih.2 (by omega)
        exact ⟨by omega, h3⟩
end Go.Proofs.YtdfkbiffdcfnpaaDoor.H
/- tick's sums and products; span's more. -/
namespace Go.Proofs.YtdfkbiffdcfnpaaDoor.H
open Go.RowKit Go.HK Go.Lib Go.WideShapes Go.ChangeShapes Go.Proofs.YtdfkbiffdcfnpaaDoorW.PrintWords Go.Proofs.YtdfkbiffdcfnpaaDoorW.PrintLast Go.Proofs.YtdfkbiffdcfnpaaDoorW.PrintMore
set_option linter.unusedVariables false
set_option linter.unusedSimpArgs false
set_option maxRecDepth 100000 in
theorem times_calls (a b : Nat) (ha : a < 18446744073709551616) (hb : b < 18446744073709551616) (w : World) :
    Calls Tryd.prog 55 #[.int .u64 a, .int .u64 b] w fun e w' => e = .returned (.tuple #[.int .u64 ((if a * b < 18446744073709551616 then a * b else 0 : Nat) : Int), .bool (decide (a * b < 18446744073709551616))]) ∧ w' = w := by
  have M := Aside0.mk (Tryd.bits_Mul64 a b ha hb w)
  by_cases h : a * b < 18446744073709551616
  · rw [if_pos h, decide_eq_true h]
    rw [Nat.div_eq_of_lt h, Nat.mod_eq_of_lt h] at M
    generalize a * b = p at *
    go_enter Tryd.func55, Tryd.ntmps55
    go_wp2_with (go_at_call 63; refine M.out.mono ?_; rintro e1 w1 ⟨rfl, rfl⟩)
    go_ret2
    exact ⟨rfl, rfl⟩
  · rw [if_neg h, decide_eq_false h]
    have q : a * b / 18446744073709551616 ≠ 0 := by omega
    generalize a * b / 18446744073709551616 = hi at *
    have hd : ((hi : Int) == 0) = false := by simp; omega
    have hd2 : ((hi : Int) != 0) = true := by simp; omega
    generalize a * b % 18446744073709551616 = lo at *
    clear h q
    go_enter Tryd.func55, Tryd.ntmps55
    go_wp2_with (go_at_call 63; refine M.out.mono ?_; rintro e1 w1 ⟨rfl, rfl⟩)
    go_ret2
    exact ⟨rfl, rfl⟩
theorem add64_run (x y : Nat) (w : World) : (callFunc 74 #[.int .u64 x, .int .u64 y, .int .u64 0]).run Tryd.prog w = .ok (.value (.tuple #[.int .u64 (((x + y) % 18446744073709551616 : Nat) : Int), .int .u64 (((x + y) / 18446744073709551616 : Nat) : Int)])) w := by
  rw [run_callFunc_extern Tryd.func74 (by kernel_rfl) (by kernel_rfl) (by kernel_rfl) (e := add64Entry) (by kernel_rfl), run_add64 x y 0 (by omega) (by omega) (by omega) (by omega)]
  simp only [Result.andThen]
  congr 5 <;> omega
set_option maxRecDepth 100000 in
theorem sum_calls (a b : Nat) (ha : a < 18446744073709551616) (hb : b < 18446744073709551616) (w : World) :
    Calls Tryd.prog 64 #[.int .u64 a, .int .u64 b] w fun e w' => e = .returned (.tuple #[.int .u64 ((if a + b < 18446744073709551616 then a + b else 0 : Nat) : Int), .bool (decide (a + b < 18446744073709551616))]) ∧ w' = w := by
  have M := Aside0.mk (add64_run a b w)
  by_cases h : a + b < 18446744073709551616
  · rw [if_pos h, decide_eq_true h]
    rw [Nat.div_eq_of_lt h, Nat.mod_eq_of_lt h] at M
    generalize a + b = p at *
    go_enter Tryd.func64, Tryd.ntmps64
    go_wp2
    rw [M.out, Oper.upon_value]
    go_wp2
    go_ret2
    exact ⟨rfl, rfl⟩
  · rw [if_neg h, decide_eq_false h]
    have q : (a + b) / 18446744073709551616 ≠ 0 := by omega
    generalize (a + b) / 18446744073709551616 = hi at *
    have hd : ((hi : Int) == 0) = false := by simp; omega
    have hd2 : ((hi : Int) != 0) = true := by simp; omega
    generalize (a + b) % 18446744073709551616 = lo at *
    clear h q
    go_enter Tryd.func64, Tryd.ntmps64
    go_wp2
    rw [M.out, Oper.upon_value]
    go_wp2
    go_ret2
    exact ⟨rfl, rfl⟩
def heldF (a b : Nat) : Nat := if a + b < 18446744073709551616 then a + b else 18446744073709551615
set_option maxRecDepth 100000 in
theorem held_calls (a b : Nat) (ha : a < 18446744073709551616) (hb : b < 18446744073709551616) (w : World) :
    Calls Tryd.prog 56 #[.int .u64 a, .int .u64 b] w fun e w' => e = .returned (.int .u64 (heldF a b)) ∧ w' = w := by
  have M := Aside0.mk (sum_calls a b ha hb w)
  unfold heldF
  by_cases h : a + b < 18446744073709551616
  · rw [if_pos h]
    rw [if_pos h, decide_eq_true h] at M
    generalize a + b = p at *
    go_enter Tryd.func56, Tryd.ntmps56
    go_wp2_with (go_at_call 64; refine M.out.mono ?_; rintro e1 w1 ⟨rfl, rfl⟩)
    go_ret
    exact ⟨rfl, rfl⟩
  · rw [if_neg h]
    rw [if_neg h, decide_eq_false h] at M
    go_enter Tryd.func56, Tryd.ntmps56
    go_wp2_with (go_at_call 64; refine M.out.mono ?_; rintro e1 w1 ⟨rfl, rfl⟩)
    go_ret
    exact ⟨rfl, rfl⟩
set_option maxRecDepth 100000 in
theorem more_calls (t n u : Nat) (ht : t < 18446744073709551616) (hn : n < 18446744073709551616) (hu : u < 18446744073709551616) (w : World) :
    Calls Tryd.prog 42 #[.int .u64 t, .int .u64 n, .int .u64 u] w fun e w' => e = .returned (.int .u64 (spMore t n u)) ∧ w' = w := by
  have M := Aside0.mk (times_calls n u hn hu w)
  by_cases h : n * u < 18446744073709551616
  · have e : spMore t n u = heldF t (n * u) := by unfold spMore heldF; simp only [if_pos h]
    rw [e]
    rw [if_pos h, decide_eq_true h] at M
    generalize n * u = p at *
    have M2 := Aside0.mk (held_calls t p ht h w)
    go_enter Tryd.func42, Tryd.ntmps42
    go_wp2_with (first
      | (go_at_call 55; refine M.out.mono ?_; rintro e1 w1 ⟨rfl, rfl⟩)
      | (go_at_call 56; with_reducible refine M2.out.mono ?_; rintro e1 w1 ⟨rfl, rfl⟩))
    go_ret
    exact ⟨rfl, rfl⟩
  · have e : spMore t n u = heldF t 1125899906842625 := by unfold spMore heldF; simp only [if_neg h]
    rw [e]
    rw [if_neg h, decide_eq_false h] at M
    have M1 : Aside0 (Calls Tryd.prog 56 #[.int .u64 1125899906842624, .int .u64 1] w fun e w' => e = .returned (.int .u64 1125899906842625) ∧ w' = w) := ⟨by
      have q := held_calls 1125899906842624 1 (by omega) (by omega) w
      rw [show heldF 1125899906842624 1 = 1125899906842625 by unfold heldF; rw [if_pos (by omega)]] at q
      simpa using q⟩
    have M2 : Aside0 (Calls Tryd.prog 56 #[.int .u64 t, .int .u64 1125899906842625] w fun e w' => e = .returned (.int .u64 (heldF t 1125899906842625)) ∧ w' = w) := ⟨by
      have q := held_calls t 1125899906842625 ht (by omega) w
      simpa using q⟩
    go_enter Tryd.func42, Tryd.ntmps42
    go_wp2_with (first
      | (go_at_call 55; refine M.out.mono ?_; rintro e1 w1 ⟨rfl, rfl⟩)
      | (go_at_call 56; with_reducible refine M2.out.mono ?_; rintro e1 w1 ⟨rfl, rfl⟩)
      | (go_at_call 56; with_reducible refine M1.out.mono ?_; rintro e1 w1 ⟨rfl, rfl⟩))
    go_ret
    exact ⟨rfl, rfl⟩
end Go.Proofs.YtdfkbiffdcfnpaaDoor.H
/- span's next: the number that a text begins with. -/
namespace Go.Proofs.YtdfkbiffdcfnpaaDoor.H
open Go.RowKit Go.HK Go.Lib Go.WideShapes Go.ChangeShapes Go.Proofs.YtdfkbiffdcfnpaaDoorW.PrintWords Go.Proofs.YtdfkbiffdcfnpaaDoorW.PrintLast Go.Proofs.YtdfkbiffdcfnpaaDoorW.PrintMore
set_option linter.unusedVariables false
set_option linter.unusedSimpArgs false
theorem guard_read {P : Program} {ops : Array Oper} {rest : List Oper} {o : Oper} {a : Act} {w : World} {Q : Exit → Act → World → Prop} (dst : Option Tmp) (hdst : o.dst = dst)
    (v : Value) (hrun : (execOp a.eval o).run P w = .ok (.value v) w) (hw : Region.wanted o (yielded ops a.tmps) = true) (h : wpList P ops Q rest (a.put dst v) w) : wpList P ops Q (o :: rest) a w := by
  subst hdst
  refine wpList_step fun K hK => ?_
  rw [if_pos hw]
  unfold Oper.wp
  rw [hrun, Oper.upon_value]
  exact hK _ _ h
/-- A text's byte. -/
def sb (s : ByteArray) (k : Nat) : Nat := (s.data.toList.getD k 0).toNat
theorem slen (s : ByteArray) : s.data.toList.length = s.size := by rw [Array.length_toList]; rfl
theorem sidx {s : ByteArray} {k : Nat} (h : k < s.size) (w : World) : (Instr.index 9 (.string s) (.int .i64 k)).run Tryd.prog w = .ok (.int .u8 (sb s k)) w := by
  rw [run_index_string w _ s .i64 k Tryd.underlying9, dif_pos (by omega)]
  have hl := slen s
  congr 2
  unfold sb
  rw [List.getD_eq_getElem?_getD, List.getElem?_eq_getElem (by omega)]
  simp
  rfl
theorem exec_index2 {P : Program} {ρ : Operand → Value} {o : Oper} {t : TypeId} {a x : Operand} (ho : o.op = .index t a x) {w w' : World} {v : Value} (h : (Instr.index t (ρ a) (ρ x)).run P w = .ok v w') : (execOp ρ o).run P w = .ok (.value v) w' := by
  unfold execOp
  rw [ho]
  simp only [Sem.run_bind, h, Result.andThen]
  rfl
theorem sx_take (s : ByteArray) (k : Nat) : (s.extract 0 k).data.toList = s.data.toList.take k := by
  rw [ByteArray.data_extract, Array.toList_extract, List.extract_eq_take_drop]; simp
theorem sx_drop (s : ByteArray) (k : Nat) : (s.extract k s.size).data.toList = s.data.toList.drop k := by
  have hl := slen s
  rw [ByteArray.data_extract, Array.toList_extract, List.extract_eq_take_drop, List.take_of_length_le]
  rw [List.length_drop]; omega
theorem sb_dg {s : ByteArray} {k : Nat} (h : k < (dgs s.data.toList).length) : k < s.size ∧ 48 ≤ sb s k ∧ sb s k ≤ 57 := by
  have hl := slen s
  obtain ⟨h1, h2⟩ := (dgs_go s.data.toList k (by omega)).2 h
  have h3 := (isDg_iff _).1 h2
  unfold sb
  rw [List.getD_eq_getElem?_getD, List.getElem?_eq_getElem h1]
  exact ⟨by omega, h3⟩
theorem sb_no {s : ByteArray} {k : Nat} (h : k = (dgs s.data.toList).length) : s.size ≤ k ∨ (k < s.size ∧ (sb s k < 48 ∨ 57 < sb s k)) := by
  have hl := slen s
  rcases Nat.lt_or_ge k s.size with h1 | h1
  · refine .inr ⟨h1, ?_⟩
    have h2 : ¬ isDg (s.data.toList[k]'(by omega)) = true := fun q => by
      have := (dgs_go s.data.toList k (by omega)).1 ⟨by omega, q⟩
      omega
    rw [isDg_iff] at h2
    unfold sb
    rw [List.getD_eq_getElem?_getD, List.getElem?_eq_getElem (by omega)]
    simp only [Option.getD_some]
    omega
  · exact .inl h1
theorem next_body {c0 c1 c2 body : Code} {z0 : Nat}  {c0' c1' c2' body' : Code} {z0' : Nat}  (h : Tryd.f41.body = some (.seq c0 (.seq c1 (.seq (.block z0 (.loop body)) c2)))) (h' : Tryd.f41.body = some (.seq c0' (.seq c1' (.seq (.block z0' (.loop body')) c2')))) : body' = body := by
  rw [h] at h'
  simp only [Option.some.injEq, Code.seq.injEq, Code.cond.injEq, Code.block.injEq, Code.loop.injEq] at h'
  simp only [h']
set_option maxRecDepth 100000 in
set_option maxHeartbeats 4000000 in
theorem next_round {w : World} {s : ByteArray} {k b : Nat} {Q : Exit → Act → World → Prop} {N : Nat} {c0 c1 c2 body : Code} {z0 : Nat}  {x1 x2 x3 x4 x6 x7 x8 x9 x10 x11 x12 x13 x14 x15 x16 x17 x18 x19 x20 x21 x22 x23 x24 x25 x26 x27 x28 x29 x30 x31 x32 x33 x34 x35 x36 x37 x38 x39 x40 x41 x42 x43 x44 x45 x46 x47 x48 x49 x50 x51 x52 x53 x54 x55 x56 x57 x58 x59 : Value} (hB : Tryd.f41.body = some (.seq c0 (.seq c1 (.seq (.block z0 (.loop body)) c2)))) (hs : s.size ≤ 1000) (hk : k < s.size) (hb : sb s k = b) (h1 : 48 ≤ b) (h2 : b ≤ 57)
    (cont : ∀ (y1 y2 y3 y4 y6 y7 y8 y9 y10 y11 y12 y13 y14 y15 y16 y17 y18 y19 y20 y21 y22 y23 y24 y25 y26 y27 y28 y29 y30 y31 y32 y33 y34 y35 y36 y37 y38 y39 y40 y41 y42 y43 y44 y45 y46 y47 y48 y49 y50 y51 y52 y53 y54 y55 y56 y57 y58 y59 : Value), Code.rounds Tryd.prog body Q N ⟨#[.string s, y1, y2, y3, y4, .int .i64 (k + 1), y6, y7, y8, y9, y10, y11, y12, y13, y14, y15, y16, y17, y18, y19, y20, y21, y22, y23, y24, y25, y26, y27, y28, y29, y30, y31, y32, y33, y34, y35, y36, y37, y38, y39, y40, y41, y42, y43, y44, y45, y46, y47, y48, y49, y50, y51, y52, y53, y54, y55, y56, y57, y58, y59], []⟩ w) : Code.rounds Tryd.prog body Q (N + 1) ⟨#[.string s, x1, x2, x3, x4, .int .i64 k, x6, x7, x8, x9, x10, x11, x12, x13, x14, x15, x16, x17, x18, x19, x20, x21, x22, x23, x24, x25, x26, x27, x28, x29, x30, x31, x32, x33, x34, x35, x36, x37, x38, x39, x40, x41, x42, x43, x44, x45, x46, x47, x48, x49, x50, x51, x52, x53, x54, x55, x56, x57, x58, x59], []⟩ w := by
  have hbody := next_body rfl hB
  clear hB
  subst hbody
  have hcont := Aside0.mk cont
  clear cont
  rw [rounds_succ]
  have IX := Aside0.mk (sidx hk w)
  rw [hb] at IX
  have hk1 : ((k : Int) < (s.size : Int)) := by omega
  go_wp2_with (first
    | (refine guard_read (some 13) rfl (.int .u8 b) (exec_index2 rfl IX.out) (by rfl) ?_)
    | (refine guard_read (some 19) rfl (.int .u8 b) (exec_index2 rfl IX.out) (by rfl) ?_))
  exact hcont.out _ _ _ _ _ _ _ _ _ _ _ _ _ _ _ _ _ _ _ _ _ _ _ _ _ _ _ _ _ _ _ _ _ _ _ _ _ _ _ _ _ _ _ _ _ _ _ _ _ _ _ _ _ _ _ _ _ _
set_option maxRecDepth 100000 in
set_option maxHeartbeats 4000000 in
theorem next_end1 {w : World} {s : ByteArray} {k b : Nat} {Q : Exit → Act → World → Prop} {N : Nat} {c0 c1 c2 body : Code} {z0 : Nat}  {x1 x2 x3 x4 x6 x7 x8 x9 x10 x11 x12 x13 x14 x15 x16 x17 x18 x19 x20 x21 x22 x23 x24 x25 x26 x27 x28 x29 x30 x31 x32 x33 x34 x35 x36 x37 x38 x39 x40 x41 x42 x43 x44 x45 x46 x47 x48 x49 x50 x51 x52 x53 x54 x55 x56 x57 x58 x59 : Value} (hB : Tryd.f41.body = some (.seq c0 (.seq c1 (.seq (.block z0 (.loop body)) c2)))) (hs : s.size ≤ 1000) (hk9 : k ≤ 1000) (h0 : s.size ≤ k)
    (cont : ∀ (y1 y2 y3 y4 y6 y7 y8 y9 y10 y11 y12 y13 y14 y15 y16 y17 y18 y19 y20 y21 y22 y23 y24 y25 y26 y27 y28 y29 y30 y31 y32 y33 y34 y35 y36 y37 y38 y39 y40 y41 y42 y43 y44 y45 y46 y47 y48 y49 y50 y51 y52 y53 y54 y55 y56 y57 y58 y59 : Value), Q (.exit 0) ⟨#[.string s, y1, y2, y3, y4, .int .i64 k, y6, y7, y8, y9, y10, y11, y12, y13, y14, y15, y16, y17, y18, y19, y20, y21, y22, y23, y24, y25, y26, y27, y28, y29, y30, y31, y32, y33, y34, y35, y36, y37, y38, y39, y40, y41, y42, y43, y44, y45, y46, y47, y48, y49, y50, y51, y52, y53, y54, y55, y56, y57, y58, y59], []⟩ w) : Code.rounds Tryd.prog body Q (N + 1) ⟨#[.string s, x1, x2, x3, x4, .int .i64 k, x6, x7, x8, x9, x10, x11, x12, x13, x14, x15, x16, x17, x18, x19, x20, x21, x22, x23, x24, x25, x26, x27, x28, x29, x30, x31, x32, x33, x34, x35, x36, x37, x38, x39, x40, x41, x42, x43, x44, x45, x46, x47, x48, x49, x50, x51, x52, x53, x54, x55, x56, x57, x58, x59], []⟩ w := by
  have hbody := next_body rfl hB
  clear hB
  subst hbody
  have hcont := Aside0.mk cont
  clear cont
  rw [rounds_succ]
  go_wp2
  exact hcont.out _ _ _ _ _ _ _ _ _ _ _ _ _ _ _ _ _ _ _ _ _ _ _ _ _ _ _ _ _ _ _ _ _ _ _ _ _ _ _ _ _ _ _ _ _ _ _ _ _ _ _ _ _ _ _ _ _ _
set_option maxRecDepth 100000 in
set_option maxHeartbeats 4000000 in
theorem next_end2 {w : World} {s : ByteArray} {k b : Nat} {Q : Exit → Act → World → Prop} {N : Nat} {c0 c1 c2 body : Code} {z0 : Nat}  {x1 x2 x3 x4 x6 x7 x8 x9 x10 x11 x12 x13 x14 x15 x16 x17 x18 x19 x20 x21 x22 x23 x24 x25 x26 x27 x28 x29 x30 x31 x32 x33 x34 x35 x36 x37 x38 x39 x40 x41 x42 x43 x44 x45 x46 x47 x48 x49 x50 x51 x52 x53 x54 x55 x56 x57 x58 x59 : Value} (hB : Tryd.f41.body = some (.seq c0 (.seq c1 (.seq (.block z0 (.loop body)) c2)))) (hs : s.size ≤ 1000) (hk9 : k ≤ 1000) (hk : k < s.size) (hb : sb s k = b) (h1 : b < 48)
    (cont : ∀ (y1 y2 y3 y4 y6 y7 y8 y9 y10 y11 y12 y13 y14 y15 y16 y17 y18 y19 y20 y21 y22 y23 y24 y25 y26 y27 y28 y29 y30 y31 y32 y33 y34 y35 y36 y37 y38 y39 y40 y41 y42 y43 y44 y45 y46 y47 y48 y49 y50 y51 y52 y53 y54 y55 y56 y57 y58 y59 : Value), Q (.exit 0) ⟨#[.string s, y1, y2, y3, y4, .int .i64 k, y6, y7, y8, y9, y10, y11, y12, y13, y14, y15, y16, y17, y18, y19, y20, y21, y22, y23, y24, y25, y26, y27, y28, y29, y30, y31, y32, y33, y34, y35, y36, y37, y38, y39, y40, y41, y42, y43, y44, y45, y46, y47, y48, y49, y50, y51, y52, y53, y54, y55, y56, y57, y58, y59], []⟩ w) : Code.rounds Tryd.prog body Q (N + 1) ⟨#[.string s, x1, x2, x3, x4, .int .i64 k, x6, x7, x8, x9, x10, x11, x12, x13, x14, x15, x16, x17, x18, x19, x20, x21, x22, x23, x24, x25, x26, x27, x28, x29, x30, x31, x32, x33, x34, x35, x36, x37, x38, x39, x40, x41, x42, x43, x44, x45, x46, x47, x48, x49, x50, x51, x52, x53, x54, x55, x56, x57, x58, x59], []⟩ w := by
  have hbody := next_body rfl hB
  clear hB
  subst hbody
  have hcont := Aside0.mk cont
  clear cont
  rw [rounds_succ]
  have IX := Aside0.mk (sidx hk w)
  rw [hb] at IX
  have hk1 : ((k : Int) < (s.size : Int)) := by omega
  go_wp2_with (first | (refine guard_read (some 13) rfl (.int .u8 b) (exec_index2 rfl IX.out) (by rfl) ?_))
  exact hcont.out _ _ _ _ _ _ _ _ _ _ _ _ _ _ _ _ _ _ _ _ _ _ _ _ _ _ _ _ _ _ _ _ _ _ _ _ _ _ _ _ _ _ _ _ _ _ _ _ _ _ _ _ _ _ _ _ _ _
set_option maxRecDepth 100000 in
set_option maxHeartbeats 4000000 in
theorem next_end3 {w : World} {s : ByteArray} {k b : Nat} {Q : Exit → Act → World → Prop} {N : Nat} {c0 c1 c2 body : Code} {z0 : Nat}  {x1 x2 x3 x4 x6 x7 x8 x9 x10 x11 x12 x13 x14 x15 x16 x17 x18 x19 x20 x21 x22 x23 x24 x25 x26 x27 x28 x29 x30 x31 x32 x33 x34 x35 x36 x37 x38 x39 x40 x41 x42 x43 x44 x45 x46 x47 x48 x49 x50 x51 x52 x53 x54 x55 x56 x57 x58 x59 : Value} (hB : Tryd.f41.body = some (.seq c0 (.seq c1 (.seq (.block z0 (.loop body)) c2)))) (hs : s.size ≤ 1000) (hk9 : k ≤ 1000) (hk : k < s.size) (hb : sb s k = b) (h1 : 57 < b)
    (cont : ∀ (y1 y2 y3 y4 y6 y7 y8 y9 y10 y11 y12 y13 y14 y15 y16 y17 y18 y19 y20 y21 y22 y23 y24 y25 y26 y27 y28 y29 y30 y31 y32 y33 y34 y35 y36 y37 y38 y39 y40 y41 y42 y43 y44 y45 y46 y47 y48 y49 y50 y51 y52 y53 y54 y55 y56 y57 y58 y59 : Value), Q (.exit 0) ⟨#[.string s, y1, y2, y3, y4, .int .i64 k, y6, y7, y8, y9, y10, y11, y12, y13, y14, y15, y16, y17, y18, y19, y20, y21, y22, y23, y24, y25, y26, y27, y28, y29, y30, y31, y32, y33, y34, y35, y36, y37, y38, y39, y40, y41, y42, y43, y44, y45, y46, y47, y48, y49, y50, y51, y52, y53, y54, y55, y56, y57, y58, y59], []⟩ w) : Code.rounds Tryd.prog body Q (N + 1) ⟨#[.string s, x1, x2, x3, x4, .int .i64 k, x6, x7, x8, x9, x10, x11, x12, x13, x14, x15, x16, x17, x18, x19, x20, x21, x22, x23, x24, x25, x26, x27, x28, x29, x30, x31, x32, x33, x34, x35, x36, x37, x38, x39, x40, x41, x42, x43, x44, x45, x46, x47, x48, x49, x50, x51, x52, x53, x54, x55, x56, x57, x58, x59], []⟩ w := by
  have hbody := next_body rfl hB
  clear hB
  subst hbody
  have hcont := Aside0.mk cont
  clear cont
  rw [rounds_succ]
  have IX := Aside0.mk (sidx hk w)
  rw [hb] at IX
  have hk1 : ((k : Int) < (s.size : Int)) := by omega
  go_wp2_with (first | (refine guard_read (some 13) rfl (.int .u8 b) (exec_index2 rfl IX.out) (by rfl) ?_) | (refine guard_read (some 19) rfl (.int .u8 b) (exec_index2 rfl IX.out) (by rfl) ?_))
  exact hcont.out _ _ _ _ _ _ _ _ _ _ _ _ _ _ _ _ _ _ _ _ _ _ _ _ _ _ _ _ _ _ _ _ _ _ _ _ _ _ _ _ _ _ _ _ _ _ _ _ _ _ _ _ _ _ _ _ _ _
set_option maxRecDepth 100000 in
theorem next_loop {w : World} {s : ByteArray} {K : Nat} {Q : Exit → Act → World → Prop} {c0 c1 c2 body : Code} {z0 : Nat}  (hB : Tryd.f41.body = some (.seq c0 (.seq c1 (.seq (.block z0 (.loop body)) c2)))) (hs : s.size ≤ 1000) (hK : K = (dgs s.data.toList).length)
    (cont : ∀ (y1 y2 y3 y4 y6 y7 y8 y9 y10 y11 y12 y13 y14 y15 y16 y17 y18 y19 y20 y21 y22 y23 y24 y25 y26 y27 y28 y29 y30 y31 y32 y33 y34 y35 y36 y37 y38 y39 y40 y41 y42 y43 y44 y45 y46 y47 y48 y49 y50 y51 y52 y53 y54 y55 y56 y57 y58 y59 : Value), Q (.exit 0) ⟨#[.string s, y1, y2, y3, y4, .int .i64 K, y6, y7, y8, y9, y10, y11, y12, y13, y14, y15, y16, y17, y18, y19, y20, y21, y22, y23, y24, y25, y26, y27, y28, y29, y30, y31, y32, y33, y34, y35, y36, y37, y38, y39, y40, y41, y42, y43, y44, y45, y46, y47, y48, y49, y50, y51, y52, y53, y54, y55, y56, y57, y58, y59], []⟩ w) : ∀ (d k : Nat) {y1 y2 y3 y4 y6 y7 y8 y9 y10 y11 y12 y13 y14 y15 y16 y17 y18 y19 y20 y21 y22 y23 y24 y25 y26 y27 y28 y29 y30 y31 y32 y33 y34 y35 y36 y37 y38 y39 y40 y41 y42 y43 y44 y45 y46 y47 y48 y49 y50 y51 y52 y53 y54 y55 y56 y57 y58 y59 : Value}, k + d = K → Code.rounds Tryd.prog body Q (d + 1) ⟨#[.string s, y1, y2, y3, y4, .int .i64 k, y6, y7, y8, y9, y10, y11, y12, y13, y14, y15, y16, y17, y18, y19, y20, y21, y22, y23, y24, y25, y26, y27, y28, y29, y30, y31, y32, y33, y34, y35, y36, y37, y38, y39, y40, y41, y42, y43, y44, y45, y46, y47, y48, y49, y50, y51, y52, y53, y54, y55, y56, y57, y58, y59], []⟩ w := by
  intro d
  have hle := dgs_le s.data.toList
  have hl := slen s
  induction d with
  | zero =>
    intro k y1 y2 y3 y4 y6 y7 y8 y9 y10 y11 y12 y13 y14 y15 y16 y17 y18 y19 y20 y21 y22 y23 y24 y25 y26 y27 y28 y29 y30 y31 y32 y33 y34 y35 y36 y37 y38 y39 y40 y41 y42 y43 y44 y45 y46 y47 y48 y49 y50 y51 y52 y53 y54 y55 y56 y57 y58 y59 hd
    obtain rfl : k = K := by omega
    rcases sb_no hK with h | ⟨h, h1 | h1⟩
    · exact next_end1 (b := 0) hB hs (by omega) h cont
    · exact next_end2 hB hs (by omega) h rfl h1 cont
    · exact next_end3 hB hs (by omega) h rfl h1 cont
  | succ d ih =>
    intro k y1 y2 y3 y4 y6 y7 y8 y9 y10 y11 y12 y13 y14 y15 y16 y17 y18 y19 y20 y21 y22 y23 y24 y25 y26 y27 y28 y29 y30 y31 y32 y33 y34 y35 y36 y37 y38 y39 y40 y41 y42 y43 y44 y45 y46 y47 y48 y49 y50 y51 y52 y53 y54 y55 y56 y57 y58 y59 hd
    obtain ⟨h1, h2, h3⟩ := sb_dg (s := s) (k := k) (by omega)
    exact next_round hB hs h1 rfl h2 h3 (fun y1 y2 y3 y4 y6 y7 y8 y9 y10 y11 y12 y13 y14 y15 y16 y17 y18 y19 y20 y21 y22 y23 y24 y25 y26 y27 y28 y29 y30 y31 y32 y33 y34 y35 y36 y37 y38 y39 y40 y41 y42 y43 y44 y45 y46 y47 y48 y49 y50 y51 y52 y53 y54 y55 y56 y57 y58 y59 => ih (k + 1) (by omega))
set_option maxRecDepth 100000 in
set_option maxHeartbeats 4000000 in
theorem next_calls (s : ByteArray) (hs : s.size ≤ 1000) (w : World) :
    Calls Tryd.prog 41 #[.string s] w fun e w' => ∃ r : ByteArray, e = .returned (.tuple #[.int .u64 (spNext s.data.toList).1, .int .u8 (spNext s.data.toList).2.1, .string r]) ∧ r.data.toList = (spNext s.data.toList).2.2 ∧ r.size ≤ s.size ∧ Below w.heap.size w w' := by
  have hle := dgs_le s.data.toList
  have hl := slen s
  have hall := dgs_all s.data.toList
  have htk := dgs_take s.data.toList
  obtain ⟨K, hK⟩ : ∃ K, K = (dgs s.data.toList).length := ⟨_, rfl⟩
  obtain ⟨res, hres⟩ : ∃ res, spNext s.data.toList = res := ⟨_, rfl⟩
  rw [hres]
  go_enter Tryd.func41, Tryd.ntmps41
  go_wp2
  refine wp_loop_rounds (K + 1) ?_
  refine next_loop rfl hs hK ?_ K 0 (by omega)
  intro y1 y2 y3 y4 y6 y7 y8 y9 y10 y11 y12 y13 y14 y15 y16 y17 y18 y19 y20 y21 y22 y23 y24 y25 y26 y27 y28 y29 y30 y31 y32 y33 y34 y35 y36 y37 y38 y39 y40 y41 y42 y43 y44 y45 y46 y47 y48 y49 y50 y51 y52 y53 y54 y55 y56 y57 y58 y59
  by_cases c : K < 1 ∨ 15 < K ∨ K = s.size ∨ (sb s 0 = 48 ∧ 1 < K)
  · have e : res = (0, 0, []) := by
      rw [← hres]
      unfold spNext
      rw [if_pos]
      rw [← hK, hl]
      rcases c with c | c | c | ⟨c, c2⟩
      · exact .inl c
      · exact .inr (.inl c)
      · exact .inr (.inr (.inl c))
      · refine .inr (.inr (.inr ⟨?_, c2⟩))
        unfold sb at c
        cases hd : s.data.toList with
        | nil => rw [hd] at c; simp at c
        | cons q t => rw [hd] at c; simp at c; simp; exact UInt8.toNat_inj.1 c
    clear hres
    subst e
    have hKs : K ≤ s.size := by omega
    clear htk hall hle hl hK
    obtain ⟨ki, hki⟩ : ∃ ki : Int, ki = K := ⟨_, rfl⟩
    rw [← hki]
    have hss : (0 : Int) ≤ (s.size : Int) := by omega
    by_cases c1 : K < 1
    · have d1 : decide (ki < 1) = true := decide_eq_true (by omega)
      clear c hki
      go_wp2
      go_ret3
      exact ⟨_, rfl, rfl, Nat.zero_le _, Below.refl _ _⟩
    · by_cases c2 : 15 < K
      · have d1 : decide (ki < 1) = false := decide_eq_false (by omega)
        have d2 : decide (15 < ki) = true := decide_eq_true (by omega)
        clear c hki
        go_wp2
        go_ret3
        exact ⟨_, rfl, rfl, Nat.zero_le _, Below.refl _ _⟩
      · by_cases c3 : K = s.size
        · have d1 : decide (ki < 1) = false := decide_eq_false (by omega)
          have d2 : decide (15 < ki) = false := decide_eq_false (by omega)
          have d3 : (ki == (s.size : Int)) = true := by rw [hki, c3]; simp
          clear c hki
          go_wp2
          go_ret3
          exact ⟨_, rfl, rfl, Nat.zero_le _, Below.refl _ _⟩
        · have c4 : sb s 0 = 48 ∧ 1 < K := by omega
          have d1 : decide (ki < 1) = false := decide_eq_false (by omega)
          have d2 : decide (15 < ki) = false := decide_eq_false (by omega)
          have d3 : (ki == (s.size : Int)) = false := by rw [beq_eq_false_iff_ne]; omega
          have d4 : decide (1 < ki) = true := decide_eq_true (by omega)
          have IZ := Aside0.mk (fun (v : World) => sidx (s := s) (k := 0) (by omega) v)
          rw [c4.1] at IZ
          clear c c4 hki
          go_wp2_with (first | (refine guard_read (some 38) rfl (.int .u8 48) (exec_index2 rfl (IZ.out _)) (by rfl) ?_))
          go_ret3
          exact ⟨_, rfl, rfl, Nat.zero_le _, Below.refl _ _⟩
  · simp only [not_or, not_and] at c
    obtain ⟨c1, c2, c3, c4⟩ := c
    have e : res = (decV (s.data.toList.take K), sb s K, s.data.toList.drop (K + 1)) := by
      rw [← hres]
      unfold spNext
      rw [if_neg, ← hK]
      · rw [hK, htk]
        congr 2
        unfold sb
        rw [List.headD_eq_head?_getD, List.head?_drop, List.getD_eq_getElem?_getD, ← hK]
      · rw [← hK, hl]
        rintro (q | q | q | ⟨q, q2⟩)
        · exact c1 q
        · exact c2 q
        · exact c3 q
        · refine c4 ?_ q2
          unfold sb
          cases hd : s.data.toList with
          | nil => have := congrArg List.length hd; rw [List.length_nil] at this; omega
          | cons z t => rw [hd] at q; simp at q; simp [q]
    clear hres
    have E := Aside0.mk e
    clear e
    have hKs : K < s.size := by omega
    have PU := Aside0.mk (Tryd.strconv_ParseUint_10_at64_ok (s.extract 0 K) (by rw [ByteArray.size_extract]; omega) (decV (s.data.toList.take K)) (by
      rw [sx_take]
      refine parse_dgs ?_ ?_ ?_
      · rw [hK, htk]; exact hall
      · intro q
        have := congrArg List.length q
        rw [List.length_take, List.length_nil] at this
        omega
      · rw [List.length_take]; omega) w)
    have EX := Aside0.mk (show ∀ r : ByteArray, r = s.extract (K + 1) s.size → r.data.toList = s.data.toList.drop (K + 1) ∧ r.size ≤ s.size from fun r hr => by rw [hr]; exact ⟨sx_drop _ _, by rw [ByteArray.size_extract]; omega⟩)
    generalize decV (s.data.toList.take K) = V at *
    generalize s.data.toList.drop (K + 1) = RR at *
    have IK := Aside0.mk (fun (v : World) => sidx (s := s) (k := K) hKs v)
    generalize sb s K = u at *
    clear htk hall hle hl hK
    obtain ⟨ki, hki⟩ : ∃ ki : Int, ki = K := ⟨_, rfl⟩
    obtain ⟨k1, hk1⟩ : ∃ k1 : Int, k1 = (K + 1 : Nat) := ⟨_, rfl⟩
    have hw1 : wrap64 (ki + 1) = k1 := by unfold wrap64; omega
    have q0 : (0 : Int) ≤ ki := by omega
    have q1 : ki ≤ (s.size : Int) := by omega
    have q2 : (0 : Int) ≤ k1 := by omega
    have q3 : k1 ≤ (s.size : Int) := by omega
    have hss : (0 : Int) ≤ (s.size : Int) := by omega
    have d1 : decide (ki < 1) = false := decide_eq_false (by omega)
    have d2 : decide (15 < ki) = false := decide_eq_false (by omega)
    have d3 : (ki == (s.size : Int)) = false := by rw [beq_eq_false_iff_ne]; omega
    have t0 : ki.toNat = K := by omega
    have t1 : k1.toNat = K + 1 := by omega
    rw [← t0] at PU
    rw [← t1] at EX
    rw [← hki] at IK ⊢
    have b0 : sb s 0 = 48 → ¬ 1 < K := c4
    have IZ := Aside0.mk (fun (v : World) => sidx (s := s) (k := 0) (by omega) v)
    generalize sb s 0 = z at *
    by_cases c5 : z = 48
    · have d4 : decide (1 < ki) = false := decide_eq_false (by have := b0 c5; omega)
      have d5 : ((z : Int) == 48) = true := by rw [c5]; rfl
      clear c4 b0 c5 c1 c2 c3 hKs hki hk1 t0 t1
      go_wp2_with (first
        | (refine guard_read (some 38) rfl (.int .u8 z) (exec_index2 rfl (IZ.out _)) (by rfl) ?_)
        | (go_at_call 54; refine PU.out.mono ?_; rintro e1 w1 ⟨rfl, hw⟩; have HB := Aside0.mk (show Below w.heap.size w w1 by rcases hw with rfl | rfl; exact Below.refl _ _; exact bytes_below (Below.refl _ _) (Nat.le_refl _) _ _); clear hw))
      refine start_ (n := 11) (S := fun w' => True) (ds := []) #[false, false, false, false, false, false, false, false, false, false, false] (by kernel_rfl) rfl rfl trivial (fun hHeld => ?_)
      refine pure_ (i := 0) (N := some 52) (v := ?_) (a' := ?_) #[true, false, false, false, false, false, false, false, false, false, false] rfl rfl (by kernel_rfl) (fun _ _ _ h => h) (Or.inl ⟨by rfl, ?_⟩) ?_ ?_
      rotate_left
      · intro w'
        go_simp
        with_reducible rfl
      rotate_left
      · simp only [Act.put, List.setIfInBounds_toArray, List.set_cons_zero, List.set_cons_succ, i64_w, i32_w]
        rfl
      refine pure_ (i := 1) (N := some 53) (v := ?_) (a' := ?_) #[true, true, false, false, false, false, false, false, false, false, false] rfl rfl (by kernel_rfl) (fun _ _ _ h => h) (Or.inl ⟨by rfl, ?_⟩) ?_ ?_
      rotate_left
      · intro w'
        go_simp
        with_reducible rfl
      rotate_left
      · simp only [Act.put, List.setIfInBounds_toArray, List.set_cons_zero, List.set_cons_succ, i64_w, i32_w]
        rfl
      refine pure_ (i := 2) (N := some 54) (v := ?_) (a' := ?_) #[true, true, true, false, false, false, false, false, false, false, false] rfl rfl (by kernel_rfl) (fun _ _ _ h => h) (Or.inl ⟨by rfl, ?_⟩) ?_ ?_
      rotate_left
      · intro w'
        go_simp
        with_reducible rfl
      rotate_left
      · simp only [Act.put, List.setIfInBounds_toArray, List.set_cons_zero, List.set_cons_succ, i64_w, i32_w]
        rfl
      refine pure_ (i := 4) (N := some 56) (v := ?_) (a' := ?_) #[true, true, true, false, true, false, false, false, false, false, false] rfl rfl (by kernel_rfl) (fun _ _ _ h => h) (Or.inl ⟨by rfl, ?_⟩) ?_ ?_
      rotate_left
      · intro w'
        go_simp
        with_reducible rfl
      rotate_left
      · simp only [Act.put, List.setIfInBounds_toArray, List.set_cons_zero, List.set_cons_succ, i64_w, i32_w]
        rfl
      refine pure_ (i := 5) (N := some 57) (v := ?_) (a' := ?_) #[true, true, true, false, true, true, false, false, false, false, false] rfl rfl (by kernel_rfl) (fun _ _ _ h => h) (Or.inl ⟨by rfl, ?_⟩) ?_ ?_
      rotate_left
      · intro w'
        go_simp
        with_reducible rfl
      rotate_left
      · simp only [Act.put, List.setIfInBounds_toArray, List.set_cons_zero, List.set_cons_succ, i64_w, i32_w]
        rfl
      refine pure_ (i := 6) (N := some 58) (v := ?_) (a' := ?_) #[true, true, true, false, true, true, true, false, false, false, false] rfl rfl (by kernel_rfl) (fun _ _ _ h => h) (Or.inl ⟨by rfl, ?_⟩) ?_ ?_
      rotate_left
      · intro w'
        go_simp
        with_reducible rfl
      rotate_left
      · simp only [Act.put, List.setIfInBounds_toArray, List.set_cons_zero, List.set_cons_succ, i64_w, i32_w]
        rfl
      refine pure_ (i := 7) (N := some 59) (v := ?_) (a' := ?_) #[true, true, true, false, true, true, true, true, false, false, false] rfl rfl (by kernel_rfl) (fun _ _ _ h => h) (Or.inl ⟨by rfl, ?_⟩) ?_ ?_
      rotate_left
      · intro w'
        go_simp
        with_reducible rfl
      rotate_left
      · simp only [Act.put, List.setIfInBounds_toArray, List.set_cons_zero, List.set_cons_succ, i64_w, i32_w]
        rfl
      refine pure_ (i := 8) (N := some 2) (v := ?_) (a' := ?_) #[true, true, true, false, true, true, true, true, true, false, false] rfl rfl (by kernel_rfl) (fun _ _ _ h => h) (Or.inl ⟨by rfl, ?_⟩) ?_ ?_
      rotate_left
      · intro w'
        go_simp
        with_reducible rfl
      rotate_left
      · simp only [Act.put, List.setIfInBounds_toArray, List.set_cons_zero, List.set_cons_succ, i64_w, i32_w]
        rfl
      refine take_ (i := 3) (N := some 55) (v := ?_) (a' := ?_) #[true, true, true, true, true, true, true, true, true, false, false] rfl rfl (by kernel_rfl) (fun _ _ _ h => h) (Or.inl ⟨by rfl, ?_⟩) hHeld ?_ ?_
      rotate_left
      · intro w' _
        refine (exec_index2 rfl (IK.out _)).trans ?_
        with_reducible rfl
      rotate_left
      · simp only [Act.put, List.setIfInBounds_toArray, List.set_cons_zero, List.set_cons_succ, i64_w, i32_w]
        rfl
      refine pure_ (i := 9) (N := some 3) (v := ?_) (a' := ?_) #[true, true, true, true, true, true, true, true, true, true, false] rfl rfl (by kernel_rfl) (fun _ _ _ h => h) (Or.inl ⟨by rfl, ?_⟩) ?_ ?_
      rotate_left
      · intro w'
        go_simp
        with_reducible rfl
      rotate_left
      · simp only [Act.put, List.setIfInBounds_toArray, List.set_cons_zero, List.set_cons_succ, i64_w, i32_w]
        rfl
      refine pure_ (i := 10) (N := some 4) (v := ?_) (a' := ?_) #[true, true, true, true, true, true, true, true, true, true, true] rfl rfl (by kernel_rfl) (fun _ _ _ h => h) (Or.inl ⟨by rfl, ?_⟩) ?_ ?_
      rotate_left
      · intro w'
        go_simp
        with_reducible rfl
      rotate_left
      · simp only [Act.put, List.setIfInBounds_toArray, List.set_cons_zero, List.set_cons_succ, i64_w, i32_w]
        rfl
      refine done_ (by kernel_rfl) ?_

      go_wp2
      go_ret3
      rw [E.out]
      exact ⟨_, rfl, (EX.out _ rfl).1, (EX.out _ rfl).2, HB.out.drew⟩
    · have d5 : ((z : Int) == 48) = false := by rw [beq_eq_false_iff_ne]; omega
      clear c4 b0 c5 c1 c2 c3 hKs hki hk1 t0 t1
      go_wp2_with (first
        | (refine guard_read (some 38) rfl (.int .u8 z) (exec_index2 rfl (IZ.out _)) (by rfl) ?_)
        | (go_at_call 54; refine PU.out.mono ?_; rintro e1 w1 ⟨rfl, hw⟩; have HB := Aside0.mk (show Below w.heap.size w w1 by rcases hw with rfl | rfl; exact Below.refl _ _; exact bytes_below (Below.refl _ _) (Nat.le_refl _) _ _); clear hw))
      refine start_ (n := 11) (S := fun w' => True) (ds := []) #[false, false, false, false, false, false, false, false, false, false, false] (by kernel_rfl) rfl rfl trivial (fun hHeld => ?_)
      refine pure_ (i := 0) (N := some 52) (v := ?_) (a' := ?_) #[true, false, false, false, false, false, false, false, false, false, false] rfl rfl (by kernel_rfl) (fun _ _ _ h => h) (Or.inl ⟨by rfl, ?_⟩) ?_ ?_
      rotate_left
      · intro w'
        go_simp
        with_reducible rfl
      rotate_left
      · simp only [Act.put, List.setIfInBounds_toArray, List.set_cons_zero, List.set_cons_succ, i64_w, i32_w]
        rfl
      refine pure_ (i := 1) (N := some 53) (v := ?_) (a' := ?_) #[true, true, false, false, false, false, false, false, false, false, false] rfl rfl (by kernel_rfl) (fun _ _ _ h => h) (Or.inl ⟨by rfl, ?_⟩) ?_ ?_
      rotate_left
      · intro w'
        go_simp
        with_reducible rfl
      rotate_left
      · simp only [Act.put, List.setIfInBounds_toArray, List.set_cons_zero, List.set_cons_succ, i64_w, i32_w]
        rfl
      refine pure_ (i := 2) (N := some 54) (v := ?_) (a' := ?_) #[true, true, true, false, false, false, false, false, false, false, false] rfl rfl (by kernel_rfl) (fun _ _ _ h => h) (Or.inl ⟨by rfl, ?_⟩) ?_ ?_
      rotate_left
      · intro w'
        go_simp
        with_reducible rfl
      rotate_left
      · simp only [Act.put, List.setIfInBounds_toArray, List.set_cons_zero, List.set_cons_succ, i64_w, i32_w]
        rfl
      refine pure_ (i := 4) (N := some 56) (v := ?_) (a' := ?_) #[true, true, true, false, true, false, false, false, false, false, false] rfl rfl (by kernel_rfl) (fun _ _ _ h => h) (Or.inl ⟨by rfl, ?_⟩) ?_ ?_
      rotate_left
      · intro w'
        go_simp
        with_reducible rfl
      rotate_left
      · simp only [Act.put, List.setIfInBounds_toArray, List.set_cons_zero, List.set_cons_succ, i64_w, i32_w]
        rfl
      refine pure_ (i := 5) (N := some 57) (v := ?_) (a' := ?_) #[true, true, true, false, true, true, false, false, false, false, false] rfl rfl (by kernel_rfl) (fun _ _ _ h => h) (Or.inl ⟨by rfl, ?_⟩) ?_ ?_
      rotate_left
      · intro w'
        go_simp
        with_reducible rfl
      rotate_left
      · simp only [Act.put, List.setIfInBounds_toArray, List.set_cons_zero, List.set_cons_succ, i64_w, i32_w]
        rfl
      refine pure_ (i := 6) (N := some 58) (v := ?_) (a' := ?_) #[true, true, true, false, true, true, true, false, false, false, false] rfl rfl (by kernel_rfl) (fun _ _ _ h => h) (Or.inl ⟨by rfl, ?_⟩) ?_ ?_
      rotate_left
      · intro w'
        go_simp
        with_reducible rfl
      rotate_left
      · simp only [Act.put, List.setIfInBounds_toArray, List.set_cons_zero, List.set_cons_succ, i64_w, i32_w]
        rfl
      refine pure_ (i := 7) (N := some 59) (v := ?_) (a' := ?_) #[true, true, true, false, true, true, true, true, false, false, false] rfl rfl (by kernel_rfl) (fun _ _ _ h => h) (Or.inl ⟨by rfl, ?_⟩) ?_ ?_
      rotate_left
      · intro w'
        go_simp
        with_reducible rfl
      rotate_left
      · simp only [Act.put, List.setIfInBounds_toArray, List.set_cons_zero, List.set_cons_succ, i64_w, i32_w]
        rfl
      refine pure_ (i := 8) (N := some 2) (v := ?_) (a' := ?_) #[true, true, true, false, true, true, true, true, true, false, false] rfl rfl (by kernel_rfl) (fun _ _ _ h => h) (Or.inl ⟨by rfl, ?_⟩) ?_ ?_
      rotate_left
      · intro w'
        go_simp
        with_reducible rfl
      rotate_left
      · simp only [Act.put, List.setIfInBounds_toArray, List.set_cons_zero, List.set_cons_succ, i64_w, i32_w]
        rfl
      refine take_ (i := 3) (N := some 55) (v := ?_) (a' := ?_) #[true, true, true, true, true, true, true, true, true, false, false] rfl rfl (by kernel_rfl) (fun _ _ _ h => h) (Or.inl ⟨by rfl, ?_⟩) hHeld ?_ ?_
      rotate_left
      · intro w' _
        refine (exec_index2 rfl (IK.out _)).trans ?_
        with_reducible rfl
      rotate_left
      · simp only [Act.put, List.setIfInBounds_toArray, List.set_cons_zero, List.set_cons_succ, i64_w, i32_w]
        rfl
      refine pure_ (i := 9) (N := some 3) (v := ?_) (a' := ?_) #[true, true, true, true, true, true, true, true, true, true, false] rfl rfl (by kernel_rfl) (fun _ _ _ h => h) (Or.inl ⟨by rfl, ?_⟩) ?_ ?_
      rotate_left
      · intro w'
        go_simp
        with_reducible rfl
      rotate_left
      · simp only [Act.put, List.setIfInBounds_toArray, List.set_cons_zero, List.set_cons_succ, i64_w, i32_w]
        rfl
      refine pure_ (i := 10) (N := some 4) (v := ?_) (a' := ?_) #[true, true, true, true, true, true, true, true, true, true, true] rfl rfl (by kernel_rfl) (fun _ _ _ h => h) (Or.inl ⟨by rfl, ?_⟩) ?_ ?_
      rotate_left
      · intro w'
        go_simp
        with_reducible rfl
      rotate_left
      · simp only [Act.put, List.setIfInBounds_toArray, List.set_cons_zero, List.set_cons_succ, i64_w, i32_w]
        rfl
      refine done_ (by kernel_rfl) ?_

      go_wp2
      go_ret3
      rw [E.out]
      exact ⟨_, rfl, (EX.out _ rfl).1, (EX.out _ rfl).2, HB.out.drew⟩
end Go.Proofs.YtdfkbiffdcfnpaaDoor.H
