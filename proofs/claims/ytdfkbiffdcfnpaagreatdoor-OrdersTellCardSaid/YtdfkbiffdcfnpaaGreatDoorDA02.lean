/- Parts of the proof of LawOrdersTell: words, contracts of the functions, plain laws. -/
import Derived.Test.YtdfkbiffdcfnpaaGreatDoorProg
import Derived.Below
import Derived.Deep.Draws
import Derived.Deep.AppendLies
import Derived.Maps.AppendAt
import Derived.OwnWalk
import Derived.Laws.BytesArg
import Derived.Laws.MakeOwn
import Derived.Laws.OwnMore
import Derived.Deep.OwnRows
import Derived.Tactics
import Derived.Lib.ConvBytes
import Derived.Laws.Slices
import Derived.WalkKit
import Derived.KernelRfl
import Derived.RowKit3
import Derived.Deep.LoopGhost
import Derived.Deep.QuietTactic
import Derived.BigQuiet
import Derived.WideLaws
import Derived.Deep.DeepCutAuto
import Derived.Deep.CutBlock
import Derived.Deep.RegionHeld3
import Derived.Laws.Rows
import Derived.Lib.AppendStr
import Derived.ArgAppend
import Derived.Laws.IdiomCopy
import Derived.OrdersHeld
import Derived.Laws.BitsLemmas
import Derived.RowKit
import Derived.Test.YtdfkbiffdcfnpaaGreatDoorDA01
import Derived.Great.Walk
import Derived.Deep.WholeRow
import Derived.ScopeJumps
import Derived.Laws.NewBlocks
import Derived.Laws.Tables
import Derived.LoopN
import Derived.Deep.MidRow
import Derived.Carry
import Derived.Deep.Slices
import Derived.Shelf.Strings.Trim
import Derived.Shelf.Small.Utf8
import Derived.Shelf.Small.Bits
import Derived.Shelf.Small.Strs
import Derived.Shelf.Small.Wraps
import Derived.Shelf.Strconv.Atoi
import Derived.Shelf.Strconv.Itoa0
import Derived.Shelf.Strconv.Itoa1
import Derived.Shelf.LaysM
import Derived.Shelf.Strconv.Itoa2
import Derived.Shelf.Strconv.Itoa3
import Derived.Shelf.Strconv.AtoiErrFast
import Derived.Shelf.Strconv.ParseIntEmpty
import Derived.Shelf.Strconv.AtoiFail
import Derived.Shelf.Strconv.Clone
import Derived.Shelf.Strconv.SyntaxError
import Derived.Shelf.LaysC
import Derived.Shelf.Strconv.ToError
import Derived.Shelf.Strconv.Lower
import Derived.Shelf.Strconv.ParseUint10
import Derived.Shelf.Strconv.ParseUint10Empty
import Derived.Shelf.Strconv.ParseUint10Any
import Derived.Shelf.Strconv.ParseInt10
import Derived.Shelf.Strconv.AtoiLong
import Derived.Shelf.Strconv.AtoiInnerAll
import Derived.Shelf.Strconv.RangeError
import Derived.Shelf.Strconv.ToErrorRange
import Derived.Shelf.Strconv.AtoiAll
import Derived.Shelf.Strconv.ParseUintEmpty
import Derived.Ground.MpProg
import Derived.Shelf.Pu.ParseUintPublic10
import Derived.Shelf.Strings.Search1
import Derived.Shelf.Strings.Search2
import Derived.Shelf.Strings.Cut
import Derived.Shelf.Strings.Shaped
import Derived.Shelf.Sort.Plain
import Derived.Shelf.Strings.Prefix
import Derived.Shelf.Unicode.Decode
import Derived.Shelf.Strings.Runes
import Derived.Shelf.Strings.AsciiSet
import Derived.Shelf.Bits.Mul64
import Derived.Shelf.Unicode.DecodeSlow
import Derived.Shelf.Unicode.DecodeAny
import Derived.Shelf.Slices.Turned
import Derived.Ground.Names2Prog
import Derived.Shelf.Slices.CompactI
import Derived.Shelf.Slices.SearchI
import Derived.Shelf.Slices.Cells
import Derived.Shelf.Slices.In.SortNone
import Derived.Lib.ParseIntB
import Derived.Lib.Atoi
import Derived.Laws.Externs
-- Written by hp.py (a program of this session, over the kit's print.py), with hand-made contracts beside it.
namespace Go.Proofs.YtdfkbiffdcfnpaaGreatDoor.H
open Go.RowKit Go.Proofs.YtdfkbiffdcfnpaaGreatDoorW.PrintWords Go.Proofs.YtdfkbiffdcfnpaaGreatDoorW.PrintLast Go.Proofs.YtdfkbiffdcfnpaaGreatDoorW.PrintMore
attribute [local go_sem] max2_int min2_int max_two min_two max_three min_three max_four min_four   -- for this text's walks alone
set_option linter.unusedVariables false
set_option linter.unusedSimpArgs false



def errW : Option Int → Value
  | none => .nilIface
  | some c => .iface 0 (.int .i64 c)
theorem errW_none : errW none = .nilIface := rfl
theorem errW_some (c : Int) : errW (some c) = .iface 0 (.int .i64 c) := rfl

theorem info76 : (Tryz.prog.info? 76).map (fun i => (i.zero, i.size, i.bytes)) = some (some (.agg #[(.int .i64 0), (.int .i64 0), (.int .i64 0), (.int .i64 0), (.int .u64 0)]), 5, 40) := by kernel_rfl
/-! #### struct type 86 -/
structure S86 where
  f0 : Int
  f1 : Int
  f2 : Int
  f3 : Int
  f4 : ByteArray
def z86 : S86 := ⟨(0 : Int), (0 : Int), (0 : Int), (0 : Int), (⟨#[]⟩ : ByteArray)⟩
def k86 : Kd S86 := Kd.iso (Kd.pair (Kd.int .i64) (Kd.pair (Kd.int .i64) (Kd.pair (Kd.int .i64) (Kd.pair (Kd.int .i64) Kd.string)))) (fun x : S86 => (x.f0, x.f1, x.f2, x.f3, x.f4))
theorem k86_open {w : World} {x : S86} {cs : List Value} (h : k86.K w x cs) : cs = [.int .i64 x.f0, .int .i64 x.f1, .int .i64 x.f2, .int .i64 x.f3, .string x.f4] := by
  obtain ⟨_, _, rfl, rfl, ⟨_, _, rfl, rfl, ⟨_, _, rfl, rfl, ⟨_, _, rfl, rfl, rfl⟩⟩⟩⟩ := h
  exact rfl
theorem k86_mkM (w : World) (base : Nat) (ok : Nat → Prop) (x : S86)  : k86.M w base ok x [.int .i64 x.f0, .int .i64 x.f1, .int .i64 x.f2, .int .i64 x.f3, .string x.f4] := ⟨[.int .i64 x.f0], [.int .i64 x.f1, .int .i64 x.f2, .int .i64 x.f3, .string x.f4], rfl, rfl, ⟨[.int .i64 x.f1], [.int .i64 x.f2, .int .i64 x.f3, .string x.f4], rfl, rfl, ⟨[.int .i64 x.f2], [.int .i64 x.f3, .string x.f4], rfl, rfl, ⟨[.int .i64 x.f3], [.string x.f4], rfl, rfl, rfl⟩⟩⟩⟩
def rd_T86 (xs : List S86) (i : Int) : S86 := xs.getD i.toNat z86
theorem at_T86 {w : World} {A : Option Addr} {n : Nat} {xs : List S86} (h : Kd.C k86 w A n xs) (i : Int) (h0 : 0 ≤ i) (h1 : i < n) : ∃ ad , A = some ad ∧ w.cell? (ad.add (i.toNat * 5)) = some (.int .i64 (rd_T86 xs i).f0) ∧ w.cell? ⟨(ad.add (i.toNat * 5)).block, (ad.add (i.toNat * 5)).off + 1, none⟩ = some (.int .i64 (rd_T86 xs i).f1) ∧ w.cell? ⟨(ad.add (i.toNat * 5)).block, (ad.add (i.toNat * 5)).off + 2, none⟩ = some (.int .i64 (rd_T86 xs i).f2) ∧ w.cell? ⟨(ad.add (i.toNat * 5)).block, (ad.add (i.toNat * 5)).off + 3, none⟩ = some (.int .i64 (rd_T86 xs i).f3) ∧ w.cell? ⟨(ad.add (i.toNat * 5)).block, (ad.add (i.toNat * 5)).off + 4, none⟩ = some (.string (rd_T86 xs i).f4) := by
  obtain ⟨ad, c, e, _, hK, hc0⟩ := Kd.C_get h z86 i h0 h1
  have hc : ∀ j u, c[j]? = some u → w.cell? (ad.add (i.toNat * 5 + j)) = some u := hc0
  obtain rfl := k86_open hK
  exact ⟨ad, e, hc 0 _ rfl, by rw [← add_field _ _ 1 (by omega)]; exact hc 1 _ rfl, by rw [← add_field _ _ 2 (by omega)]; exact hc 2 _ rfl, by rw [← add_field _ _ 3 (by omega)]; exact hc 3 _ rfl, by rw [← add_field _ _ 4 (by omega)]; exact hc 4 _ rfl⟩

/-! #### struct type 51 -/
structure S51 where
  f0 : Int
  f1 : Int
  f2 : Int
  f3 : Int
  f4 : ByteArray
def z51 : S51 := ⟨(0 : Int), (0 : Int), (0 : Int), (0 : Int), (⟨#[]⟩ : ByteArray)⟩
def k51 : Kd S51 := Kd.iso (Kd.pair (Kd.int .i64) (Kd.pair (Kd.int .i64) (Kd.pair (Kd.int .i64) (Kd.pair (Kd.int .i64) Kd.string)))) (fun x : S51 => (x.f0, x.f1, x.f2, x.f3, x.f4))
theorem k51_open {w : World} {x : S51} {cs : List Value} (h : k51.K w x cs) : cs = [.int .i64 x.f0, .int .i64 x.f1, .int .i64 x.f2, .int .i64 x.f3, .string x.f4] := by
  obtain ⟨_, _, rfl, rfl, ⟨_, _, rfl, rfl, ⟨_, _, rfl, rfl, ⟨_, _, rfl, rfl, rfl⟩⟩⟩⟩ := h
  exact rfl
def rd_T51 (xs : List S51) (i : Int) : S51 := xs.getD i.toNat z51
theorem at_T51 {w : World} {A : Option Addr} {n : Nat} {xs : List S51} (h : Kd.C k51 w A n xs) (i : Int) (h0 : 0 ≤ i) (h1 : i < n) : ∃ ad , A = some ad ∧ w.cell? (ad.add (i.toNat * 5)) = some (.int .i64 (rd_T51 xs i).f0) ∧ w.cell? ⟨(ad.add (i.toNat * 5)).block, (ad.add (i.toNat * 5)).off + 1, none⟩ = some (.int .i64 (rd_T51 xs i).f1) ∧ w.cell? ⟨(ad.add (i.toNat * 5)).block, (ad.add (i.toNat * 5)).off + 2, none⟩ = some (.int .i64 (rd_T51 xs i).f2) ∧ w.cell? ⟨(ad.add (i.toNat * 5)).block, (ad.add (i.toNat * 5)).off + 3, none⟩ = some (.int .i64 (rd_T51 xs i).f3) ∧ w.cell? ⟨(ad.add (i.toNat * 5)).block, (ad.add (i.toNat * 5)).off + 4, none⟩ = some (.string (rd_T51 xs i).f4) := by
  obtain ⟨ad, c, e, _, hK, hc0⟩ := Kd.C_get h z51 i h0 h1
  have hc : ∀ j u, c[j]? = some u → w.cell? (ad.add (i.toNat * 5 + j)) = some u := hc0
  obtain rfl := k51_open hK
  exact ⟨ad, e, hc 0 _ rfl, by rw [← add_field _ _ 1 (by omega)]; exact hc 1 _ rfl, by rw [← add_field _ _ 2 (by omega)]; exact hc 2 _ rfl, by rw [← add_field _ _ 3 (by omega)]; exact hc 3 _ rfl, by rw [← add_field _ _ 4 (by omega)]; exact hc 4 _ rfl⟩

def rd_L4 (xs : List (List S86)) (i : Int) : (List S86) := xs.getD i.toNat ([] : List S86)
def rd_L5 (xs : List (List S51)) (i : Int) : (List S51) := xs.getD i.toNat ([] : List S51)
/-! #### struct type 25 -/
structure S25 where
  f0 : ByteArray
  f1 : (List S86)
  f2 : (List S51)
def z25 : S25 := ⟨(⟨#[]⟩ : ByteArray), ([] : List S86), ([] : List S51)⟩
def k25 : Kd S25 := Kd.iso (Kd.pair Kd.string (Kd.pair (Kd.slice 86 k86) (Kd.slice 51 k51))) (fun x : S25 => (x.f0, x.f1, x.f2))
def rd_T25 (xs : List S25) (i : Int) : S25 := xs.getD i.toNat z25
/-! #### struct type 83 -/
structure S83 where
  f0 : Int
  f1 : Int
  f2 : Int
  f3 : Int
def z83 : S83 := ⟨(0 : Int), (0 : Int), (0 : Int), (0 : Int)⟩
def k83 : Kd S83 := Kd.iso (Kd.pair (Kd.int .i64) (Kd.pair (Kd.int .i64) (Kd.pair (Kd.int .i64) (Kd.int .i64)))) (fun x : S83 => (x.f0, x.f1, x.f2, x.f3))
theorem k83_open {w : World} {x : S83} {cs : List Value} (h : k83.K w x cs) : cs = [.int .i64 x.f0, .int .i64 x.f1, .int .i64 x.f2, .int .i64 x.f3] := by
  obtain ⟨_, _, rfl, rfl, ⟨_, _, rfl, rfl, ⟨_, _, rfl, rfl, rfl⟩⟩⟩ := h
  exact rfl
theorem k83_mkM (w : World) (base : Nat) (ok : Nat → Prop) (x : S83)  : k83.M w base ok x [.int .i64 x.f0, .int .i64 x.f1, .int .i64 x.f2, .int .i64 x.f3] := ⟨[.int .i64 x.f0], [.int .i64 x.f1, .int .i64 x.f2, .int .i64 x.f3], rfl, rfl, ⟨[.int .i64 x.f1], [.int .i64 x.f2, .int .i64 x.f3], rfl, rfl, ⟨[.int .i64 x.f2], [.int .i64 x.f3], rfl, rfl, rfl⟩⟩⟩
def rd_T83 (xs : List S83) (i : Int) : S83 := xs.getD i.toNat z83
theorem at_T83 {w : World} {A : Option Addr} {n : Nat} {xs : List S83} (h : Kd.C k83 w A n xs) (i : Int) (h0 : 0 ≤ i) (h1 : i < n) : ∃ ad , A = some ad ∧ w.cell? (ad.add (i.toNat * 4)) = some (.int .i64 (rd_T83 xs i).f0) ∧ w.cell? ⟨(ad.add (i.toNat * 4)).block, (ad.add (i.toNat * 4)).off + 1, none⟩ = some (.int .i64 (rd_T83 xs i).f1) ∧ w.cell? ⟨(ad.add (i.toNat * 4)).block, (ad.add (i.toNat * 4)).off + 2, none⟩ = some (.int .i64 (rd_T83 xs i).f2) ∧ w.cell? ⟨(ad.add (i.toNat * 4)).block, (ad.add (i.toNat * 4)).off + 3, none⟩ = some (.int .i64 (rd_T83 xs i).f3) := by
  obtain ⟨ad, c, e, _, hK, hc0⟩ := Kd.C_get h z83 i h0 h1
  have hc : ∀ j u, c[j]? = some u → w.cell? (ad.add (i.toNat * 4 + j)) = some u := hc0
  obtain rfl := k83_open hK
  exact ⟨ad, e, hc 0 _ rfl, by rw [← add_field _ _ 1 (by omega)]; exact hc 1 _ rfl, by rw [← add_field _ _ 2 (by omega)]; exact hc 2 _ rfl, by rw [← add_field _ _ 3 (by omega)]; exact hc 3 _ rfl⟩

/-! #### struct type 76 -/
structure S76 where
  f0 : Int
  f1 : Int
  f2 : Int
  f3 : Int
  f4 : Int
def z76 : S76 := ⟨(0 : Int), (0 : Int), (0 : Int), (0 : Int), (0 : Int)⟩
def k76 : Kd S76 := Kd.iso (Kd.pair (Kd.int .i64) (Kd.pair (Kd.int .i64) (Kd.pair (Kd.int .i64) (Kd.pair (Kd.int .i64) (Kd.int .u64))))) (fun x : S76 => (x.f0, x.f1, x.f2, x.f3, x.f4))
theorem k76_open {w : World} {x : S76} {cs : List Value} (h : k76.K w x cs) : cs = [.int .i64 x.f0, .int .i64 x.f1, .int .i64 x.f2, .int .i64 x.f3, .int .u64 x.f4] := by
  obtain ⟨_, _, rfl, rfl, ⟨_, _, rfl, rfl, ⟨_, _, rfl, rfl, ⟨_, _, rfl, rfl, rfl⟩⟩⟩⟩ := h
  exact rfl
theorem k76_mkM (w : World) (base : Nat) (ok : Nat → Prop) (x : S76)  : k76.M w base ok x [.int .i64 x.f0, .int .i64 x.f1, .int .i64 x.f2, .int .i64 x.f3, .int .u64 x.f4] := ⟨[.int .i64 x.f0], [.int .i64 x.f1, .int .i64 x.f2, .int .i64 x.f3, .int .u64 x.f4], rfl, rfl, ⟨[.int .i64 x.f1], [.int .i64 x.f2, .int .i64 x.f3, .int .u64 x.f4], rfl, rfl, ⟨[.int .i64 x.f2], [.int .i64 x.f3, .int .u64 x.f4], rfl, rfl, ⟨[.int .i64 x.f3], [.int .u64 x.f4], rfl, rfl, rfl⟩⟩⟩⟩
def rd_T76 (xs : List S76) (i : Int) : S76 := xs.getD i.toNat z76
theorem at_T76 {w : World} {A : Option Addr} {n : Nat} {xs : List S76} (h : Kd.C k76 w A n xs) (i : Int) (h0 : 0 ≤ i) (h1 : i < n) : ∃ ad , A = some ad ∧ w.cell? (ad.add (i.toNat * 5)) = some (.int .i64 (rd_T76 xs i).f0) ∧ w.cell? ⟨(ad.add (i.toNat * 5)).block, (ad.add (i.toNat * 5)).off + 1, none⟩ = some (.int .i64 (rd_T76 xs i).f1) ∧ w.cell? ⟨(ad.add (i.toNat * 5)).block, (ad.add (i.toNat * 5)).off + 2, none⟩ = some (.int .i64 (rd_T76 xs i).f2) ∧ w.cell? ⟨(ad.add (i.toNat * 5)).block, (ad.add (i.toNat * 5)).off + 3, none⟩ = some (.int .i64 (rd_T76 xs i).f3) ∧ w.cell? ⟨(ad.add (i.toNat * 5)).block, (ad.add (i.toNat * 5)).off + 4, none⟩ = some (.int .u64 (rd_T76 xs i).f4) := by
  obtain ⟨ad, c, e, _, hK, hc0⟩ := Kd.C_get h z76 i h0 h1
  have hc : ∀ j u, c[j]? = some u → w.cell? (ad.add (i.toNat * 5 + j)) = some u := hc0
  obtain rfl := k76_open hK
  exact ⟨ad, e, hc 0 _ rfl, by rw [← add_field _ _ 1 (by omega)]; exact hc 1 _ rfl, by rw [← add_field _ _ 2 (by omega)]; exact hc 2 _ rfl, by rw [← add_field _ _ 3 (by omega)]; exact hc 3 _ rfl, by rw [← add_field _ _ 4 (by omega)]; exact hc 4 _ rfl⟩

def rd_L11 (xs : List (List S76)) (i : Int) : (List S76) := xs.getD i.toNat ([] : List S76)
def rd_L12 (xs : List (List Int)) (i : Int) : (List Int) := xs.getD i.toNat ([] : List Int)
end Go.Proofs.YtdfkbiffdcfnpaaGreatDoor.H
-- Written by hp.py (a program of this session, over the kit's print.py), with hand-made contracts beside it.
namespace Go.Proofs.YtdfkbiffdcfnpaaGreatDoor.H
open Go.RowKit Go.Proofs.YtdfkbiffdcfnpaaGreatDoorW.PrintWords Go.Proofs.YtdfkbiffdcfnpaaGreatDoorW.PrintLast Go.Proofs.YtdfkbiffdcfnpaaGreatDoorW.PrintMore
attribute [local go_sem] max2_int min2_int max_two min_two max_three min_three max_four min_four   -- for this text's walks alone
set_option linter.unusedVariables false
set_option linter.unusedSimpArgs false

/-! ### remontoirkeep_LightDef: function 10 -/
mutual
def remontoirkeep_LightDef.j0 : Nat → Bool → ByteArray → List (S86) → List (S51) → Option (Bool)
  | 0, _, _, _, _ => none
  | k + 1, x20, x102000, x102001, x102002 => if x20 = true then (some false) else (remontoirkeep_LightDef.l0 k 0 x102000 x102001 x102002)
def remontoirkeep_LightDef.l0 : Nat → Int → ByteArray → List (S86) → List (S51) → Option (Bool)
  | 0, _, _, _, _ => none
  | k + 1, x3, x102000, x102001, x102002 => if x3 < (x102001.length : Int) then (if 0 ≤ x3 then (if (((rd_T86 x102001 x3).f4).size : Int) > 80 then (some false) else (remontoirkeep_LightDef.l0 k (wrap64 (x3 + 1)) x102000 x102001 x102002)) else (none)) else (remontoirkeep_LightDef.l1 k 0 x102000 x102001 x102002)
def remontoirkeep_LightDef.l1 : Nat → Int → ByteArray → List (S86) → List (S51) → Option (Bool)
  | 0, _, _, _, _ => none
  | k + 1, x4, x102000, x102001, x102002 => if x4 < (x102002.length : Int) then (if 0 ≤ x4 then (if (((rd_T51 x102002 x4).f4).size : Int) > 80 then (some false) else (remontoirkeep_LightDef.l1 k (wrap64 (x4 + 1)) x102000 x102001 x102002)) else (none)) else (some true)
end
def remontoirkeep_LightDef.f (k : Nat) (a0_0 : ByteArray) (l0_1 : List (S86)) (l0_2 : List (S51)) : Option (Bool) := if (l0_1.length : Int) > 70 then (remontoirkeep_LightDef.j0 k true a0_0 l0_1 l0_2) else (if (l0_2.length : Int) > 110 then (remontoirkeep_LightDef.j0 k true a0_0 l0_1 l0_2) else (remontoirkeep_LightDef.j0 k (decide ((a0_0.size : Int) > 60)) a0_0 l0_1 l0_2))
theorem remontoirkeep_LightDef.mono_l : ∀ k, (∀ y0 y1 y2 y3, LeO (remontoirkeep_LightDef.j0 k y0 y1 y2 y3) (remontoirkeep_LightDef.j0 (k + 1) y0 y1 y2 y3)) ∧ (∀ y0 y1 y2 y3, LeO (remontoirkeep_LightDef.l0 k y0 y1 y2 y3) (remontoirkeep_LightDef.l0 (k + 1) y0 y1 y2 y3)) ∧ (∀ y0 y1 y2 y3, LeO (remontoirkeep_LightDef.l1 k y0 y1 y2 y3) (remontoirkeep_LightDef.l1 (k + 1) y0 y1 y2 y3))
  | 0 => ⟨fun _ _ _ _ r h => by simp [remontoirkeep_LightDef.j0] at h, fun _ _ _ _ r h => by simp [remontoirkeep_LightDef.l0] at h, fun _ _ _ _ r h => by simp [remontoirkeep_LightDef.l1] at h⟩
  | k + 1 => by
    obtain ⟨ih0, ih1, ih2⟩ := remontoirkeep_LightDef.mono_l k
    refine ⟨?_, ?_, ?_⟩
    · intro y0 y1 y2 y3
      unfold remontoirkeep_LightDef.j0
      repeat' first
      | (with_reducible exact ih0 _ _ _ _)
      | (with_reducible exact ih1 _ _ _ _)
      | (with_reducible exact ih2 _ _ _ _)
      | (with_reducible exact LeO.refl _)
      | (with_reducible exact LeO.none _)
      | (with_reducible refine LeO.ite ?_ ?_)
      | (with_reducible refine LeO.bind ?_ (fun _ => ?_))
      | exact ih0 _ _ _ _
      | exact ih1 _ _ _ _
      | exact ih2 _ _ _ _
      | exact LeO.none _
      | refine LeO.ite ?_ ?_
      | refine LeO.bind ?_ (fun _ => ?_)
    · intro y0 y1 y2 y3
      unfold remontoirkeep_LightDef.l0
      repeat' first
      | (with_reducible exact ih0 _ _ _ _)
      | (with_reducible exact ih1 _ _ _ _)
      | (with_reducible exact ih2 _ _ _ _)
      | (with_reducible exact LeO.refl _)
      | (with_reducible exact LeO.none _)
      | (with_reducible refine LeO.ite ?_ ?_)
      | (with_reducible refine LeO.bind ?_ (fun _ => ?_))
      | exact ih0 _ _ _ _
      | exact ih1 _ _ _ _
      | exact ih2 _ _ _ _
      | exact LeO.none _
      | refine LeO.ite ?_ ?_
      | refine LeO.bind ?_ (fun _ => ?_)
    · intro y0 y1 y2 y3
      unfold remontoirkeep_LightDef.l1
      repeat' first
      | (with_reducible exact ih0 _ _ _ _)
      | (with_reducible exact ih1 _ _ _ _)
      | (with_reducible exact ih2 _ _ _ _)
      | (with_reducible exact LeO.refl _)
      | (with_reducible exact LeO.none _)
      | (with_reducible refine LeO.ite ?_ ?_)
      | (with_reducible refine LeO.bind ?_ (fun _ => ?_))
      | exact ih0 _ _ _ _
      | exact ih1 _ _ _ _
      | exact ih2 _ _ _ _
      | exact LeO.none _
      | refine LeO.ite ?_ ?_
      | refine LeO.bind ?_ (fun _ => ?_)
theorem remontoirkeep_LightDef.mono : ∀ a0 a1 a2 k, LeO (remontoirkeep_LightDef.f k a0 a1 a2) (remontoirkeep_LightDef.f (k + 1) a0 a1 a2) := by
  intro a0 a1 a2 k
  obtain ⟨ih0, ih1, ih2⟩ := remontoirkeep_LightDef.mono_l k
  unfold remontoirkeep_LightDef.f
  repeat' first
      | (with_reducible exact ih0 _ _ _ _)
      | (with_reducible exact ih1 _ _ _ _)
      | (with_reducible exact ih2 _ _ _ _)
      | (with_reducible exact LeO.refl _)
      | (with_reducible exact LeO.none _)
      | (with_reducible refine LeO.ite ?_ ?_)
      | (with_reducible refine LeO.bind ?_ (fun _ => ?_))
      | exact ih0 _ _ _ _
      | exact ih1 _ _ _ _
      | exact ih2 _ _ _ _
      | exact LeO.none _
      | refine LeO.ite ?_ ?_
      | refine LeO.bind ?_ (fun _ => ?_)
set_option maxHeartbeats 8000000 in
set_option maxRecDepth 100000 in
theorem remontoirkeep_LightDef.calls (k : Nat) (a0_0 : ByteArray) (A0_1 : Option Addr) (c0_1 : Nat) (l0_1 : List (S86)) (A0_2 : Option Addr) (c0_2 : Nat) (l0_2 : List (S51)) (r : Bool) (w : World) (hr0_1 : Kd.C k86 w A0_1 l0_1.length l0_1) (hc0_1 : l0_1.length ≤ c0_1) (hr0_2 : Kd.C k51 w A0_2 l0_2.length l0_2) (hc0_2 : l0_2.length ≤ c0_2) (h : remontoirkeep_LightDef.f k a0_0 l0_1 l0_2 = some r) :
  Calls Tryz.prog 10 #[.agg #[.string a0_0, .slice A0_1 l0_1.length c0_1, .slice A0_2 l0_2.length c0_2]] w fun e w' => e = .returned (.bool r) ∧ Below w.heap.size w w' := by
 have hu25 := Tryz.underlying25
 have HR0_1 := Aside0.mk hr0_1
 have HC0_1 := Aside0.mk hc0_1
 clear hr0_1 hc0_1
 have HR0_2 := Aside0.mk hr0_2
 have HC0_2 := Aside0.mk hc0_2
 clear hr0_2 hc0_2
 have HB := Aside0.mk (Below.refl w.heap.size w)
 have H : (if (l0_1.length : Int) > 70 then (remontoirkeep_LightDef.j0 k true a0_0 l0_1 l0_2) else (if (l0_2.length : Int) > 110 then (remontoirkeep_LightDef.j0 k true a0_0 l0_1 l0_2) else (remontoirkeep_LightDef.j0 k (decide ((a0_0.size : Int) > 60)) a0_0 l0_1 l0_2))) = some r := h
 clear h
 have HC2 := Aside0.mk H
 clear H
 go_enter Tryz.func10, Tryz.ntmps10
 go_upto_region 1 with (first | ((with_reducible refine gate_dst (N := 1) rfl ?_); (try (refine gate_guard (by rfl) ?_; dsimp only)); refine box_event ?hg (N := 1) ?hd (cs := #[.string a0_0, .slice A0_1 l0_1.length c0_1, .slice A0_2 l0_2.length c0_2]) (t := 25) ?hr ?_; (case hd => rfl); (case hg => rfl); (case hr => first | (go_simp; done) | (go_simp; rfl)); intro gb101 hg w3 hbox hb; have n0_ := Aside0.mk (bsp (by repeat (first | (with_reducible first | exact HB.out | apply bal | apply pbN | apply bd1) | exact HB.out)) hb); have n1_ := Aside0.mk (hbox); have n2_ := Aside0.mk ((by rw [hg]; exact (bsz (by repeat (first | (with_reducible first | exact HB.out | apply bal | apply pbN | apply bd1) | exact HB.out))) : w.heap.size ≤ gb101)); have n3_ := Aside0.mk ((by rw [hg]; exact (bsz (by repeat (first | (with_reducible first | exact HB.out | apply bal | apply pbN | apply bd1) | exact HB.out))) : w.heap.size ≤ gb101)); clear HB; have HB := n0_; have BK101 := n1_; have GW101 := n2_; have GE101 := n3_; clear n0_ n1_ n2_ n3_; clear hb hbox hg))
 (try simp only [Act.put, List.setIfInBounds_toArray, List.set_cons_zero, List.set_cons_succ])
 go_cut [20] (fun v20 wc => ∃ (kq : Nat) (x20_1 : Bool), v20 = .bool x20_1 ∧ Aside0 (remontoirkeep_LightDef.j0 kq x20_1 a0_0 l0_1 l0_2 = some r) ∧ Aside0 (kq ≤ k) ∧ Aside0 (wc.heap[gb101]? = some (.cells #[.string a0_0, (.slice A0_1 l0_1.length c0_1), (.slice A0_2 l0_2.length c0_2)] 25 (0, 0))) ∧ Aside0 (Below w.heap.size w wc))
 case first =>
  have H := HC2.out
  clear HC2
  by_cases c4 : (l0_1.length : Int) > 70
  ·rw [if_pos c4] at H
   have c4b0 : decide (70 < (l0_1.length : Int)) = true := decide_eq_true c4
   have c4b1 : decide (70 < l0_1.length) = true := decide_eq_true (by omega)
   clear c4
   (first | rw [c4b0] | (simp only [i64_w, i32_w]; rw [c4b0]) | skip)
   have H' := Aside0.mk H
   clear H
   have hcz5_0 : w3.cell? ⟨gb101, 0, none⟩ = some (.string a0_0) := (bce BK101.out 0).trans rfl
   have hcz5_1 : w3.cell? ⟨gb101, 1, none⟩ = some (.slice A0_1 l0_1.length c0_1) := (bce BK101.out 1).trans rfl
   have hcz5_2 : w3.cell? ⟨gb101, 2, none⟩ = some (.slice A0_2 l0_2.length c0_2) := (bce BK101.out 2).trans rfl
   have hfz5_0 := bfz BK101.out 0
   have hfz5_1 := bfz BK101.out 1
   have hfz5_2 := bfz BK101.out 2
   go_wp2
   go_meet
   case rel => exact ⟨_, (true), (by first | rfl | (simp; done) | (simp [*]; done)), H', ⟨by first | omega | exact Nat.le_refl _⟩, ⟨by (with_reducible repeat (first | refine bkn ?_ _ | refine bkd ?_ | refine bka ?_ _)); exact BK101.out⟩, ⟨by repeat (first | (with_reducible first | exact HB.out | apply bal | apply pbN | apply bd1 | refine bst ?_ GE101.out) | exact HB.out)⟩⟩
  ·rw [if_neg c4] at H
   have c4b0 : decide (70 < (l0_1.length : Int)) = false := decide_eq_false c4
   have c4b1 : decide (70 < l0_1.length) = false := decide_eq_false (by omega)
   clear c4
   (first | rw [c4b0] | (simp only [i64_w, i32_w]; rw [c4b0]) | skip)
   by_cases c6 : (l0_2.length : Int) > 110
   ·rw [if_pos c6] at H
    have c6b0 : decide (110 < (l0_2.length : Int)) = true := decide_eq_true c6
    have c6b1 : decide (110 < l0_2.length) = true := decide_eq_true (by omega)
    clear c6
    have H' := Aside0.mk H
    clear H
    have hcz7_0 : w3.cell? ⟨gb101, 0, none⟩ = some (.string a0_0) := (bce BK101.out 0).trans rfl
    have hcz7_1 : w3.cell? ⟨gb101, 1, none⟩ = some (.slice A0_1 l0_1.length c0_1) := (bce BK101.out 1).trans rfl
    have hcz7_2 : w3.cell? ⟨gb101, 2, none⟩ = some (.slice A0_2 l0_2.length c0_2) := (bce BK101.out 2).trans rfl
    have hfz7_0 := bfz BK101.out 0
    have hfz7_1 := bfz BK101.out 1
    have hfz7_2 := bfz BK101.out 2
    go_wp2
    go_meet
    case rel => exact ⟨_, (true), (by first | rfl | (simp; done) | (simp [*]; done)), H', ⟨by first | omega | exact Nat.le_refl _⟩, ⟨by (with_reducible repeat (first | refine bkn ?_ _ | refine bkd ?_ | refine bka ?_ _)); exact BK101.out⟩, ⟨by repeat (first | (with_reducible first | exact HB.out | apply bal | apply pbN | apply bd1 | refine bst ?_ GE101.out) | exact HB.out)⟩⟩
   ·rw [if_neg c6] at H
    have c6b0 : decide (110 < (l0_2.length : Int)) = false := decide_eq_false c6
    have c6b1 : decide (110 < l0_2.length) = false := decide_eq_false (by omega)
    clear c6
    have H' := Aside0.mk H
    clear H
    have hcz8_0 : w3.cell? ⟨gb101, 0, none⟩ = some (.string a0_0) := (bce BK101.out 0).trans rfl
    have hcz8_1 : w3.cell? ⟨gb101, 1, none⟩ = some (.slice A0_1 l0_1.length c0_1) := (bce BK101.out 1).trans rfl
    have hcz8_2 : w3.cell? ⟨gb101, 2, none⟩ = some (.slice A0_2 l0_2.length c0_2) := (bce BK101.out 2).trans rfl
    have hfz8_0 := bfz BK101.out 0
    have hfz8_1 := bfz BK101.out 1
    have hfz8_2 := bfz BK101.out 2
    go_wp2
    go_meet
    case rel => exact ⟨_, (decide ((a0_0.size : Int) > 60)), (by first | rfl | (simp; done) | (simp [*]; done)), H', ⟨by first | omega | exact Nat.le_refl _⟩, ⟨by (with_reducible repeat (first | refine bkn ?_ _ | refine bkd ?_ | refine bka ?_ _)); exact BK101.out⟩, ⟨by repeat (first | (with_reducible first | exact HB.out | apply bal | apply pbN | apply bd1 | refine bst ?_ GE101.out) | exact HB.out)⟩⟩
 case rest =>
  clear HC2
  try clear c1
  try clear p2
  try clear c4
  try clear c4b0
  try clear c4b1
  try clear c6
  try clear c6b0
  try clear c6b1
  try clear hcz5_0
  try clear hcz5_1
  try clear hcz5_2
  try clear hcz7_0
  try clear hcz7_1
  try clear hcz7_2
  try clear hcz8_0
  try clear hcz8_1
  try clear hcz8_2
  try clear hfz5_0
  try clear hfz5_1
  try clear hfz5_2
  try clear hfz7_0
  try clear hfz7_1
  try clear hfz7_2
  try clear hfz8_0
  try clear hfz8_1
  try clear hfz8_2
  obtain ⟨kq, x20_1, rfl, HA, HJ1, BK101, HB⟩ := hcut
  cases kq with
  | zero => exact absurd HA.out (by simp [remontoirkeep_LightDef.j0])
  | succ kj1 =>
   have H := HA.out
   clear HA
   simp only [remontoirkeep_LightDef.j0] at H
   by_cases c9 : x20_1 = true
   ·subst c9
    have H1 : (some false) = some r := by rw [if_pos rfl] at H; exact H
    clear H
    have H := H1
    clear H1
    obtain rfl := Option.some.inj H
    go_wp2
    go_ret
    exact ⟨by first | rfl | (simp [errW_none, errW_some] <;> rfl) | (simp [*, errW_none, errW_some] <;> rfl), by repeat (first | (with_reducible first | exact HB.out | apply bal | apply pbN | apply bd1 | refine bst ?_ GE101.out) | exact HB.out)⟩
   ·replace c9 := Bool.eq_false_iff.mpr c9
    subst c9
    have H1 : (remontoirkeep_LightDef.l0 kj1 0 a0_0 l0_1 l0_2) = some r := by rw [if_neg (show ¬ (false = true) by decide)] at H; exact H
    clear H
    have H := H1
    clear H1
    have H' := Aside0.mk H
    clear H
    go_wp2
    go_loopg [3] kj1 (fun kq v3 w' => ∃ (x3_2 : Int), v3 = .int .i64 x3_2 ∧ Aside0 (remontoirkeep_LightDef.l0 kq x3_2 a0_0 l0_1 l0_2 = some r) ∧ Aside0 (kq ≤ kj1) ∧ Aside0 (w'.heap[gb101]? = some (.cells #[.string a0_0, (.slice A0_1 l0_1.length c0_1), (.slice A0_2 l0_2.length c0_2)] 25 (0, 0))) ∧ Aside0 (Below w.heap.size w w'))
    case atStart => exact ⟨(0), (by first | rfl | (simp; done) | (simp [*]; done)), H', ⟨Nat.le_refl _⟩, ⟨by (with_reducible repeat (first | refine bkn ?_ _ | refine bkd ?_ | refine bka ?_ _)); exact BK101.out⟩, ⟨by repeat (first | (with_reducible first | exact HB.out | apply bal | apply pbN | apply bd1 | refine bst ?_ GE101.out) | exact HB.out)⟩⟩
    case round =>
     clear H'
     try clear c1
     try clear p2
     try clear c4
     try clear c4b0
     try clear c4b1
     try clear c6
     try clear c6b0
     try clear c6b1
     try clear c9
     try clear hcz5_0
     try clear hcz5_1
     try clear hcz5_2
     try clear hcz7_0
     try clear hcz7_1
     try clear hcz7_2
     try clear hcz8_0
     try clear hcz8_1
     try clear hcz8_2
     try clear hfz5_0
     try clear hfz5_1
     try clear hfz5_2
     try clear hfz7_0
     try clear hfz7_1
     try clear hfz7_2
     try clear hfz8_0
     try clear hfz8_1
     try clear hfz8_2
     try clear p2
     obtain ⟨x3_2, rfl, HA, HK2, BK101, HB⟩ := hrel
     cases gk with
     | zero => exact absurd HA.out (by simp [remontoirkeep_LightDef.l0])
     | succ k2 =>
      have H := HA.out
      clear HA
      simp only [remontoirkeep_LightDef.l0] at H
      by_cases c10 : x3_2 < (l0_1.length : Int)
      ·rw [if_pos c10] at H
       have c10b0 : decide (x3_2 < (l0_1.length : Int)) = true := decide_eq_true c10
       clear c10
       by_cases c11 : 0 ≤ x3_2
       ·rw [if_pos c11] at H
        have c11b0 : decide (0 ≤ x3_2) = true := decide_eq_true c11
        clear c11
        by_cases c12 : (((rd_T86 l0_1 x3_2).f4).size : Int) > 80
        ·rw [if_pos c12] at H
         have c12b0 : decide (80 < (((rd_T86 l0_1 x3_2).f4).size : Int)) = true := decide_eq_true c12
         have c12b1 : decide (80 < ((rd_T86 l0_1 x3_2).f4).size) = true := decide_eq_true (by omega)
         clear c12
         obtain rfl := Option.some.inj H
         have hcz13_0 : wr.cell? ⟨gb101, 0, none⟩ = some (.string a0_0) := (bce BK101.out 0).trans rfl
         have hcz13_1 : wr.cell? ⟨gb101, 1, none⟩ = some (.slice A0_1 l0_1.length c0_1) := (bce BK101.out 1).trans rfl
         have hcz13_2 : wr.cell? ⟨gb101, 2, none⟩ = some (.slice A0_2 l0_2.length c0_2) := (bce BK101.out 2).trans rfl
         have hfz13_0 := bfz BK101.out 0
         have hfz13_1 := bfz BK101.out 1
         have hfz13_2 := bfz BK101.out 2
         have p102 : 0 ≤ (x3_2 : Int) := of_decide_eq_true (by first | (with_reducible assumption) | assumption)
         have q102 : x3_2 < (l0_1.length : Int) := of_decide_eq_true (by first | (with_reducible assumption) | assumption)
         obtain ⟨ad102, e102, hx102_0, hx102_1, hx102_2, hx102_3, hx102_4⟩ := at_T86 HR0_1.out x3_2 p102 q102
         cases e102
         replace hx102_0 := (HB.out.cell (World.block_lt_of_cell? w _ hx102_0)).trans hx102_0
         replace hx102_1 := (HB.out.cell (World.block_lt_of_cell? w _ hx102_1)).trans hx102_1
         replace hx102_2 := (HB.out.cell (World.block_lt_of_cell? w _ hx102_2)).trans hx102_2
         replace hx102_3 := (HB.out.cell (World.block_lt_of_cell? w _ hx102_3)).trans hx102_3
         replace hx102_4 := (HB.out.cell (World.block_lt_of_cell? w _ hx102_4)).trans hx102_4
         replace p102 := eq_true p102
         replace q102 := eq_true q102
         go_wp2
         go_ret
         exact ⟨by first | rfl | (simp [errW_none, errW_some] <;> rfl) | (simp [*, errW_none, errW_some] <;> rfl), by repeat (first | (with_reducible first | exact HB.out | apply bal | apply pbN | apply bd1 | refine bst ?_ GE101.out) | exact HB.out)⟩
        ·rw [if_neg c12] at H
         have c12b0 : decide (80 < (((rd_T86 l0_1 x3_2).f4).size : Int)) = false := decide_eq_false c12
         have c12b1 : decide (80 < ((rd_T86 l0_1 x3_2).f4).size) = false := decide_eq_false (by omega)
         clear c12
         have H' := Aside0.mk H
         clear H
         have hcz14_0 : wr.cell? ⟨gb101, 0, none⟩ = some (.string a0_0) := (bce BK101.out 0).trans rfl
         have hcz14_1 : wr.cell? ⟨gb101, 1, none⟩ = some (.slice A0_1 l0_1.length c0_1) := (bce BK101.out 1).trans rfl
         have hcz14_2 : wr.cell? ⟨gb101, 2, none⟩ = some (.slice A0_2 l0_2.length c0_2) := (bce BK101.out 2).trans rfl
         have hfz14_0 := bfz BK101.out 0
         have hfz14_1 := bfz BK101.out 1
         have hfz14_2 := bfz BK101.out 2
         have p102 : 0 ≤ (x3_2 : Int) := of_decide_eq_true (by first | (with_reducible assumption) | assumption)
         have q102 : x3_2 < (l0_1.length : Int) := of_decide_eq_true (by first | (with_reducible assumption) | assumption)
         obtain ⟨ad102, e102, hx102_0, hx102_1, hx102_2, hx102_3, hx102_4⟩ := at_T86 HR0_1.out x3_2 p102 q102
         cases e102
         replace hx102_0 := (HB.out.cell (World.block_lt_of_cell? w _ hx102_0)).trans hx102_0
         replace hx102_1 := (HB.out.cell (World.block_lt_of_cell? w _ hx102_1)).trans hx102_1
         replace hx102_2 := (HB.out.cell (World.block_lt_of_cell? w _ hx102_2)).trans hx102_2
         replace hx102_3 := (HB.out.cell (World.block_lt_of_cell? w _ hx102_3)).trans hx102_3
         replace hx102_4 := (HB.out.cell (World.block_lt_of_cell? w _ hx102_4)).trans hx102_4
         replace p102 := eq_true p102
         replace q102 := eq_true q102
         go_wp2
         go_roundg k2
         case measure => have := HJ1.out; have := HK2.out; omega
         case rel => exact ⟨(wrap64 (x3_2 + 1)), (by first | rfl | (simp; done) | (simp [*]; done)), H', ⟨by have := HJ1.out; have := HK2.out; omega⟩, ⟨by (with_reducible repeat (first | refine bkn ?_ _ | refine bkd ?_ | refine bka ?_ _)); exact BK101.out⟩, ⟨by repeat (first | (with_reducible first | exact HB.out | apply bal | apply pbN | apply bd1 | refine bst ?_ GE101.out) | exact HB.out)⟩⟩
       ·rw [if_neg c11] at H
        exact absurd H (by simp)
      ·rw [if_neg c10] at H
       have c10b0 : decide (x3_2 < (l0_1.length : Int)) = false := decide_eq_false c10
       clear c10
       have H' := Aside0.mk H
       clear H
       have hcz15_0 : wr.cell? ⟨gb101, 0, none⟩ = some (.string a0_0) := (bce BK101.out 0).trans rfl
       have hcz15_1 : wr.cell? ⟨gb101, 1, none⟩ = some (.slice A0_1 l0_1.length c0_1) := (bce BK101.out 1).trans rfl
       have hcz15_2 : wr.cell? ⟨gb101, 2, none⟩ = some (.slice A0_2 l0_2.length c0_2) := (bce BK101.out 2).trans rfl
       have hfz15_0 := bfz BK101.out 0
       have hfz15_1 := bfz BK101.out 1
       have hfz15_2 := bfz BK101.out 2
       go_wp2
       go_loopg [4] k2 (fun kq v4 w' => ∃ (x4_3 : Int), v4 = .int .i64 x4_3 ∧ Aside0 (remontoirkeep_LightDef.l1 kq x4_3 a0_0 l0_1 l0_2 = some r) ∧ Aside0 (kq ≤ k2) ∧ Aside0 (w'.heap[gb101]? = some (.cells #[.string a0_0, (.slice A0_1 l0_1.length c0_1), (.slice A0_2 l0_2.length c0_2)] 25 (0, 0))) ∧ Aside0 (Below w.heap.size w w'))
       case atStart => exact ⟨(0), (by first | rfl | (simp; done) | (simp [*]; done)), H', ⟨Nat.le_refl _⟩, ⟨by (with_reducible repeat (first | refine bkn ?_ _ | refine bkd ?_ | refine bka ?_ _)); exact BK101.out⟩, ⟨by repeat (first | (with_reducible first | exact HB.out | apply bal | apply pbN | apply bd1 | refine bst ?_ GE101.out) | exact HB.out)⟩⟩
       case round =>
        clear H'
        try clear c1
        try clear p1
        try clear q1
        try clear hx1
        try clear p2
        try clear c4
        try clear c4b0
        try clear c4b1
        try clear c6
        try clear c6b0
        try clear c6b1
        try clear p6
        try clear c9
        try clear c10
        try clear c10b0
        try clear p10
        try clear q10
        try clear hx10
        try clear c11
        try clear c11b0
        try clear c12
        try clear c12b0
        try clear c12b1
        try clear hcz13_0
        try clear hcz13_1
        try clear hcz13_2
        try clear hcz14_0
        try clear hcz14_1
        try clear hcz14_2
        try clear hcz15_0
        try clear hcz15_1
        try clear hcz15_2
        try clear hcz5_0
        try clear hcz5_1
        try clear hcz5_2
        try clear hcz7_0
        try clear hcz7_1
        try clear hcz7_2
        try clear hcz8_0
        try clear hcz8_1
        try clear hcz8_2
        try clear hfz13_0
        try clear hfz13_1
        try clear hfz13_2
        try clear hfz14_0
        try clear hfz14_1
        try clear hfz14_2
        try clear hfz15_0
        try clear hfz15_1
        try clear hfz15_2
        try clear hfz5_0
        try clear hfz5_1
        try clear hfz5_2
        try clear hfz7_0
        try clear hfz7_1
        try clear hfz7_2
        try clear hfz8_0
        try clear hfz8_1
        try clear hfz8_2
        try clear hx102_0
        try clear hx102_1
        try clear hx102_2
        try clear hx102_3
        try clear hx102_4
        try clear p102
        try clear p2
        try clear q102
        obtain ⟨x4_3, rfl, HA, HK3, BK101, HB⟩ := hrel
        cases gk with
        | zero => exact absurd HA.out (by simp [remontoirkeep_LightDef.l1])
        | succ k3 =>
         have H := HA.out
         clear HA
         simp only [remontoirkeep_LightDef.l1] at H
         by_cases c16 : x4_3 < (l0_2.length : Int)
         ·rw [if_pos c16] at H
          have c16b0 : decide (x4_3 < (l0_2.length : Int)) = true := decide_eq_true c16
          clear c16
          by_cases c17 : 0 ≤ x4_3
          ·rw [if_pos c17] at H
           have c17b0 : decide (0 ≤ x4_3) = true := decide_eq_true c17
           clear c17
           by_cases c18 : (((rd_T51 l0_2 x4_3).f4).size : Int) > 80
           ·rw [if_pos c18] at H
            have c18b0 : decide (80 < (((rd_T51 l0_2 x4_3).f4).size : Int)) = true := decide_eq_true c18
            have c18b1 : decide (80 < ((rd_T51 l0_2 x4_3).f4).size) = true := decide_eq_true (by omega)
            clear c18
            obtain rfl := Option.some.inj H
            have hcz19_0 : wr.cell? ⟨gb101, 0, none⟩ = some (.string a0_0) := (bce BK101.out 0).trans rfl
            have hcz19_1 : wr.cell? ⟨gb101, 1, none⟩ = some (.slice A0_1 l0_1.length c0_1) := (bce BK101.out 1).trans rfl
            have hcz19_2 : wr.cell? ⟨gb101, 2, none⟩ = some (.slice A0_2 l0_2.length c0_2) := (bce BK101.out 2).trans rfl
            have hfz19_0 := bfz BK101.out 0
            have hfz19_1 := bfz BK101.out 1
            have hfz19_2 := bfz BK101.out 2
            have p103 : 0 ≤ (x4_3 : Int) := of_decide_eq_true (by first | (with_reducible assumption) | assumption)
            have q103 : x4_3 < (l0_2.length : Int) := of_decide_eq_true (by first | (with_reducible assumption) | assumption)
            obtain ⟨ad103, e103, hx103_0, hx103_1, hx103_2, hx103_3, hx103_4⟩ := at_T51 HR0_2.out x4_3 p103 q103
            cases e103
            replace hx103_0 := (HB.out.cell (World.block_lt_of_cell? w _ hx103_0)).trans hx103_0
            replace hx103_1 := (HB.out.cell (World.block_lt_of_cell? w _ hx103_1)).trans hx103_1
            replace hx103_2 := (HB.out.cell (World.block_lt_of_cell? w _ hx103_2)).trans hx103_2
            replace hx103_3 := (HB.out.cell (World.block_lt_of_cell? w _ hx103_3)).trans hx103_3
            replace hx103_4 := (HB.out.cell (World.block_lt_of_cell? w _ hx103_4)).trans hx103_4
            replace p103 := eq_true p103
            replace q103 := eq_true q103
            go_wp2
            go_ret
            exact ⟨by first | rfl | (simp [errW_none, errW_some] <;> rfl) | (simp [*, errW_none, errW_some] <;> rfl), by repeat (first | (with_reducible first | exact HB.out | apply bal | apply pbN | apply bd1 | refine bst ?_ GE101.out) | exact HB.out)⟩
           ·rw [if_neg c18] at H
            have c18b0 : decide (80 < (((rd_T51 l0_2 x4_3).f4).size : Int)) = false := decide_eq_false c18
            have c18b1 : decide (80 < ((rd_T51 l0_2 x4_3).f4).size) = false := decide_eq_false (by omega)
            clear c18
            have H' := Aside0.mk H
            clear H
            have hcz20_0 : wr.cell? ⟨gb101, 0, none⟩ = some (.string a0_0) := (bce BK101.out 0).trans rfl
            have hcz20_1 : wr.cell? ⟨gb101, 1, none⟩ = some (.slice A0_1 l0_1.length c0_1) := (bce BK101.out 1).trans rfl
            have hcz20_2 : wr.cell? ⟨gb101, 2, none⟩ = some (.slice A0_2 l0_2.length c0_2) := (bce BK101.out 2).trans rfl
            have hfz20_0 := bfz BK101.out 0
            have hfz20_1 := bfz BK101.out 1
            have hfz20_2 := bfz BK101.out 2
            have p103 : 0 ≤ (x4_3 : Int) := of_decide_eq_true (by first | (with_reducible assumption) | assumption)
            have q103 : x4_3 < (l0_2.length : Int) := of_decide_eq_true (by first | (with_reducible assumption) | assumption)
            obtain ⟨ad103, e103, hx103_0, hx103_1, hx103_2, hx103_3, hx103_4⟩ := at_T51 HR0_2.out x4_3 p103 q103
            cases e103
            replace hx103_0 := (HB.out.cell (World.block_lt_of_cell? w _ hx103_0)).trans hx103_0
            replace hx103_1 := (HB.out.cell (World.block_lt_of_cell? w _ hx103_1)).trans hx103_1
            replace hx103_2 := (HB.out.cell (World.block_lt_of_cell? w _ hx103_2)).trans hx103_2
            replace hx103_3 := (HB.out.cell (World.block_lt_of_cell? w _ hx103_3)).trans hx103_3
            replace hx103_4 := (HB.out.cell (World.block_lt_of_cell? w _ hx103_4)).trans hx103_4
            replace p103 := eq_true p103
            replace q103 := eq_true q103
            go_wp2
            go_roundg k3
            case measure => have := HJ1.out; have := HK2.out; have := HK3.out; omega
            case rel => exact ⟨(wrap64 (x4_3 + 1)), (by first | rfl | (simp; done) | (simp [*]; done)), H', ⟨by have := HJ1.out; have := HK2.out; have := HK3.out; omega⟩, ⟨by (with_reducible repeat (first | refine bkn ?_ _ | refine bkd ?_ | refine bka ?_ _)); exact BK101.out⟩, ⟨by repeat (first | (with_reducible first | exact HB.out | apply bal | apply pbN | apply bd1 | refine bst ?_ GE101.out) | exact HB.out)⟩⟩
          ·rw [if_neg c17] at H
           exact absurd H (by simp)
         ·rw [if_neg c16] at H
          have c16b0 : decide (x4_3 < (l0_2.length : Int)) = false := decide_eq_false c16
          clear c16
          obtain rfl := Option.some.inj H
          have hcz21_0 : wr.cell? ⟨gb101, 0, none⟩ = some (.string a0_0) := (bce BK101.out 0).trans rfl
          have hcz21_1 : wr.cell? ⟨gb101, 1, none⟩ = some (.slice A0_1 l0_1.length c0_1) := (bce BK101.out 1).trans rfl
          have hcz21_2 : wr.cell? ⟨gb101, 2, none⟩ = some (.slice A0_2 l0_2.length c0_2) := (bce BK101.out 2).trans rfl
          have hfz21_0 := bfz BK101.out 0
          have hfz21_1 := bfz BK101.out 1
          have hfz21_2 := bfz BK101.out 2
          go_wp2
          go_ret
          exact ⟨by first | rfl | (simp [errW_none, errW_some] <;> rfl) | (simp [*, errW_none, errW_some] <;> rfl), by repeat (first | (with_reducible first | exact HB.out | apply bal | apply pbN | apply bd1 | refine bst ?_ GE101.out) | exact HB.out)⟩

end Go.Proofs.YtdfkbiffdcfnpaaGreatDoor.H
-- Written by hp.py (a program of this session, over the kit's print.py), with hand-made contracts beside it.
namespace Go.Proofs.YtdfkbiffdcfnpaaGreatDoor.H
open Go.RowKit Go.Proofs.YtdfkbiffdcfnpaaGreatDoorW.PrintWords Go.Proofs.YtdfkbiffdcfnpaaGreatDoorW.PrintLast Go.Proofs.YtdfkbiffdcfnpaaGreatDoorW.PrintMore
attribute [local go_sem] max2_int min2_int max_two min_two max_three min_three max_four min_four   -- for this text's walks alone
set_option linter.unusedVariables false
set_option linter.unusedSimpArgs false

/-! ### orders_class: function 38 -/
def orders_class.f (a0_0 : ByteArray) (l0_1 : List (S86)) (l0_2 : List (S51)) (a1 : Int) : Option (Int) := if a1 < 1 then (some 0) else (if a1 > (l0_1.length : Int) then (some 0) else (if 0 ≤ (wrap64 (a1 - 1)) then (if (wrap64 (a1 - 1)) < (l0_1.length : Int) then (some ((rd_T86 l0_1 (wrap64 (a1 - 1))).f2)) else (none)) else (none)))
set_option maxHeartbeats 8000000 in
set_option maxRecDepth 100000 in
theorem orders_class.calls (a0_0 : ByteArray) (A0_1 : Option Addr) (c0_1 : Nat) (l0_1 : List (S86)) (A0_2 : Option Addr) (c0_2 : Nat) (l0_2 : List (S51)) (a1 : Int) (r : Int) (w : World) (hr0_1 : Kd.C k86 w A0_1 l0_1.length l0_1) (hc0_1 : l0_1.length ≤ c0_1) (hr0_2 : Kd.C k51 w A0_2 l0_2.length l0_2) (hc0_2 : l0_2.length ≤ c0_2) (h : orders_class.f a0_0 l0_1 l0_2 a1 = some r) :
  Calls Tryz.prog 38 #[.agg #[.string a0_0, .slice A0_1 l0_1.length c0_1, .slice A0_2 l0_2.length c0_2], .int .i64 a1] w fun e w' => e = .returned (.int .i64 r) ∧ Below w.heap.size w w' := by
 have hu25 := Tryz.underlying25
 have HR0_1 := Aside0.mk hr0_1
 have HC0_1 := Aside0.mk hc0_1
 clear hr0_1 hc0_1
 have HR0_2 := Aside0.mk hr0_2
 have HC0_2 := Aside0.mk hc0_2
 clear hr0_2 hc0_2
 have HB := Aside0.mk (Below.refl w.heap.size w)
 have H : (if a1 < 1 then (some 0) else (if a1 > (l0_1.length : Int) then (some 0) else (if 0 ≤ (wrap64 (a1 - 1)) then (if (wrap64 (a1 - 1)) < (l0_1.length : Int) then (some ((rd_T86 l0_1 (wrap64 (a1 - 1))).f2)) else (none)) else (none)))) = some r := h
 clear h
 by_cases c3 : a1 < 1
 ·rw [if_pos c3] at H
  have c3b0 : decide (a1 < 1) = true := decide_eq_true c3
  clear c3
  obtain rfl := Option.some.inj H
  go_enter Tryz.func38, Tryz.ntmps38
  go_wp2_with (first | ((with_reducible refine gate_dst (N := 2) rfl ?_); (try (refine gate_guard (by rfl) ?_; dsimp only)); refine box_event ?hg (N := 2) ?hd (cs := #[.string a0_0, .slice A0_1 l0_1.length c0_1, .slice A0_2 l0_2.length c0_2]) (t := 25) ?hr ?_; (case hd => rfl); (case hg => rfl); (case hr => first | (go_simp; done) | (go_simp; rfl)); intro gb104 hg w4 hbox hb; have n0_ := Aside0.mk (bsp (by repeat (first | (with_reducible first | exact HB.out | apply bal | apply pbN | apply bd1) | exact HB.out)) hb); have n1_ := Aside0.mk (hbox); have n2_ := Aside0.mk ((by rw [hg]; exact (bsz (by repeat (first | (with_reducible first | exact HB.out | apply bal | apply pbN | apply bd1) | exact HB.out))) : w.heap.size ≤ gb104)); have n3_ := Aside0.mk ((by rw [hg]; exact (bsz (by repeat (first | (with_reducible first | exact HB.out | apply bal | apply pbN | apply bd1) | exact HB.out))) : w.heap.size ≤ gb104)); clear HB; have HB := n0_; have BK104 := n1_; have GW104 := n2_; have GE104 := n3_; clear n0_ n1_ n2_ n3_; clear hb hbox hg))
  go_ret
  exact ⟨by first | rfl | (simp [errW_none, errW_some] <;> rfl) | (simp [*, errW_none, errW_some] <;> rfl), by repeat (first | (with_reducible first | exact HB.out | apply bal | apply pbN | apply bd1 | refine bst ?_ GE104.out) | exact HB.out)⟩
 ·rw [if_neg c3] at H
  have c3b0 : decide (a1 < 1) = false := decide_eq_false c3
  clear c3
  by_cases c5 : a1 > (l0_1.length : Int)
  ·rw [if_pos c5] at H
   have c5b0 : decide ((l0_1.length : Int) < a1) = true := decide_eq_true c5
   clear c5
   obtain rfl := Option.some.inj H
   go_enter Tryz.func38, Tryz.ntmps38
   go_wp2_with (first | ((with_reducible refine gate_dst (N := 2) rfl ?_); (try (refine gate_guard (by rfl) ?_; dsimp only)); refine box_event ?hg (N := 2) ?hd (cs := #[.string a0_0, .slice A0_1 l0_1.length c0_1, .slice A0_2 l0_2.length c0_2]) (t := 25) ?hr ?_; (case hd => rfl); (case hg => rfl); (case hr => first | (go_simp; done) | (go_simp; rfl)); intro gb104 hg w6 hbox hb; have n0_ := Aside0.mk (bsp (by repeat (first | (with_reducible first | exact HB.out | apply bal | apply pbN | apply bd1) | exact HB.out)) hb); have n1_ := Aside0.mk (hbox); have n2_ := Aside0.mk ((by rw [hg]; exact (bsz (by repeat (first | (with_reducible first | exact HB.out | apply bal | apply pbN | apply bd1) | exact HB.out))) : w.heap.size ≤ gb104)); have n3_ := Aside0.mk ((by rw [hg]; exact (bsz (by repeat (first | (with_reducible first | exact HB.out | apply bal | apply pbN | apply bd1) | exact HB.out))) : w.heap.size ≤ gb104)); clear HB; have HB := n0_; have BK104 := n1_; have GW104 := n2_; have GE104 := n3_; clear n0_ n1_ n2_ n3_; clear hb hbox hg; have hcz7_0 : w6.cell? ⟨gb104, 0, none⟩ = some (.string a0_0) := (bce BK104.out 0).trans rfl; have hcz7_1 : w6.cell? ⟨gb104, 1, none⟩ = some (.slice A0_1 l0_1.length c0_1) := (bce BK104.out 1).trans rfl; have hcz7_2 : w6.cell? ⟨gb104, 2, none⟩ = some (.slice A0_2 l0_2.length c0_2) := (bce BK104.out 2).trans rfl; have hfz7_0 := bfz BK104.out 0; have hfz7_1 := bfz BK104.out 1; have hfz7_2 := bfz BK104.out 2))
   go_ret
   exact ⟨by first | rfl | (simp [errW_none, errW_some] <;> rfl) | (simp [*, errW_none, errW_some] <;> rfl), by repeat (first | (with_reducible first | exact HB.out | apply bal | apply pbN | apply bd1 | refine bst ?_ GE104.out) | exact HB.out)⟩
  ·rw [if_neg c5] at H
   have c5b0 : decide ((l0_1.length : Int) < a1) = false := decide_eq_false c5
   clear c5
   obtain ⟨ji8, hji8⟩ : ∃ j_ : Int, (wrap64 (a1 - 1)) = j_ := ⟨_, rfl⟩
   replace H : (if 0 ≤ (ji8) then (if (ji8) < (l0_1.length : Int) then (some ((rd_T86 l0_1 (ji8)).f2)) else (none)) else (none)) = some r := by first | (rw [hji8] at H; exact H) | (simp only [hji8] at H ⊢; exact H)
   have hji8w : (IntKind.i64.wrap (a1 - 1)) = ji8 := (i64_w _).trans hji8
   by_cases c9 : 0 ≤ (ji8)
   ·rw [if_pos c9] at H
    have c9b0 : decide (0 ≤ (ji8)) = true := decide_eq_true c9
    clear c9
    by_cases c10 : (ji8) < (l0_1.length : Int)
    ·rw [if_pos c10] at H
     have c10b0 : decide ((ji8) < (l0_1.length : Int)) = true := decide_eq_true c10
     clear c10
     obtain rfl := Option.some.inj H
     go_enter Tryz.func38, Tryz.ntmps38
     go_wp2_with (first | ((with_reducible refine gate_dst (N := 2) rfl ?_); (try (refine gate_guard (by rfl) ?_; dsimp only)); refine box_event ?hg (N := 2) ?hd (cs := #[.string a0_0, .slice A0_1 l0_1.length c0_1, .slice A0_2 l0_2.length c0_2]) (t := 25) ?hr ?_; (case hd => rfl); (case hg => rfl); (case hr => first | (go_simp; done) | (go_simp; rfl)); intro gb104 hg w11 hbox hb; have n0_ := Aside0.mk (bsp (by repeat (first | (with_reducible first | exact HB.out | apply bal | apply pbN | apply bd1) | exact HB.out)) hb); have n1_ := Aside0.mk (hbox); have n2_ := Aside0.mk ((by rw [hg]; exact (bsz (by repeat (first | (with_reducible first | exact HB.out | apply bal | apply pbN | apply bd1) | exact HB.out))) : w.heap.size ≤ gb104)); have n3_ := Aside0.mk ((by rw [hg]; exact (bsz (by repeat (first | (with_reducible first | exact HB.out | apply bal | apply pbN | apply bd1) | exact HB.out))) : w.heap.size ≤ gb104)); clear HB; have HB := n0_; have BK104 := n1_; have GW104 := n2_; have GE104 := n3_; clear n0_ n1_ n2_ n3_; clear hb hbox hg; have hcz12_0 : w11.cell? ⟨gb104, 0, none⟩ = some (.string a0_0) := (bce BK104.out 0).trans rfl; have hcz12_1 : w11.cell? ⟨gb104, 1, none⟩ = some (.slice A0_1 l0_1.length c0_1) := (bce BK104.out 1).trans rfl; have hcz12_2 : w11.cell? ⟨gb104, 2, none⟩ = some (.slice A0_2 l0_2.length c0_2) := (bce BK104.out 2).trans rfl; have hfz12_0 := bfz BK104.out 0; have hfz12_1 := bfz BK104.out 1; have hfz12_2 := bfz BK104.out 2; have p105 : 0 ≤ ((ji8) : Int) := of_decide_eq_true (by first | (with_reducible assumption) | assumption); have q105 : (ji8) < (l0_1.length : Int) := of_decide_eq_true (by first | (with_reducible assumption) | assumption); obtain ⟨ad105, e105, hx105_0, hx105_1, hx105_2, hx105_3, hx105_4⟩ := at_T86 HR0_1.out (ji8) p105 q105; cases e105; replace hx105_0 := (HB.out.cell (World.block_lt_of_cell? w _ hx105_0)).trans hx105_0; replace hx105_1 := (HB.out.cell (World.block_lt_of_cell? w _ hx105_1)).trans hx105_1; replace hx105_2 := (HB.out.cell (World.block_lt_of_cell? w _ hx105_2)).trans hx105_2; replace hx105_3 := (HB.out.cell (World.block_lt_of_cell? w _ hx105_3)).trans hx105_3; replace hx105_4 := (HB.out.cell (World.block_lt_of_cell? w _ hx105_4)).trans hx105_4; replace p105 := eq_true p105; replace q105 := eq_true q105))
     go_ret
     exact ⟨by first | rfl | (simp [errW_none, errW_some] <;> rfl) | (simp only [← hji8]; first | rfl | (simp [errW_none, errW_some] <;> rfl)) | (simp [*, errW_none, errW_some] <;> rfl), by repeat (first | (with_reducible first | exact HB.out | apply bal | apply pbN | apply bd1 | refine bst ?_ GE104.out) | exact HB.out)⟩
    ·rw [if_neg c10] at H
     exact absurd H (by simp)
   ·rw [if_neg c9] at H
    exact absurd H (by simp)

end Go.Proofs.YtdfkbiffdcfnpaaGreatDoor.H
/- Small laws of this session, over any program: an operation met by its run; a scope with several labels. -/
namespace Go.HK
open Go Go.RowKit

theorem wpList_doTo {P : Program} {ops : Array Oper} {rest : List Oper} {o : Oper} {a : Act} {w : World} {Q : Exit → Act → World → Prop} (hg : o.guard = none) (w' : World)
    (hrun : (execOp a.eval o).run P w = .ok .skip w')
    (h : wpList P ops Q rest (a.put o.dst undef) w') : wpList P ops Q (o :: rest) a w := by
  refine wpList_plain hg fun K hK => ?_
  unfold Oper.wp
  rw [hrun, Oper.upon_skip]
  exact hK _ _ h
theorem exec_store {P : Program} {ρ : Operand → Value} {o : Oper} {t : TypeId} {a x : Operand} (ho : o.op = .store t a x) {w w' : World} (h : (Instr.storeAt t (ρ a) (ρ x)).run P w = .ok () w') : (execOp ρ o).run P w = .ok .skip w' := by
  unfold execOp
  rw [ho]
  simp only [Sem.run_bind, h, Result.andThen]
  rfl
/-- As Q; by a goto to label l: J l. -/
def jumps (J : Nat → Act → World → Prop) (Q : Exit → Act → World → Prop) : Exit → Act → World → Prop
  | .goto l, a, w => J l a w
  | e, a, w => Q e a w

section
variable {P : Program} {a : Act} {w : World} {Q : Exit → Act → World → Prop}
theorem jumps_ret {J : Nat → Act → World → Prop} (h : Q .ret a w) : jumps J Q .ret a w := h
theorem wp_scope_labels {c : Code} (I : Nat → Nat → Act → World → Prop)
    (pass : ∀ l n a w, I l n a w → ∀ K : Nat → Act → World → Prop, (∀ l' n' a' w', n' < n → I l' n' a' w' → K l' a' w') → ∃ rest, findLabel c l = some (.seq .skip rest) ∧ rest.wp P (jumps K Q) a w)
    (first : ∀ K : Nat → Act → World → Prop, (∀ l n a' w', I l n a' w' → K l a' w') → (∀ l rest, findLabel c l = some (.seq .skip rest) → ∀ n a' w', I l n a' w' → rest.wp P (jumps K Q) a' w') → c.wp P (jumps K Q) a w) : (Code.scope c).wp P Q a w := by
  intro b k cs
  have key : ∀ n l a w, I l n a w → ∃ rest, findLabel c l = some rest ∧ ∃ e a' w', Q e a' w' ∧ Arrives P (lone (b.at a (.code rest :: .inScope c :: k)) cs w) b k cs e a' w' := by
    intro n
    induction n using Nat.strongRecOn with
    | _ n ih =>
      intro l a w hJ
      obtain ⟨rest, hr, hw0⟩ := pass l n a w hJ (fun l' a' w' => ∃ n', n' < n ∧ I l' n' a' w') (fun l' n' a' w' h1 h2 => ⟨n', h1, h2⟩)
      refine ⟨_, hr, ?_⟩
      have hw := wp_seq (x := Code.skip) (y := rest) (P := P) (Q := jumps (fun l' a' w' => ∃ n', n' < n ∧ I l' n' a' w') Q) (wp_skip hw0)
      obtain ⟨e, a₁, w₁, hq, harr⟩ := hw b (.inScope c :: k) cs
      cases e with
      | normal => exact ⟨.normal, a₁, w₁, hq, Steps.trans harr (.one step_inScope)⟩
      | exit id => exact ⟨.exit id, a₁, w₁, hq, fun k' hk => harr k' (by simp [exitTo, hk])⟩
      | goto l' =>
        obtain ⟨n', hlt, hJ'⟩ := hq
        obtain ⟨rest', hr', e₂, a₂, w₂, hq₂, harr₂⟩ := ih n' hlt l' a₁ w₁ hJ'
        exact ⟨e₂, a₂, w₂, hq₂, .of_steps (harr _ (by simp [gotoIn, hr'])) harr₂⟩
      | ret => exact ⟨_, a₁, w₁, hq, harr⟩
      | panic ch => exact ⟨_, a₁, w₁, hq, harr⟩
      | outgrown => exact ⟨_, a₁, w₁, hq, harr⟩
  obtain ⟨e, a₁, w₁, hq, harr⟩ := first (fun l a w => ∃ n, I l n a w) (fun l n a' w' h => ⟨n, h⟩) (fun l rest hr n a' w' h => by
    obtain ⟨rest', hr', hw⟩ := pass l n a' w' h (fun l a w => ∃ n, I l n a w) (fun l' n' a' w' _ h2 => ⟨n', h2⟩)
    rw [hr] at hr'
    simp only [Option.some.injEq, Code.seq.injEq, true_and] at hr'
    subst hr'
    exact hw) b (.inScope c :: k) cs
  cases e with
  | normal => exact ⟨.normal, a₁, w₁, hq, .head step_scope (Steps.trans harr (.one step_inScope))⟩
  | exit id => exact ⟨.exit id, a₁, w₁, hq, fun k' hk => .head step_scope (harr k' (by simp [exitTo, hk]))⟩
  | goto l' =>
    obtain ⟨n', hJ'⟩ := hq
    obtain ⟨rest', hr', e₂, a₂, w₂, hq₂, harr₂⟩ := key n' l' a₁ w₁ hJ'
    exact ⟨e₂, a₂, w₂, hq₂, .of_steps (.head step_scope (harr _ (by simp [gotoIn, hr']))) harr₂⟩
  | ret => exact ⟨_, a₁, w₁, hq, .of_steps (.one step_scope) harr⟩
  | panic ch => exact ⟨_, a₁, w₁, hq, .of_steps (.one step_scope) harr⟩
  | outgrown => exact ⟨_, a₁, w₁, hq, .of_steps (.one step_scope) harr⟩
end
end Go.HK
/- Rows of orders: their words. -/
namespace Go.Proofs.YtdfkbiffdcfnpaaGreatDoor.H
open Go.RowKit Go.HK Go.Lib Go.WideShapes Go.ChangeShapes Go.Proofs.YtdfkbiffdcfnpaaGreatDoorW.PrintWords Go.Proofs.YtdfkbiffdcfnpaaGreatDoorW.PrintLast Go.Proofs.YtdfkbiffdcfnpaaGreatDoorW.PrintMore
set_option linter.unusedVariables false
set_option linter.unusedSimpArgs false
/-- An order: its kind, token, node, class, ticks. -/
abbrev O5 := Int × Int × Int × Int × Int
abbrev c5 (x : O5) : List Value := [.int .i64 x.1, .int .i64 x.2.1, .int .i64 x.2.2.1, .int .i64 x.2.2.2.1, .int .u64 x.2.2.2.2]
abbrev ov (a b c d e : Int) : Value := .agg #[.int .i64 a, .int .i64 b, .int .i64 c, .int .i64 d, .int .u64 e]
abbrev ocs (a b c d e : Int) : Array Value := #[.int .i64 a, .int .i64 b, .int .i64 c, .int .i64 d, .int .u64 e]
abbrev ox (x : O5) : Value := ov x.1 x.2.1 x.2.2.1 x.2.2.2.1 x.2.2.2.2
/-- Block g holds N orders and maybe more: f i is the i-th. -/
def RowO (w : World) (g M N : Nat) (f : Nat → O5) : Prop := ∃ C : Array Value, w.heap[g]? = some (.cells C 76 (0, 0)) ∧ C.size = M ∧ 5 * N ≤ M ∧ ∀ i, i < N → ∀ r, r < 5 → C[5 * i + r]? = (c5 (f i))[r]?
def updO (f : Nat → O5) (i : Nat) (x : O5) : Nat → O5 := fun k => if k = i then x else f k
section
variable {w w' : World} {g M N : Nat} {f : Nat → O5}
theorem RowO.lt (h : RowO w g M N f) : g < w.heap.size := by obtain ⟨C, e, _⟩ := h; exact blk_lt e
theorem RowO.block (h : RowO w g M N f) (e : w'.heap[g]? = w.heap[g]?) : RowO w' g M N f := by
  obtain ⟨C, h1, h2⟩ := h
  exact ⟨C, e.trans h1, h2⟩
theorem RowO.keep (h : RowO w g M N f) (hb : Below w.heap.size w w') : RowO w' g M N f := h.block (hb.block g h.lt)
theorem RowO.cell (h : RowO w g M N f) {i r : Nat} (hi : i < N) (hr : r < 5) : w.cell? ⟨g, 5 * i + r, none⟩ = (c5 (f i))[r]? := by
  obtain ⟨C, h1, h2, h20, h3⟩ := h
  rw [cell_of_row w g (5 * i + r) _ _ (0, 0) h1]
  exact h3 i hi r hr
theorem orow_load (h : RowO w g M N f) {i : Nat} (hi : i < N) : (Instr.loadAt 76 (.pointer (some ⟨g, 5 * i, none⟩))).run Tryz.prog w = .ok (ox (f i)) w :=
  run_loadAt_mid (P := Tryz.prog) w g (5 * i) _ (c5 (f i)) _ (fun j v hv => by
    have hj : j < 5 := (List.getElem?_eq_some_iff.1 hv).1
    rw [h.cell hi hj]
    exact hv) Tryz.underlying76 rfl (by kernel_rfl)
theorem orow_index {cap i : Nat} (hi : i < N) : (Instr.indexAt 27 (.slice (some ⟨g, 0, none⟩) N cap) (.int .i64 i)).run Tryz.prog w = .ok (.pointer (some ⟨g, 5 * i, none⟩)) w := by
  have hs : (sizeOf 76).run Tryz.prog w = .ok 5 w := by kernel_rfl
  have hu := run_underlying Tryz.underlying27 w
  have hb : (0 : Int) ≤ (i : Int) ∧ (i : Int) < (N : Int) := by omega
  have ha : (⟨g, 0, none⟩ : Addr).add (5 * i) = ⟨g, 5 * i, none⟩ := by rw [Addr.add_mid]; simp
  simp [Instr.indexAt, asIntOf, Sem.run_bind, hu, hs, Result.andThen, hb, hi, Nat.mul_comm i 5, ha]
theorem setCells_five (w : World) (g o : Nat) (a b c d e : Value) : w.setCells g o [a, b, c, d, e] = ((((w.setCell ⟨g, o, none⟩ a).setCell ⟨g, o + 1, none⟩ b).setCell ⟨g, o + 1 + 1, none⟩ c).setCell ⟨g, o + 1 + 1 + 1, none⟩ d).setCell ⟨g, o + 1 + 1 + 1 + 1, none⟩ e := rfl
set_option maxHeartbeats 2000000 in
theorem orow_store (h : RowO w g M N f) {i : Nat} (hi : i < N) (x : O5) : ∃ w', (Instr.storeAt 76 (.pointer (some ⟨g, 5 * i, none⟩)) (ox x)).run Tryz.prog w = .ok () w' ∧ RowO w' g M N (updO f i x) ∧ w.grownBy w' (some g) := by
  obtain ⟨C, h1, h2, h20, h3⟩ := h
  have hc : ∀ j, j < 5 → (w.cell? ⟨g, 5 * i + j, none⟩).isSome = true ∧ w.frozen? ⟨g, 5 * i + j, none⟩ = false := fun j hj => by
    constructor
    · rw [cell_of_row w g (5 * i + j) _ _ (0, 0) h1, Array.getElem?_eq_getElem (by omega)]; rfl
    · exact bfz h1 _
  refine ⟨_, run_storeAt_mid (P := Tryz.prog) w g (5 * i) _ (ocs x.1 x.2.1 x.2.2.1 x.2.2.2.1 x.2.2.2.2) (fun j hj => hc j hj) (by kernel_rfl) (by simp [Value.oneCell']), ?_, ?_⟩
  · show RowO (w.setCells g (5 * i) [.int .i64 x.1, .int .i64 x.2.1, .int .i64 x.2.2.1, .int .i64 x.2.2.2.1, .int .u64 x.2.2.2.2]) g M N (updO f i x)
    rw [setCells_five]
    refine ⟨_, blk_set (blk_set (blk_set (blk_set (blk_set h1 _ _) _ _) _ _) _ _) _ _, by simpa using h2, h20, fun k hk r hr => ?_⟩
    have a0 := h3 k hk r hr
    by_cases e : k = i
    · subst e
      simp only [updO, if_true]
      have s0 : 5 * k + 4 < C.size := by omega
      match r, hr with
      | 0, _ => rw [Array.getElem?_setIfInBounds_ne (by omega), Array.getElem?_setIfInBounds_ne (by omega), Array.getElem?_setIfInBounds_ne (by omega), Array.getElem?_setIfInBounds_ne (by omega), Nat.add_zero, Array.getElem?_setIfInBounds_self_of_lt (by omega)]; rfl
      | 1, _ => rw [Array.getElem?_setIfInBounds_ne (by omega), Array.getElem?_setIfInBounds_ne (by omega), Array.getElem?_setIfInBounds_ne (by omega), Array.getElem?_setIfInBounds_self_of_lt (by simp only [Array.size_setIfInBounds]; omega)]; rfl
      | 2, _ => rw [Array.getElem?_setIfInBounds_ne (by omega), Array.getElem?_setIfInBounds_ne (by omega), show 5 * k + 2 = 5 * k + 1 + 1 by omega, Array.getElem?_setIfInBounds_self_of_lt (by simp only [Array.size_setIfInBounds]; omega)]; rfl
      | 3, _ => rw [Array.getElem?_setIfInBounds_ne (by omega), show 5 * k + 3 = 5 * k + 1 + 1 + 1 by omega, Array.getElem?_setIfInBounds_self_of_lt (by simp only [Array.size_setIfInBounds]; omega)]; rfl
      | 4, _ => rw [show 5 * k + 4 = 5 * k + 1 + 1 + 1 + 1 by omega, Array.getElem?_setIfInBounds_self_of_lt (by simp only [Array.size_setIfInBounds]; omega)]; rfl
      | r + 5, hr => omega
    · simp only [updO, if_neg e]
      rw [Array.getElem?_setIfInBounds_ne (by omega), Array.getElem?_setIfInBounds_ne (by omega), Array.getElem?_setIfInBounds_ne (by omega), Array.getElem?_setIfInBounds_ne (by omega), Array.getElem?_setIfInBounds_ne (by omega)]
      exact a0
  · show w.grownBy (w.setCells g (5 * i) [.int .i64 x.1, .int .i64 x.2.1, .int .i64 x.2.2.1, .int .i64 x.2.2.2.1, .int .u64 x.2.2.2.2]) (some g)
    rw [setCells_five]
    exact ⟨rfl, rfl, rfl, by simp, fun k hk hne => by
      have e : k ≠ g := fun e => hne (by rw [e])
      rw [Below.heap_setCell _ _ _ _ e, Below.heap_setCell _ _ _ _ e, Below.heap_setCell _ _ _ _ e, Below.heap_setCell _ _ _ _ e, Below.heap_setCell _ _ _ _ e]⟩
end
theorem exec_indexAddr {P : Program} {ρ : Operand → Value} {o : Oper} {t : TypeId} {a x : Operand} (ho : o.op = .indexAddr t a x) {w w' : World} {v : Value} (h : (Instr.indexAt t (ρ a) (ρ x)).run P w = .ok v w') : (execOp ρ o).run P w = .ok (.value v) w' := by
  unfold execOp
  rw [ho]
  simp only [Sem.run_bind, h, Result.andThen]
  rfl
theorem exec_load {P : Program} {ρ : Operand → Value} {o : Oper} {t : TypeId} {a : Operand} (ho : o.op = .load t a) {w w' : World} {v : Value} (h : (Instr.loadAt t (ρ a)).run P w = .ok v w') : (execOp ρ o).run P w = .ok (.value v) w' := by
  unfold execOp
  rw [ho]
  simp only [Sem.run_bind, h, Result.andThen]
  rfl
theorem exec_store {P : Program} {ρ : Operand → Value} {o : Oper} {t : TypeId} {a x : Operand} (ho : o.op = .store t a x) {w w' : World} (h : (Instr.storeAt t (ρ a) (ρ x)).run P w = .ok () w') : (execOp ρ o).run P w = .ok .skip w' := by
  unfold execOp
  rw [ho]
  simp only [Sem.run_bind, h, Result.andThen]
  rfl
theorem exec_clear {P : Program} {ρ : Operand → Value} {o : Oper} {t : TypeId} {x : Operand} (ho : o.op = Op.call { callee := Callee.builtin Builtin.clear, args := #[x], argTypes := #[t] }) {w w' : World} {v : Value} (h : (Builtin.clear_ #[t] o.type #[ρ x]).run P w = .ok v w') : (execOp ρ o).run P w = .ok (.value v) w' := by
  unfold execOp
  simp [ho, resolve, invoke, builtin, h, Result.andThen]
theorem grown_trans {w w' w'' : World} {r : Option Nat} (h : w.grownBy w' r) (h' : w'.grownBy w'' r) : w.grownBy w'' r :=
  ⟨h'.os.trans h.os, h'.tape.trans h.tape, h'.output.trans h.output, Nat.le_trans h.size h'.size, fun k hk hne => (h'.block k (Nat.lt_of_lt_of_le hk h.size) hne).trans (h.block k hk hne)⟩
theorem below_grown {w w' : World} (r : Option Nat) (h : Below w.heap.size w w') : w.grownBy w' r := ⟨h.os, h.tape, h.output, h.size, fun k hk _ => h.block k hk⟩
set_option maxRecDepth 100000 in
/-- kept's closure: is it the same token? -/
theorem same_calls {w : World} {q : Nat} {a b c d e tok : Int} (hq : w.cell? ⟨q, 1, none⟩ = some (.int .i64 tok)) :
    Calls Tryz.prog 72 #[ov a b c d e, .pointer (some ⟨q, 0, none⟩)] w fun z w' => z = .returned (.bool (b == tok)) ∧ Below w.heap.size w w' := by
  have BL := Aside0.mk ((Below.refl w.heap.size w).alloc (Nat.le_refl _) (.cells (ocs a b c d e) 76))
  have hq2 : (w.alloc (.cells (ocs a b c d e) 76)).cell? ⟨q, 1, none⟩ = some (.int .i64 tok) := by
    rw [World.cell?_alloc_lt _ _ _ (World.block_lt_of_cell? w _ hq)]; exact hq
  go_enter Tryz.func72, Tryz.ntmps72
  go_wp2
  go_ret
  exact ⟨rfl, BL.out⟩
end Go.Proofs.YtdfkbiffdcfnpaaGreatDoor.H
/- IndexFunc over a row of leases: the first that lasts longer. -/
namespace Go.Proofs.YtdfkbiffdcfnpaaGreatDoor.H
open Go.RowKit Go.HK Go.Lib Go.WideShapes Go.ChangeShapes Go.Proofs.YtdfkbiffdcfnpaaGreatDoorW.PrintWords Go.Proofs.YtdfkbiffdcfnpaaGreatDoorW.PrintLast Go.Proofs.YtdfkbiffdcfnpaaGreatDoorW.PrintMore
set_option linter.unusedVariables false
set_option linter.unusedSimpArgs false
theorem index_body {r0 r1 body rt r0' r1' body' rt' : Code} {z z' : Nat} (h : Tryz.f120.body = some (.seq r0 (.seq (.seq r1 (.block z (.loop body))) rt))) (h' : Tryz.f120.body = some (.seq r0' (.seq (.seq r1' (.block z' (.loop body'))) rt'))) : body' = body := by
  rw [h] at h'
  injection h' with h'
  injection h' with _ h'
  injection h' with h1 _
  injection h1 with _ h1
  injection h1 with _ h1
  injection h1 with h1
  exact h1.symm
set_option maxRecDepth 100000 in
set_option maxHeartbeats 4000000 in
theorem index_next {w0 w : World} {q g M L cap : Nat} {tok : Int} {f : Nat → O5} {K : Act → World → Prop} {R : Ending → World → Prop} {N z : Nat} {r0 r1 body rt : Code} {i : Nat} {x2 x3 x5 x6 x9 x10 x11 x12 x13 x14 x15 x16 x17 x18 : Value} (hB : Tryz.f120.body = some (.seq r0 (.seq (.seq r1 (.block z (.loop body))) rt))) (HQ : Aside0 (w0.cell? ⟨q, 1, none⟩ = some (.int .i64 tok))) (HF : Aside0 (RowO w0 g M L f)) (HB : Aside0 (Below w0.heap.size w0 w)) (hi : i < L) (hl : L ≤ 100000) (hd : (f i).2.1 ≠ tok)
    (cont : ∀ (w' : World) (y2 y3 y5 y6 y9 y10 y11 y12 y13 y14 y15 y16 y17 y18 : Value), Below w0.heap.size w0 w' → Code.rounds Tryz.prog body (Exit.inBlock 0 (Exit.then K (bodyPost Tryz.prog Tryz.f120 R))) N ⟨#[.slice (some ⟨g, 0, none⟩) L cap, .func (.func 72) #[] #[.pointer (some ⟨q, 0, none⟩)], y2, y3, .int .i64 0, y5, y6, .int .i64 L, .int .i64 (i + 1), y9, y10, y11, y12, y13, y14, y15, y16, y17, y18], []⟩ w') :
    Code.rounds Tryz.prog body (Exit.inBlock 0 (Exit.then K (bodyPost Tryz.prog Tryz.f120 R))) (N + 1) ⟨#[.slice (some ⟨g, 0, none⟩) L cap, .func (.func 72) #[] #[.pointer (some ⟨q, 0, none⟩)], x2, x3, .int .i64 0, x5, x6, .int .i64 L, .int .i64 i, x9, x10, x11, x12, x13, x14, x15, x16, x17, x18], []⟩ w := by
  have hbody := index_body rfl hB
  clear hB
  subst hbody
  have F2 := Aside0.mk (HF.out.keep HB.out)
  have Q2 := Aside0.mk ((HB.out.cell (p := ⟨q, 1, none⟩) (World.block_lt_of_cell? w0 _ HQ.out)).trans HQ.out)
  have IX := Aside0.mk (fun (v : World) => orow_index (w := v) (g := g) (cap := cap) hi)
  have DD : ((f i).2.1 == tok) = false := by simpa using hd
  have hcont := Aside0.mk cont
  clear cont
  rw [rounds_succ]
  go_upto_region 3 with fail
  go_upto_region 99 with (first
    | (go_at_call 72; refine (same_calls Q2.out).mono ?_; rintro e w1 ⟨rfl, hb⟩; have B1 := Aside0.mk (HB.out.trans (hb.mono HB.out.size)); clear hb; rw [DD])
    | (refine Great.wpList_readTo rfl (some 14) rfl (.pointer (some ⟨g, 5 * i, none⟩)) (exec_indexAddr rfl (IX.out _)) ?_)
    | (refine Great.wpList_readTo rfl (some 15) rfl (ox (f i)) (exec_load rfl (orow_load F2.out hi)) ?_))
  exact hcont.out _ _ _ _ _ _ _ _ _ _ _ _ _ _ _ B1.out
set_option maxRecDepth 100000 in
set_option maxHeartbeats 4000000 in
theorem index_hit {w0 w : World} {q g M L cap : Nat} {tok : Int} {f : Nat → O5} {K : Act → World → Prop} {R : Ending → World → Prop} {N z : Nat} {r0 r1 body rt : Code} {i : Nat} {x2 x3 x5 x6 x9 x10 x11 x12 x13 x14 x15 x16 x17 x18 : Value} (hB : Tryz.f120.body = some (.seq r0 (.seq (.seq r1 (.block z (.loop body))) rt))) (HQ : Aside0 (w0.cell? ⟨q, 1, none⟩ = some (.int .i64 tok))) (HF : Aside0 (RowO w0 g M L f)) (HB : Aside0 (Below w0.heap.size w0 w)) (hi : i < L) (hl : L ≤ 100000) (hd : (f i).2.1 = tok)
    (cont : ∀ (w' : World), Below w0.heap.size w0 w' → R (.returned (.int .i64 i)) w') :
    Code.rounds Tryz.prog body (Exit.inBlock 0 (Exit.then K (bodyPost Tryz.prog Tryz.f120 R))) (N + 1) ⟨#[.slice (some ⟨g, 0, none⟩) L cap, .func (.func 72) #[] #[.pointer (some ⟨q, 0, none⟩)], x2, x3, .int .i64 0, x5, x6, .int .i64 L, .int .i64 i, x9, x10, x11, x12, x13, x14, x15, x16, x17, x18], []⟩ w := by
  have hbody := index_body rfl hB
  clear hB
  subst hbody
  have F2 := Aside0.mk (HF.out.keep HB.out)
  have Q2 := Aside0.mk ((HB.out.cell (p := ⟨q, 1, none⟩) (World.block_lt_of_cell? w0 _ HQ.out)).trans HQ.out)
  have IX := Aside0.mk (fun (v : World) => orow_index (w := v) (g := g) (cap := cap) hi)
  have DD : ((f i).2.1 == tok) = true := by simpa using hd
  have hcont := Aside0.mk cont
  clear cont
  rw [rounds_succ]
  go_upto_region 3 with fail
  go_upto_region 99 with (first
    | (go_at_call 72; refine (same_calls Q2.out).mono ?_; rintro e w1 ⟨rfl, hb⟩; have B1 := Aside0.mk (HB.out.trans (hb.mono HB.out.size)); clear hb; rw [DD])
    | (refine Great.wpList_readTo rfl (some 14) rfl (.pointer (some ⟨g, 5 * i, none⟩)) (exec_indexAddr rfl (IX.out _)) ?_)
    | (refine Great.wpList_readTo rfl (some 15) rfl (ox (f i)) (exec_load rfl (orow_load F2.out hi)) ?_))
  exact hcont.out _ B1.out
set_option maxRecDepth 100000 in
set_option maxHeartbeats 4000000 in
theorem index_end {w : World} {q g L cap : Nat} {K : Act → World → Prop} {R : Ending → World → Prop} {N z : Nat} {r0 r1 body rt : Code} {x2 x3 x5 x6 x9 x10 x11 x12 x13 x14 x15 x16 x17 x18 : Value} (hB : Tryz.f120.body = some (.seq r0 (.seq (.seq r1 (.block z (.loop body))) rt))) (hl : L ≤ 100000) (cont : ∀ (y2 y3 y5 y6 y9 y10 y11 y12 y13 y14 y15 y16 y17 y18 : Value), K ⟨#[.slice (some ⟨g, 0, none⟩) L cap, .func (.func 72) #[] #[.pointer (some ⟨q, 0, none⟩)], y2, y3, .int .i64 0, y5, y6, .int .i64 L, .int .i64 L, y9, y10, y11, y12, y13, y14, y15, y16, y17, y18], []⟩ w) :
    Code.rounds Tryz.prog body (Exit.inBlock 0 (Exit.then K (bodyPost Tryz.prog Tryz.f120 R))) (N + 1) ⟨#[.slice (some ⟨g, 0, none⟩) L cap, .func (.func 72) #[] #[.pointer (some ⟨q, 0, none⟩)], x2, x3, .int .i64 0, x5, x6, .int .i64 L, .int .i64 L, x9, x10, x11, x12, x13, x14, x15, x16, x17, x18], []⟩ w := by
  have hbody := index_body rfl hB
  clear hB
  subst hbody
  have hcont := Aside0.mk cont
  clear cont
  rw [rounds_succ]
  go_wp2
  exact hcont.out _ _ _ _ _ _ _ _ _ _ _ _ _ _
set_option maxRecDepth 100000 in
set_option maxHeartbeats 4000000 in
theorem index_loop {w0 : World} {q g M L cap : Nat} {tok : Int} {f : Nat → O5} {K : Act → World → Prop} {R : Ending → World → Prop} {z : Nat} {r0 r1 body rt : Code} (hB : Tryz.f120.body = some (.seq r0 (.seq (.seq r1 (.block z (.loop body))) rt))) (HQ : w0.cell? ⟨q, 1, none⟩ = some (.int .i64 tok)) (HF : RowO w0 g M L f) (hl : L ≤ 100000)
    (hR : ∀ (w' : World) (i : Nat), i < L → (f i).2.1 = tok → (∀ j, j < i → (f j).2.1 ≠ tok) → Below w0.heap.size w0 w' → R (.returned (.int .i64 i)) w')
    (hK : ∀ (w' : World) (y2 y3 y5 y6 y9 y10 y11 y12 y13 y14 y15 y16 y17 y18 : Value), (∀ j, j < L → (f j).2.1 ≠ tok) → Below w0.heap.size w0 w' → K ⟨#[.slice (some ⟨g, 0, none⟩) L cap, .func (.func 72) #[] #[.pointer (some ⟨q, 0, none⟩)], y2, y3, .int .i64 0, y5, y6, .int .i64 L, .int .i64 L, y9, y10, y11, y12, y13, y14, y15, y16, y17, y18], []⟩ w') :
    ∀ (d i : Nat) (w : World) {y2 y3 y5 y6 y9 y10 y11 y12 y13 y14 y15 y16 y17 y18 : Value}, i + d = L → (∀ j, j < i → (f j).2.1 ≠ tok) → Below w0.heap.size w0 w → Code.rounds Tryz.prog body (Exit.inBlock 0 (Exit.then K (bodyPost Tryz.prog Tryz.f120 R))) (d + 1) ⟨#[.slice (some ⟨g, 0, none⟩) L cap, .func (.func 72) #[] #[.pointer (some ⟨q, 0, none⟩)], y2, y3, .int .i64 0, y5, y6, .int .i64 L, .int .i64 i, y9, y10, y11, y12, y13, y14, y15, y16, y17, y18], []⟩ w := by
  intro d
  induction d with
  | zero =>
    intro i w y2 y3 y5 y6 y9 y10 y11 y12 y13 y14 y15 y16 y17 y18 hd H HB
    obtain rfl : i = L := by omega
    exact index_end hB hl (fun y2 y3 y5 y6 y9 y10 y11 y12 y13 y14 y15 y16 y17 y18 => hK w y2 y3 y5 y6 y9 y10 y11 y12 y13 y14 y15 y16 y17 y18 H HB)
  | succ d ih =>
    intro i w y2 y3 y5 y6 y9 y10 y11 y12 y13 y14 y15 y16 y17 y18 hd H HB
    have hi : i < L := by omega
    by_cases c : (f i).2.1 = tok
    · exact index_hit hB ⟨HQ⟩ ⟨HF⟩ ⟨HB⟩ hi hl c (fun w' hb => hR w' i hi c H hb)
    · refine index_next hB ⟨HQ⟩ ⟨HF⟩ ⟨HB⟩ hi hl c (fun w' y2 y3 y5 y6 y9 y10 y11 y12 y13 y14 y15 y16 y17 y18 hb => ih (i + 1) w' (by omega) (fun j hj => ?_) hb)
      by_cases e : j = i
      · subst e; exact c
      · exact H j (by omega)
set_option maxRecDepth 100000 in
set_option maxHeartbeats 4000000 in
theorem index_calls {w : World} {q g M L cap : Nat} {tok : Int} {f : Nat → O5} (HQ : w.cell? ⟨q, 1, none⟩ = some (.int .i64 tok)) (HF : RowO w g M L f) (hl : L ≤ 100000) :
    Calls Tryz.prog 120 #[.slice (some ⟨g, 0, none⟩) L cap, .func (.func 72) #[] #[.pointer (some ⟨q, 0, none⟩)]] w fun e w' => Below w.heap.size w w' ∧ ((e = .returned (.int .i64 (-1)) ∧ ∀ j, j < L → (f j).2.1 ≠ tok) ∨ ∃ i : Nat, i < L ∧ e = .returned (.int .i64 i) ∧ (f i).2.1 = tok ∧ ∀ j, j < i → (f j).2.1 ≠ tok) := by
  have Q := Aside0.mk HQ
  have F := Aside0.mk HF
  clear HQ HF
  go_enter Tryz.func120, Tryz.ntmps120
  go_wp2
  refine wp_loop_rounds (L + 1) ?_
  refine index_loop rfl Q.out F.out hl (fun w' i hi h1 h2 hb => ⟨hb, .inr ⟨i, hi, rfl, h1, h2⟩⟩) ?_ L 0 w (by omega) (fun j hj => absurd hj (Nat.not_lt_zero j)) (Below.refl _ _)
  intro w' y2 y3 y5 y6 y9 y10 y11 y12 y13 y14 y15 y16 y17 y18 h hb
  have HH := Aside0.mk h
  have BB := Aside0.mk hb
  clear h hb
  go_wp2
  go_ret
  exact ⟨BB.out, .inl ⟨rfl, HH.out⟩⟩
end Go.Proofs.YtdfkbiffdcfnpaaGreatDoor.H
/- DeleteFunc over a row of orders: those of other tokens stay, in their order. -/
namespace Go.Proofs.YtdfkbiffdcfnpaaGreatDoor.H
open Go.RowKit Go.HK Go.Lib Go.WideShapes Go.ChangeShapes Go.Proofs.YtdfkbiffdcfnpaaGreatDoorW.PrintWords Go.Proofs.YtdfkbiffdcfnpaaGreatDoorW.PrintLast Go.Proofs.YtdfkbiffdcfnpaaGreatDoorW.PrintMore
set_option linter.unusedVariables false
set_option linter.unusedSimpArgs false
theorem setCells_row {t : TypeId} (g : Nat) : ∀ (vs : List Value) (o : Nat) (w : World) (C : Array Value), w.heap[g]? = some (.cells C t (0, 0)) → (∃ C', (w.setCells g o vs).heap[g]? = some (.cells C' t (0, 0)) ∧ C'.size = C.size ∧ ∀ k, k < o → C'[k]? = C[k]?) ∧ w.grownBy (w.setCells g o vs) (some g)
  | [], _, w, C, h => ⟨⟨C, h, rfl, fun _ _ => rfl⟩, World.grownBy.refl w _⟩
  | v :: r, o, w, C, h => by
    obtain ⟨⟨C', h1, h2, h3⟩, h4⟩ := setCells_row g r (o + 1) (w.setCell ⟨g, o, none⟩ v) _ (blk_set h o v)
    refine ⟨⟨C', h1, by simpa using h2, fun k hk => ?_⟩, ?_⟩
    · rw [h3 k (by omega), Array.getElem?_setIfInBounds_ne (by omega)]
    · have h0 : w.grownBy (w.setCell ⟨g, o, none⟩ v) (some g) := ⟨rfl, rfl, rfl, by rw [World.size_setCell]; exact Nat.le_refl _, fun k hk hne => Below.heap_setCell w ⟨g, o, none⟩ v k (fun e => hne (congrArg some e))⟩
      exact grown_trans h0 h4
theorem zeroO (w : World) : (zeroValue 76).run Tryz.prog w = .ok (ov 0 0 0 0 0) w := by kernel_rfl
theorem orow_clear {w : World} {g M L : Nat} {f : Nat → O5} (h : RowO w g M L f) {i : Nat} (hi : i ≤ L) (c : Nat) (ty : TypeId) : ∃ w', (Builtin.clear_ #[27] ty #[.slice (some ⟨g, 5 * i, none⟩) (L - i) c]).run Tryz.prog w = .ok (.tuple #[]) w' ∧ RowO w' g M i f ∧ w.grownBy w' (some g) := by
  have hf := h
  obtain ⟨C, h1, h2, h20, h3⟩ := h
  by_cases e : L - i = 0
  · refine ⟨w, ?_, ⟨C, h1, h2, by omega, fun k hk => h3 k (by omega)⟩, World.grownBy.refl w _⟩
    rw [e]
    simp [Builtin.clear_, run_underlying Tryz.underlying27]
  · obtain ⟨n, hn⟩ : ∃ n, L - i = n + 1 := ⟨L - i - 1, by omega⟩
    have hz := zeroO w
    have hlen : (Builtin.zeroCells (ov 0 0 0 0 0).cells (L - i)).toList.length = 5 * (L - i) := by simp [Builtin.zeroCells, Value.cells, Nat.mul_comm]
    have hst := run_storeCells_cells (P := Tryz.prog) g (5 * i) (Builtin.zeroCells (ov 0 0 0 0 0).cells (L - i)).toList 0 w
      (fun j hj => by rw [hlen] at hj; rw [cell_of_row w g _ _ _ (0, 0) h1, Array.getElem?_eq_getElem (by omega)]; rfl) (fun j hj => bfz h1 _)
      (by
        intro v hv
        simp only [Builtin.zeroCells, Value.cells, Array.toList_map, List.mem_map] at hv
        obtain ⟨k, _, rfl⟩ := hv
        have : k % 5 < 5 := Nat.mod_lt _ (by omega)
        have h5 : k % 5 = 0 ∨ k % 5 = 1 ∨ k % 5 = 2 ∨ k % 5 = 3 ∨ k % 5 = 4 := by omega
        rcases h5 with h5 | h5 | h5 | h5 | h5 <;> simp [h5, Value.oneCell'])
    obtain ⟨⟨C', q1, q2, q3⟩, q4⟩ := setCells_row (t := 76) g (Builtin.zeroCells (ov 0 0 0 0 0).cells (L - i)).toList (5 * i) w C h1
    refine ⟨_, ?_, ⟨C', q1, by omega, by omega, fun k hk => ?_⟩, q4⟩
    · simp only [Nat.add_zero] at hst
      rw [hn] at hst ⊢
      simp [Builtin.clear_, run_underlying Tryz.underlying27, hz, hst]
    · intro r hr
      rw [q3 _ (by omega)]
      exact h3 k (by omega) r hr
end Go.Proofs.YtdfkbiffdcfnpaaGreatDoor.H
/- DeleteFunc over a row of orders: those of other tokens stay, in their order. -/
namespace Go.Proofs.YtdfkbiffdcfnpaaGreatDoor.H
open Go.RowKit Go.HK Go.Lib Go.WideShapes Go.ChangeShapes Go.Proofs.YtdfkbiffdcfnpaaGreatDoorW.PrintWords Go.Proofs.YtdfkbiffdcfnpaaGreatDoorW.PrintLast Go.Proofs.YtdfkbiffdcfnpaaGreatDoorW.PrintMore
set_option linter.unusedVariables false
set_option linter.unusedSimpArgs false
theorem delete_body {r0 r1 c2 r4 body rt r0' r1' c2' r4' body' rt' : Code} {z z' : Nat} (h : Tryz.f71.body = some (.seq r0 (.seq r1 (.seq c2 (.seq (.seq r4 (.block z (.loop body))) rt))))) (h' : Tryz.f71.body = some (.seq r0' (.seq r1' (.seq c2' (.seq (.seq r4' (.block z' (.loop body'))) rt'))))) : body' = body := by
  rw [h] at h'
  injection h' with h'
  injection h' with _ h'
  injection h' with _ h'
  injection h' with _ h'
  injection h' with h1 _
  injection h1 with _ h1
  injection h1 with _ h1
  injection h1 with h1
  exact h1.symm
set_option maxRecDepth 100000 in
set_option maxHeartbeats 4000000 in
theorem delete_drop {w : World} {q g M L cap i j : Nat} {tok : Int} {f : Nat → O5} {K : Act → World → Prop} {R : Ending → World → Prop} {N z : Nat} {r0 r1 c2 r4 body rt : Code} {x2 x3 x7 x8 x9 x10 x11 x12 x13 x14 x15 x16 x17 x18 x19 x20 x21 x22 x23 x24 x25 x26 x27 x28 x29 x30 x31 x32 x33 x34 x35 x36 x37 x38 x39 x40 x41 : Value} (hB : Tryz.f71.body = some (.seq r0 (.seq r1 (.seq c2 (.seq (.seq r4 (.block z (.loop body))) rt))))) (HQ : Aside0 (w.cell? ⟨q, 1, none⟩ = some (.int .i64 tok))) (HF : Aside0 (RowO w g M L f)) (hij : i ≤ j) (hi : j < L) (hl : L ≤ 100000) (hd : (f j).2.1 = tok)
    (cont : ∀ (w' : World) (y2 y3 y7 y8 y9 y10 y11 y12 y13 y14 y15 y16 y17 y18 y19 y20 y21 y22 y23 y24 y25 y26 y27 y28 y29 y30 y31 y32 y33 y34 y35 y36 y37 y38 y39 y40 y41 : Value), RowO w' g M L f → w.grownBy w' (some g) → Code.rounds Tryz.prog body (Exit.inBlock 0 (Exit.then K (bodyPost Tryz.prog Tryz.f71 R))) N ⟨#[.slice (some ⟨g, 0, none⟩) L cap, .func (.func 72) #[] #[.pointer (some ⟨q, 0, none⟩)], y2, y3, .slice none 0 0, .int .i64 i, .int .i64 (j + 1), y7, y8, y9, y10, y11, y12, y13, y14, y15, y16, y17, y18, y19, y20, y21, y22, y23, y24, y25, y26, y27, y28, y29, y30, y31, y32, y33, y34, y35, y36, y37, y38, y39, y40, y41], []⟩ w') :
    Code.rounds Tryz.prog body (Exit.inBlock 0 (Exit.then K (bodyPost Tryz.prog Tryz.f71 R))) (N + 1) ⟨#[.slice (some ⟨g, 0, none⟩) L cap, .func (.func 72) #[] #[.pointer (some ⟨q, 0, none⟩)], x2, x3, .slice none 0 0, .int .i64 i, .int .i64 j, x7, x8, x9, x10, x11, x12, x13, x14, x15, x16, x17, x18, x19, x20, x21, x22, x23, x24, x25, x26, x27, x28, x29, x30, x31, x32, x33, x34, x35, x36, x37, x38, x39, x40, x41], []⟩ w := by
  have hbody := delete_body rfl hB
  clear hB
  subst hbody
  obtain ⟨a, b, c, d, e5, hx⟩ : ∃ a b c d e, f j = (a, b, c, d, e) := ⟨_, _, _, _, _, rfl⟩
  have LD := Aside0.mk (show (Instr.loadAt 76 (.pointer (some ⟨g, 5 * j, none⟩))).run Tryz.prog w = .ok (ov a b c d e5) w from by have h := orow_load HF.out hi; rw [hx] at h; exact h)
  have IJ := Aside0.mk (fun (v : World) => orow_index (w := v) (g := g) (cap := cap) hi)
  have BA := Aside0.mk ((Below.refl w.heap.size w).alloc (Nat.le_refl _) (.cells (ocs a b c d e5) 76))
  have XA := Aside0.mk (heap_alloc_last w (.cells (ocs a b c d e5) 76))
  have QA := Aside0.mk (show (w.alloc (.cells (ocs a b c d e5) 76)).cell? ⟨q, 1, none⟩ = some (.int .i64 tok) from by rw [World.cell?_alloc_lt _ _ _ (World.block_lt_of_cell? w _ HQ.out)]; exact HQ.out)
  have DD : (b == tok) = true := by rw [hx] at hd; simpa using hd
  have hcont := Aside0.mk cont
  clear cont hd hx
  rw [rounds_succ]
  go_upto_region 7 with fail
  go_upto_region 99 with (first
    | (go_at_call 72; refine (same_calls QA.out).mono ?_; rintro e w2 ⟨rfl, hb⟩; have B2 := Aside0.mk (BA.out.trans (hb.mono BA.out.size)); have X2 := Aside0.mk ((hb.block _ (blk_lt XA.out)).trans XA.out); have k0 := bce X2.out 0; have k1 := bce X2.out 1; have k2 := bce X2.out 2; have k3 := bce X2.out 3; have k4 := bce X2.out 4; clear hb; rw [DD])
    | (refine Great.wpList_readTo rfl (some 24) rfl (.pointer (some ⟨g, 5 * j, none⟩)) (exec_indexAddr rfl (IJ.out _)) ?_)
    | (refine Great.wpList_readTo rfl (some 25) rfl (ov a b c d e5) (exec_load rfl LD.out) ?_))
  exact hcont.out _ _ _ _ _ _ _ _ _ _ _ _ _ _ _ _ _ _ _ _ _ _ _ _ _ _ _ _ _ _ _ _ _ _ _ _ _ _ (HF.out.keep B2.out) (below_grown _ B2.out)
set_option maxRecDepth 100000 in
set_option maxHeartbeats 4000000 in
theorem delete_keep {w : World} {q g M L cap i j : Nat} {tok : Int} {f : Nat → O5} {K : Act → World → Prop} {R : Ending → World → Prop} {N z : Nat} {r0 r1 c2 r4 body rt : Code} {x2 x3 x7 x8 x9 x10 x11 x12 x13 x14 x15 x16 x17 x18 x19 x20 x21 x22 x23 x24 x25 x26 x27 x28 x29 x30 x31 x32 x33 x34 x35 x36 x37 x38 x39 x40 x41 : Value} (hB : Tryz.f71.body = some (.seq r0 (.seq r1 (.seq c2 (.seq (.seq r4 (.block z (.loop body))) rt))))) (HQ : Aside0 (w.cell? ⟨q, 1, none⟩ = some (.int .i64 tok))) (HF : Aside0 (RowO w g M L f)) (hij : i ≤ j) (hi : j < L) (hl : L ≤ 100000) (hd : (f j).2.1 ≠ tok)
    (cont : ∀ (w' : World) (y2 y3 y7 y8 y9 y10 y11 y12 y13 y14 y15 y16 y17 y18 y19 y20 y21 y22 y23 y24 y25 y26 y27 y28 y29 y30 y31 y32 y33 y34 y35 y36 y37 y38 y39 y40 y41 : Value), RowO w' g M L (updO f i (f j)) → w.grownBy w' (some g) → Code.rounds Tryz.prog body (Exit.inBlock 0 (Exit.then K (bodyPost Tryz.prog Tryz.f71 R))) N ⟨#[.slice (some ⟨g, 0, none⟩) L cap, .func (.func 72) #[] #[.pointer (some ⟨q, 0, none⟩)], y2, y3, .slice none 0 0, .int .i64 (i + 1), .int .i64 (j + 1), y7, y8, y9, y10, y11, y12, y13, y14, y15, y16, y17, y18, y19, y20, y21, y22, y23, y24, y25, y26, y27, y28, y29, y30, y31, y32, y33, y34, y35, y36, y37, y38, y39, y40, y41], []⟩ w') :
    Code.rounds Tryz.prog body (Exit.inBlock 0 (Exit.then K (bodyPost Tryz.prog Tryz.f71 R))) (N + 1) ⟨#[.slice (some ⟨g, 0, none⟩) L cap, .func (.func 72) #[] #[.pointer (some ⟨q, 0, none⟩)], x2, x3, .slice none 0 0, .int .i64 i, .int .i64 j, x7, x8, x9, x10, x11, x12, x13, x14, x15, x16, x17, x18, x19, x20, x21, x22, x23, x24, x25, x26, x27, x28, x29, x30, x31, x32, x33, x34, x35, x36, x37, x38, x39, x40, x41], []⟩ w := by
  have hbody := delete_body rfl hB
  clear hB
  subst hbody
  obtain ⟨a, b, c, d, e5, hx⟩ : ∃ a b c d e, f j = (a, b, c, d, e) := ⟨_, _, _, _, _, rfl⟩
  have LD := Aside0.mk (show (Instr.loadAt 76 (.pointer (some ⟨g, 5 * j, none⟩))).run Tryz.prog w = .ok (ov a b c d e5) w from by have h := orow_load HF.out hi; rw [hx] at h; exact h)
  have IJ := Aside0.mk (fun (v : World) => orow_index (w := v) (g := g) (cap := cap) hi)
  have BA := Aside0.mk ((Below.refl w.heap.size w).alloc (Nat.le_refl _) (.cells (ocs a b c d e5) 76))
  have XA := Aside0.mk (heap_alloc_last w (.cells (ocs a b c d e5) 76))
  have QA := Aside0.mk (show (w.alloc (.cells (ocs a b c d e5) 76)).cell? ⟨q, 1, none⟩ = some (.int .i64 tok) from by rw [World.cell?_alloc_lt _ _ _ (World.block_lt_of_cell? w _ HQ.out)]; exact HQ.out)
  have DD : (b == tok) = false := by rw [hx] at hd; simpa using hd
  have hcont := Aside0.mk cont
  have hiL : i < L := by omega
  have II := Aside0.mk (fun (v : World) => orow_index (w := v) (g := g) (cap := cap) hiL)
  have HX := Aside0.mk hx
  clear cont hd hx
  rw [rounds_succ]
  go_upto_region 7 with fail
  go_upto_region 99 with (first
    | (go_at_call 72; refine (same_calls QA.out).mono ?_; rintro e w2 ⟨rfl, hb⟩; have B2 := Aside0.mk (BA.out.trans (hb.mono BA.out.size)); have X2 := Aside0.mk ((hb.block _ (blk_lt XA.out)).trans XA.out); have k0 := bce X2.out 0; have k1 := bce X2.out 1; have k2 := bce X2.out 2; have k3 := bce X2.out 3; have k4 := bce X2.out 4; clear hb; rw [DD])
    | (refine Great.wpList_readTo rfl (some 24) rfl (.pointer (some ⟨g, 5 * j, none⟩)) (exec_indexAddr rfl (IJ.out _)) ?_)
    | (refine Great.wpList_readTo rfl (some 25) rfl (ov a b c d e5) (exec_load rfl LD.out) ?_)
    | (refine Great.wpList_readTo rfl (some 33) rfl (.pointer (some ⟨g, 5 * i, none⟩)) (exec_indexAddr rfl (II.out _)) ?_; obtain ⟨w3, hrun, hF, hg⟩ := orow_store (HF.out.keep B2.out) hiL (a, b, c, d, e5); have ST := Aside0.mk hrun; have F3 := Aside0.mk hF; have G5 := Aside0.mk (grown_trans (below_grown (some g) B2.out) hg); clear hrun hF hg)
    | (refine wpList_doTo rfl w3 (exec_store rfl ST.out) ?_))
  exact hcont.out _ _ _ _ _ _ _ _ _ _ _ _ _ _ _ _ _ _ _ _ _ _ _ _ _ _ _ _ _ _ _ _ _ _ _ _ _ _ (HX.out ▸ F3.out) G5.out
end Go.Proofs.YtdfkbiffdcfnpaaGreatDoor.H
/- DeleteFunc over a row of orders: those of other tokens stay, in their order. -/
namespace Go.Proofs.YtdfkbiffdcfnpaaGreatDoor.H
open Go.RowKit Go.HK Go.Lib Go.WideShapes Go.ChangeShapes Go.Proofs.YtdfkbiffdcfnpaaGreatDoorW.PrintWords Go.Proofs.YtdfkbiffdcfnpaaGreatDoorW.PrintLast Go.Proofs.YtdfkbiffdcfnpaaGreatDoorW.PrintMore
set_option linter.unusedVariables false
set_option linter.unusedSimpArgs false
def stays (tok : Int) (x : O5) : Bool := x.2.1 != tok
theorem stays_step {tok : Int} {f h : Nat → O5} {i j : Nat} (H : (List.range i).map h = ((List.range j).map f).filter (stays tok)) (hj : h j = f j) (hij : i ≤ j) :
    (stays tok (f j) = true → (List.range (i + 1)).map (updO h i (h j)) = ((List.range (j + 1)).map f).filter (stays tok)) ∧ (stays tok (f j) = false → (List.range i).map h = ((List.range (j + 1)).map f).filter (stays tok)) := by
  constructor
  · intro e
    rw [List.range_succ, List.range_succ, List.map_append, List.map_append, List.filter_append, ← H]
    congr 1
    · apply List.map_congr_left
      intro k hk
      have := List.mem_range.1 hk
      unfold updO
      rw [if_neg (by omega)]
    · simp [updO, e, hj]
  · intro e
    rw [List.range_succ, List.map_append, List.filter_append, ← H]
    simp [e]
set_option maxRecDepth 100000 in
set_option maxHeartbeats 4000000 in
theorem delete_end {w : World} {q g L cap i : Nat} {K : Act → World → Prop} {R : Ending → World → Prop} {N z : Nat} {r0 r1 c2 r4 body rt : Code} {x2 x3 x7 x8 x9 x10 x11 x12 x13 x14 x15 x16 x17 x18 x19 x20 x21 x22 x23 x24 x25 x26 x27 x28 x29 x30 x31 x32 x33 x34 x35 x36 x37 x38 x39 x40 x41 : Value} (hB : Tryz.f71.body = some (.seq r0 (.seq r1 (.seq c2 (.seq (.seq r4 (.block z (.loop body))) rt))))) (hl : L ≤ 100000) (cont : ∀ (y2 y3 y7 y8 y9 y10 y11 y12 y13 y14 y15 y16 y17 y18 y19 y20 y21 y22 y23 y24 y25 y26 y27 y28 y29 y30 y31 y32 y33 y34 y35 y36 y37 y38 y39 y40 y41 : Value), K ⟨#[.slice (some ⟨g, 0, none⟩) L cap, .func (.func 72) #[] #[.pointer (some ⟨q, 0, none⟩)], y2, y3, .slice none 0 0, .int .i64 i, .int .i64 L, y7, y8, y9, y10, y11, y12, y13, y14, y15, y16, y17, y18, y19, y20, y21, y22, y23, y24, y25, y26, y27, y28, y29, y30, y31, y32, y33, y34, y35, y36, y37, y38, y39, y40, y41], []⟩ w) :
    Code.rounds Tryz.prog body (Exit.inBlock 0 (Exit.then K (bodyPost Tryz.prog Tryz.f71 R))) (N + 1) ⟨#[.slice (some ⟨g, 0, none⟩) L cap, .func (.func 72) #[] #[.pointer (some ⟨q, 0, none⟩)], x2, x3, .slice none 0 0, .int .i64 i, .int .i64 L, x7, x8, x9, x10, x11, x12, x13, x14, x15, x16, x17, x18, x19, x20, x21, x22, x23, x24, x25, x26, x27, x28, x29, x30, x31, x32, x33, x34, x35, x36, x37, x38, x39, x40, x41], []⟩ w := by
  have hbody := delete_body rfl hB
  clear hB
  subst hbody
  have hcont := Aside0.mk cont
  clear cont
  rw [rounds_succ]
  go_wp2
  exact hcont.out _ _ _ _ _ _ _ _ _ _ _ _ _ _ _ _ _ _ _ _ _ _ _ _ _ _ _ _ _ _ _ _ _ _ _ _ _
set_option maxRecDepth 100000 in
set_option maxHeartbeats 4000000 in
theorem delete_loop {w0 : World} {q g M L cap : Nat} {tok : Int} {f : Nat → O5} {K : Act → World → Prop} {R : Ending → World → Prop} {z : Nat} {r0 r1 c2 r4 body rt : Code} (hB : Tryz.f71.body = some (.seq r0 (.seq r1 (.seq c2 (.seq (.seq r4 (.block z (.loop body))) rt))))) (HQ : w0.cell? ⟨q, 1, none⟩ = some (.int .i64 tok)) (hq : q ≠ g) (hl : L ≤ 100000)
  (hK : ∀ (w' : World) (i : Nat) (h : Nat → O5) (y2 y3 y7 y8 y9 y10 y11 y12 y13 y14 y15 y16 y17 y18 y19 y20 y21 y22 y23 y24 y25 y26 y27 y28 y29 y30 y31 y32 y33 y34 y35 y36 y37 y38 y39 y40 y41 : Value), i ≤ L → RowO w' g M L h → w0.grownBy w' (some g) → (List.range i).map h = ((List.range L).map f).filter (stays tok) → K ⟨#[.slice (some ⟨g, 0, none⟩) L cap, .func (.func 72) #[] #[.pointer (some ⟨q, 0, none⟩)], y2, y3, .slice none 0 0, .int .i64 i, .int .i64 L, y7, y8, y9, y10, y11, y12, y13, y14, y15, y16, y17, y18, y19, y20, y21, y22, y23, y24, y25, y26, y27, y28, y29, y30, y31, y32, y33, y34, y35, y36, y37, y38, y39, y40, y41], []⟩ w') :
  ∀ (d i j : Nat) (w : World) (h : Nat → O5) {y2 y3 y7 y8 y9 y10 y11 y12 y13 y14 y15 y16 y17 y18 y19 y20 y21 y22 y23 y24 y25 y26 y27 y28 y29 y30 y31 y32 y33 y34 y35 y36 y37 y38 y39 y40 y41 : Value}, j + d = L → i ≤ j → RowO w g M L h → w0.grownBy w (some g) → (∀ k, j ≤ k → k < L → h k = f k) → (List.range i).map h = ((List.range j).map f).filter (stays tok) → Code.rounds Tryz.prog body (Exit.inBlock 0 (Exit.then K (bodyPost Tryz.prog Tryz.f71 R))) (d + 1) ⟨#[.slice (some ⟨g, 0, none⟩) L cap, .func (.func 72) #[] #[.pointer (some ⟨q, 0, none⟩)], y2, y3, .slice none 0 0, .int .i64 i, .int .i64 j, y7, y8, y9, y10, y11, y12, y13, y14, y15, y16, y17, y18, y19, y20, y21, y22, y23, y24, y25, y26, y27, y28, y29, y30, y31, y32, y33, y34, y35, y36, y37, y38, y39, y40, y41], []⟩ w := by
 intro d
 induction d with
 | zero =>
  intro i j w h y2 y3 y7 y8 y9 y10 y11 y12 y13 y14 y15 y16 y17 y18 y19 y20 y21 y22 y23 y24 y25 y26 y27 y28 y29 y30 y31 y32 y33 y34 y35 y36 y37 y38 y39 y40 y41 hd hij HF HG HE H
  obtain rfl : j = L := by omega
  exact delete_end hB hl (fun y2 y3 y7 y8 y9 y10 y11 y12 y13 y14 y15 y16 y17 y18 y19 y20 y21 y22 y23 y24 y25 y26 y27 y28 y29 y30 y31 y32 y33 y34 y35 y36 y37 y38 y39 y40 y41 => hK w i h y2 y3 y7 y8 y9 y10 y11 y12 y13 y14 y15 y16 y17 y18 y19 y20 y21 y22 y23 y24 y25 y26 y27 y28 y29 y30 y31 y32 y33 y34 y35 y36 y37 y38 y39 y40 y41 hij HF HG H)
 | succ d ih =>
  intro i j w h y2 y3 y7 y8 y9 y10 y11 y12 y13 y14 y15 y16 y17 y18 y19 y20 y21 y22 y23 y24 y25 y26 y27 y28 y29 y30 y31 y32 y33 y34 y35 y36 y37 y38 y39 y40 y41 hd hij HF HG HE H
  have hj : j < L := by omega
  have hQ := HG.cell (a := ⟨q, 1, none⟩) HQ (fun e => hq (Option.some.inj e))
  have hfj := HE j (Nat.le_refl _) hj
  obtain ⟨s1, s2⟩ := stays_step H hfj hij
  by_cases c : (h j).2.1 = tok
  ·refine delete_drop hB ⟨hQ⟩ ⟨HF⟩ hij hj hl c (fun w' y2 y3 y7 y8 y9 y10 y11 y12 y13 y14 y15 y16 y17 y18 y19 y20 y21 y22 y23 y24 y25 y26 y27 y28 y29 y30 y31 y32 y33 y34 y35 y36 y37 y38 y39 y40 y41 hr hg => ih i (j + 1) w' h (by omega) (by omega) hr (grown_trans HG hg) (fun k h1 h2 => HE k (by omega) h2) (s2 ?_))
   rw [hfj] at c
   simp [stays, c]
  ·refine delete_keep hB ⟨hQ⟩ ⟨HF⟩ hij hj hl c (fun w' y2 y3 y7 y8 y9 y10 y11 y12 y13 y14 y15 y16 y17 y18 y19 y20 y21 y22 y23 y24 y25 y26 y27 y28 y29 y30 y31 y32 y33 y34 y35 y36 y37 y38 y39 y40 y41 hr hg => ih (i + 1) (j + 1) w' _ (by omega) (by omega) hr (grown_trans HG hg) (fun k h1 h2 => ?_) (s1 ?_))
   ·unfold updO
    rw [if_neg (by omega)]
    exact HE k (by omega) h2
   ·rw [hfj] at c
    simp [stays, c]
set_option maxRecDepth 100000 in
set_option maxHeartbeats 4000000 in
theorem delete_calls {w : World} {q g M L cap : Nat} {tok : Int} {f : Nat → O5} (HQ : w.cell? ⟨q, 1, none⟩ = some (.int .i64 tok)) (HF : RowO w g M L f) (hq : q ≠ g) (hl : L ≤ 100000) (hcap : L ≤ cap) :
    Calls Tryz.prog 71 #[.slice (some ⟨g, 0, none⟩) L cap, .func (.func 72) #[] #[.pointer (some ⟨q, 0, none⟩)]] w fun e w' => ∃ (i : Nat) (h : Nat → O5), e = .returned (.slice (some ⟨g, 0, none⟩) i cap) ∧ i ≤ L ∧ RowO w' g M i h ∧ w.grownBy w' (some g) ∧ (List.range i).map h = ((List.range L).map f).filter (stays tok) := by
  have Q := Aside0.mk HQ
  have F := Aside0.mk HF
  clear HQ HF
  go_enter Tryz.func71, Tryz.ntmps71
  go_wp2_with (go_at_call 120; refine (index_calls Q.out F.out hl).mono ?_; rintro e w1 ⟨hb, hc⟩; have B1 := Aside0.mk hb; clear hb; rcases hc with ⟨rfl, h1⟩ | ⟨k, hk, rfl, h1, h2⟩)
  · go_ret
    refine ⟨L, f, rfl, Nat.le_refl _, F.out.keep B1.out, below_grown _ B1.out, ?_⟩
    rw [List.filter_eq_self.2]
    intro x hx
    obtain ⟨j, hj, rfl⟩ := List.mem_map.1 hx
    have := h1 j (List.mem_range.1 hj)
    simpa [stays] using this
  · refine wp_loop_rounds (L - (k + 1) + 1) ?_
    refine delete_loop (f := f) rfl Q.out hq hl ?_ (L - (k + 1)) k (k + 1) w1 f (by omega) (by omega) (F.out.keep B1.out) (below_grown _ B1.out) (fun _ _ _ => rfl) ?_
    · intro w' i h y2 y3 y7 y8 y9 y10 y11 y12 y13 y14 y15 y16 y17 y18 y19 y20 y21 y22 y23 y24 y25 y26 y27 y28 y29 y30 y31 y32 y33 y34 y35 y36 y37 y38 y39 y40 y41 hi hr hg H
      have HI := Aside0.mk hi
      have HR := Aside0.mk hr
      have HG := Aside0.mk hg
      have HH := Aside0.mk H
      by_cases hc : i < cap
      · obtain ⟨w5, hrun, hF5, hg5⟩ := orow_clear hr hi (cap - i) 0
        rw [Nat.mul_comm 5 i] at hrun
        have RC := Aside0.mk hrun
        have F5 := Aside0.mk hF5
        have G5 := Aside0.mk (grown_trans hg hg5)
        clear hr hg H hrun hF5 hg5
        go_wp2_with (first
          | (refine Great.wpList_runTo rfl none rfl (.tuple #[]) w5 (exec_clear rfl RC.out) ?_))
        go_ret
        exact ⟨i, h, rfl, hi, F5.out, G5.out, HH.out⟩
      · have e0 : L - i = 0 := by omega
        have RC := Aside0.mk (show (Builtin.clear_ #[27] 0 #[.slice (some ⟨g, 0, none⟩) 0 0]).run Tryz.prog w' = .ok (.tuple #[]) w' from by simp [Builtin.clear_, run_underlying Tryz.underlying27])
        have e1 : i = L := by omega
        have F5 := Aside0.mk (show RowO w' g M i h from e1 ▸ hr)
        have e2 : cap = i := by omega
        subst e2
        clear hr hg H e0 e1
        go_wp2_with (first
          | (refine Great.wpList_runTo rfl none rfl (.tuple #[]) w' (exec_clear rfl RC.out) ?_))
        go_ret
        exact ⟨_, h, rfl, hi, F5.out, HG.out, HH.out⟩
    · rw [List.range_succ, List.map_append, List.filter_append, List.filter_eq_self.2]
      · have e : stays tok (f k) = false := by simp [stays, h1]
        simp [e]
      · intro x hx
        obtain ⟨j, hj, rfl⟩ := List.mem_map.1 hx
        have := h2 j (List.mem_range.1 hj)
        simpa [stays] using this
end Go.Proofs.YtdfkbiffdcfnpaaGreatDoor.H
/- Rows of orders as slices; an argument's orders. -/
namespace Go.Proofs.YtdfkbiffdcfnpaaGreatDoor.H
open Go.RowKit Go.HK Go.Lib Go.WideShapes Go.ChangeShapes Go.Proofs.YtdfkbiffdcfnpaaGreatDoorW.PrintWords Go.Proofs.YtdfkbiffdcfnpaaGreatDoorW.PrintLast Go.Proofs.YtdfkbiffdcfnpaaGreatDoorW.PrintMore
set_option linter.unusedVariables false
set_option linter.unusedSimpArgs false
abbrev OT : TypeId := 76
abbrev OS : TypeId := 27
abbrev o0 : O5 := (0, 0, 0, 0, 0)
abbrev flat5 (l : List O5) : List Value := l.flatMap c5
theorem infoO : ∃ i, Tryz.prog.info? OT = some i ∧ i.zero = some (ov 0 0 0 0 0) ∧ i.size = 5 ∧ i.bytes = 40 := by
  have h : (Tryz.prog.info? OT).map (fun i => (i.zero, i.size, i.bytes)) = some (some (ov 0 0 0 0 0), 5, 40) := by kernel_rfl
  obtain ⟨i, hi, e⟩ := Option.map_eq_some_iff.1 h
  injection e with e1 e2
  injection e2 with e2 e3
  exact ⟨i, hi, e1, e2, e3⟩
theorem flat5_len (l : List O5) : (flat5 l).length = l.length * 5 := by
  induction l with
  | nil => rfl
  | cons x l ih => simp [flat5] at ih ⊢; omega
theorem flat5_get {r : Nat} (hr : r < 5) : ∀ (l : List O5) (i : Nat), i < l.length → (flat5 l)[5 * i + r]? = (c5 (l.getD i o0))[r]? := by
  intro l
  induction l with
  | nil => intro i h; simp at h
  | cons x l ih =>
    intro i h
    have hc : flat5 (x :: l) = c5 x ++ flat5 l := rfl
    rw [hc]
    cases i with
    | zero => rw [List.getElem?_append_left (by simp; omega)]; simp
    | succ i =>
      rw [List.getElem?_append_right (by simp; omega)]
      have : 5 * (i + 1) + r - (c5 x).length = 5 * i + r := by simp; omega
      rw [this, ih i (by simpa using h)]
      simp
/-- v is a row of the orders l, in memory from B on. -/
def RowQ (w : World) (B : Nat) (v : Value) (l : List O5) : Prop := w.ownsRow B OT 5 v l.length (flat5 l)
section
variable {w w' : World} {B : Nat} {v : Value} {l : List O5}
theorem RowQ.nil (w : World) (B : Nat) : RowQ w B (.slice none 0 0) [] := World.ownsRow_nil _ _ _ _
theorem RowQ.own (h : RowQ w B v l) : ∀ k, v.ownBlock = some k → B ≤ k := by
  rcases h.2 with ⟨rfl, _⟩ | ⟨g, cap, cur, rfl, h2, _⟩
  · intro k e; cases e
  · intro k e; cases e; exact h2
theorem RowQ.lt (h : RowQ w B v l) : ∀ k, v.ownBlock = some k → k < w.heap.size := by
  intro k hk
  rcases h.2 with ⟨rfl, _⟩ | ⟨g, cap, cur, rfl, _, hg, _⟩
  · cases hk
  · cases hk
    exact blk_lt hg
theorem RowQ.move (h : RowQ w B v l) (e : ∀ k, v.ownBlock = some k → w'.heap[k]? = w.heap[k]?) : RowQ w' B v l := by
  refine ⟨h.1, ?_⟩
  rcases h.2 with h2 | ⟨g, cap, cur, rfl, hB, hg, r⟩
  · exact .inl h2
  · exact .inr ⟨g, cap, cur, rfl, hB, (e g rfl).trans hg, r⟩
theorem RowQ.keep (h : RowQ w B v l) (hb : Below w.heap.size w w') : RowQ w' B v l := h.move (fun k hk => hb.block k (h.lt k hk))
theorem RowQ.snoc {x : O5} (h : w.ownsRow B OT 5 v (l.length + 1) (flat5 l ++ c5 x)) : RowQ w B v (l ++ [x]) := by
  have e : flat5 (l ++ [x]) = flat5 l ++ c5 x := by simp [flat5, List.flatMap_append]
  unfold RowQ
  rw [List.length_append, e]
  exact h
theorem RowQ.fn (h : RowQ w B v l) : (v = .slice none 0 0 ∧ l = []) ∨ ∃ (g cap : Nat), v = .slice (some ⟨g, 0, none⟩) l.length cap ∧ B ≤ g ∧ l.length ≤ cap ∧ cap ≤ maxLen ∧ RowO w g (cap * 5) l.length (fun i => l.getD i o0) ∧ (List.range l.length).map (fun i => l.getD i o0) = l := by
  rcases h.2 with ⟨rfl, hz⟩ | ⟨g, cap, cur, rfl, hB, hg, r1, r2, r3, r4⟩
  · exact .inl ⟨rfl, List.eq_nil_of_length_eq_zero hz⟩
  · refine .inr ⟨g, cap, rfl, hB, r1, r2, ⟨cur, hg, r3, by omega, fun i hi r hr => ?_⟩, ?_⟩
    · have e1 : cur[5 * i + r]? = (flat5 l)[5 * i + r]? := by
        rw [← r4, List.getElem?_take_of_lt (by omega), Array.getElem?_toList]
      rw [e1]
      exact flat5_get hr l i hi
    · apply List.ext_getElem
      · simp
      · intro i h1 h2
        simp [List.getD_eq_getElem?_getD, List.getElem?_eq_getElem h2]
theorem RowQ.mk' {g cap i : Nat} {f : Nat → O5} (h : RowO w g (cap * 5) i f) (hB : B ≤ g) (hi : i ≤ cap) (hc : cap ≤ maxLen) : RowQ w B (.slice (some ⟨g, 0, none⟩) i cap) ((List.range i).map f) := by
  obtain ⟨C, h1, h2, h3, h4⟩ := h
  have e : ((List.range i).map f).length = i := by simp
  refine ⟨by rw [flat5_len], .inr ⟨g, cap, C, by rw [e], hB, h1, by rw [e]; exact hi, hc, h2, ?_⟩⟩
  rw [e]
  apply List.ext_getElem?
  intro j
  by_cases hj : j < i * 5
  · rw [List.getElem?_take_of_lt hj, Array.getElem?_toList]
    obtain ⟨k, r, rfl, hr⟩ : ∃ k r, j = 5 * k + r ∧ r < 5 := ⟨j / 5, j % 5, by omega, by omega⟩
    rw [h4 k (by omega) r hr, flat5_get hr _ k (by rw [e]; omega)]
    simp [List.getD_eq_getElem?_getD, show k < i by omega]
  · rw [List.getElem?_eq_none (by rw [List.length_take]; omega), List.getElem?_eq_none (by rw [flat5_len, e]; omega)]
/-- v tells the orders l, wherever they lie. -/
def ArgO (w : World) (v : Value) (l : List O5) : Prop := ∃ (o : Option Addr) (cap : Nat), v = .slice o l.length cap ∧ ∀ i, i < l.length → ∃ a, o = some a ∧ ∀ r, r < 5 → w.cell? (a.add (i * 5 + r)) = (c5 (l.getD i o0))[r]?
theorem c5_some (x : O5) {r : Nat} (hr : r < 5) : ∃ u, (c5 x)[r]? = some u := ⟨_, List.getElem?_eq_getElem (by simpa using hr)⟩
theorem ArgO.keep (h : ArgO w v l) (hb : Below w.heap.size w w') : ArgO w' v l := by
  obtain ⟨o, cap, rfl, h⟩ := h
  refine ⟨o, cap, rfl, fun i hi => ?_⟩
  obtain ⟨a, rfl, h2⟩ := h i hi
  refine ⟨a, rfl, fun r hr => ?_⟩
  obtain ⟨u, hu⟩ := c5_some (l.getD i o0) hr
  have hc := (h2 r hr).trans hu
  rw [hu]
  exact (hb.cell (World.block_lt_of_cell? w _ hc)).trans hc
theorem RowQ.arg (h : RowQ w B v l) : ArgO w v l := by
  rcases h.fn with ⟨rfl, rfl⟩ | ⟨g, cap, rfl, _, _, _, hF, _⟩
  · exact ⟨none, 0, rfl, fun i hi => absurd hi (Nat.not_lt_zero i)⟩
  · refine ⟨_, cap, rfl, fun i hi => ⟨_, rfl, fun r hr => ?_⟩⟩
    rw [Addr.add_mid, Nat.zero_add, Nat.mul_comm]
    exact hF.cell hi hr
end
theorem run_loadAt_any {P : Program} (w : World) (ad : Addr) (ty : TypeId) (cs : List Value) (d : TypeDesc) (hc : ∀ j v, cs[j]? = some v → w.cell? (ad.add j) = some v)
    (hu : P.underlying ty = some d) (hd : d.isRow = true) (hi : (P.info? ty).map (·.size) = some cs.length) : (Instr.loadAt ty (.pointer (some ad))).run P w = .ok (.agg cs.toArray) w := by
  have hl : (loadCells ad cs.length).run P w = .ok cs.toArray w := run_loadCells_list (P := P) w ad cs hc
  have hv : (loadVar ty ad).run P w = .ok (.agg cs.toArray) w := by
    cases hq : P.info? ty with
    | none => simp [hq] at hi
    | some i =>
      have hs : i.size = cs.length := by simpa [hq] using hi
      have hagg : (isAgg ty).run P w = .ok true w := by
        unfold isAgg
        rw [Sem.run_bind, run_underlying hu w]
        cases d <;> simp_all
      simp [loadVar, Sem.run_bind, hagg, sizeOf, typeInfo, hq, hs, hl]
  simp only [Instr.loadAt, Instr.sureAddr, Sem.run_bind, Sem.run_pure, Result.andThen_ok, hv]
theorem arg_load {w : World} {a : Addr} {i : Nat} {x : O5} (h : ∀ r, r < 5 → w.cell? (a.add (i * 5 + r)) = (c5 x)[r]?) : (Instr.loadAt OT (.pointer (some (a.add (i * 5))))).run Tryz.prog w = .ok (ox x) w :=
  run_loadAt_any (P := Tryz.prog) w (a.add (i * 5)) _ (c5 x) _ (fun j v hv => by
    have hj : j < 5 := (List.getElem?_eq_some_iff.1 hv).1
    rw [Go.Deep.add_add, h j hj]
    exact hv) Tryz.underlying76 rfl (by kernel_rfl)
theorem arg_index {w : World} {a : Addr} {L cap i : Nat} (hi : i < L) : (Instr.indexAt OS (.slice (some a) L cap) (.int .i64 i)).run Tryz.prog w = .ok (.pointer (some (a.add (i * 5)))) w := by
  have hs : (sizeOf OT).run Tryz.prog w = .ok 5 w := by kernel_rfl
  have hu := run_underlying Tryz.underlying27 w
  have hb : (0 : Int) ≤ (i : Int) ∧ (i : Int) < (L : Int) := by omega
  simp [Instr.indexAt, asIntOf, Sem.run_bind, hu, hs, Result.andThen, hb, hi]
/-- append(v, x): one more. -/
theorem omore {w : World} {gx base : Nat} {r : Value} {l : List O5} {x : O5} (hx : w.heap[gx]? = some (.cells (ocs x.1 x.2.1 x.2.2.1 x.2.2.2.1 x.2.2.2.2) OT (0, 0))) (hR : RowQ w base r l) (hb : base ≤ w.heap.size) (hl : l.length ≤ 1000) :
    ∃ v' w3, (Builtin.append_ #[OS, OS] OS #[r, .slice (some ⟨gx, 0, none⟩) 1 1]).run Tryz.prog w = .ok v' w3 ∧ RowQ w3 base v' (l ++ [x]) ∧ w.grownBy w3 r.ownBlock := by
  obtain ⟨i0, hi0, hz0, hz1, hz2⟩ := infoO
  obtain ⟨v', w3, h1, h2, h3, _, _⟩ := run_append_own_at (P := Tryz.prog) w base OS OS OT i0 (ov 0 0 0 0 0) 5 40 Tryz.underlying27 hi0 hz0 hz1 hz2 rfl (by decide) r l.length (flat5 l) hR ⟨gx, 0, none⟩ 1 1 (c5 x) rfl (fun j u hj => by
    rw [Addr.add_mid, bce hx]
    simpa using hj) (fun u hu => by simp at hu; rcases hu with rfl | rfl | rfl | rfl | rfl <;> rfl) (by unfold maxLen; omega) (by omega) hb
  exact ⟨v', w3, h1, RowQ.snoc h2, h3⟩
theorem exec_append {P : Program} {ρ : Operand → Value} {o : Oper} {t : TypeId} {s x : Operand} (ho : o.op = Op.call { callee := Callee.builtin Builtin.append, args := #[s, x], argTypes := #[t, t] }) {w w' : World} {v : Value} (h : (Builtin.append_ #[t, t] o.type #[ρ s, ρ x]).run P w = .ok v w') : (execOp ρ o).run P w = .ok (.value v) w' := by
  unfold execOp
  simp [ho, resolve, invoke, builtin, h, Result.andThen]
theorem exec_buildSlice {P : Program} {ρ : Operand → Value} {o : Oper} {t : TypeId} {n : Nat} {parts : Array (Nat × Operand)} {ps : Array (Nat × Value)} (ho : o.op = .buildSlice t n parts) (hp : (parts.map fun (i, x) => (i, ρ x)) = ps) {w w' : World} {v : Value} (h : (Instr.buildSlice t n ps).run P w = .ok v w') : (execOp ρ o).run P w = .ok (.value v) w' := by
  subst hp
  unfold execOp
  rw [ho]
  simp only [Sem.run_bind, h, Result.andThen]
  rfl
/-- kept's orders, as they come. -/
def keptStep (kd : Int) (out : List O5) (x : O5) : List O5 := if x.1 = kd then out ++ [x] else if x.1 = 3 then out.filter (stays x.2.1) else out
def keptL (kd : Int) (l : List O5) : List O5 := l.foldl (keptStep kd) []
theorem keptStep_len (kd : Int) (out : List O5) (x : O5) : (keptStep kd out x).length ≤ out.length + 1 := by
  unfold keptStep
  split
  · simp
  · split
    · have := List.length_filter_le (stays x.2.1) out; omega
    · omega
theorem keptL_take {kd : Int} {l : List O5} {i : Nat} (hi : i < l.length) : keptL kd (l.take (i + 1)) = keptStep kd (keptL kd (l.take i)) (l.getD i o0) := by
  unfold keptL
  rw [List.take_add_one, List.foldl_append, List.getD_eq_getElem?_getD, List.getElem?_eq_getElem hi]
  rfl
theorem keptL_len (kd : Int) (l : List O5) (i : Nat) (hi : i ≤ l.length) : (keptL kd (l.take i)).length ≤ i := by
  induction i with
  | zero => simp [keptL]
  | succ i ih =>
    rw [keptL_take (by omega)]
    have := keptStep_len kd (keptL kd (l.take i)) (l.getD i o0)
    have := ih (by omega)
    omega
end Go.Proofs.YtdfkbiffdcfnpaaGreatDoor.H
/- What span.Parse and cycle.Parse compute, over lists of bytes. -/
namespace Go.Proofs.YtdfkbiffdcfnpaaGreatDoor.H
set_option linter.unusedVariables false
set_option linter.unusedSimpArgs false
def isDg (b : UInt8) : Bool := decide (48 ≤ b.toNat ∧ b.toNat ≤ 57)
def decV (l : List UInt8) : Nat := l.foldl (fun n b => n * 10 + (b.toNat - 48)) 0
/-- The digits that a text begins with. -/
def dgs (s : List UInt8) : List UInt8 := s.takeWhile isDg
/-- span's next: the number, the unit, the rest. -/
def spNext (s : List UInt8) : Nat × Nat × List UInt8 :=
  if (dgs s).length < 1 ∨ 15 < (dgs s).length ∨ (dgs s).length = s.length ∨ (s.headD 0 = 48 ∧ 1 < (dgs s).length) then (0, 0, [])
  else (decV (dgs s), ((s.drop (dgs s).length).headD 0).toNat, s.drop ((dgs s).length + 1))
/-- tick.Times, Held as span's more uses them. -/
def spMore (total n unit : Nat) : Nat :=
  if total + (if n * unit < 18446744073709551616 then n * unit else 1125899906842625) < 18446744073709551616 then total + (if n * unit < 18446744073709551616 then n * unit else 1125899906842625) else 18446744073709551615
def spPlace (u : Nat) : Int := if u = 72 then 0 else if u = 77 then 1 else if u = 83 then 2 else -1
def spUnit (p : Int) : Nat := if p = 0 then 3600 else if p = 1 then 60 else 1
def spEnd (total : Nat) : Nat × Int := if total > 1125899906842624 then (0, 3) else (total, 0)
/-- The parts behind T: k: 3 less the place of the last one. -/
def spParts : Nat → Int → Nat → List UInt8 → Nat × Int
  | 0, _, _, _ => (0, 2)
  | k + 1, last, total, s =>
    if spPlace (spNext s).2.1 ≤ last then (0, 2)
    else if (spNext s).2.2 = [] then spEnd (spMore total (spNext s).1 (spUnit (spPlace (spNext s).2.1)))
    else spParts k (spPlace (spNext s).2.1) (spMore total (spNext s).1 (spUnit (spPlace (spNext s).2.1))) (spNext s).2.2
def spTime (total : Nat) : List UInt8 → Nat × Int
  | [] => (0, 2)
  | b :: s => if b = 84 then spParts 4 (-1) total s else (0, 2)
def spDate (s : List UInt8) : Nat × Int :=
  if (spNext s).2.1 = 89 ∨ (spNext s).2.1 = 77 then (0, 4)
  else if (spNext s).2.1 = 87 then (if (spNext s).2.2 = [] then spEnd (spMore 0 (spNext s).1 604800) else (0, 2))
  else if (spNext s).2.1 = 68 then (if (spNext s).2.2 = [] then spEnd (spMore 0 (spNext s).1 86400) else spTime (spMore 0 (spNext s).1 86400) (spNext s).2.2)
  else (0, 2)
/-- span.Parse. -/
def spParse : List UInt8 → Nat × Int
  | [] => (0, 2)
  | b :: s => if b = 80 then (if s.headD 0 = 84 then spTime 0 s else spDate s) else (0, 2)
/-- cycle.Parse behind the R: number, whether there is a slash, what stands behind it. -/
def cyBody (num : List UInt8) (slash : Bool) (rest : List UInt8) : Int × Nat × Int :=
  if slash = true ∧ num = [] then (0, 0, 5)
  else if num.any (fun b => !isDg b) = true then (0, 0, 2)
  else if slash = false ∨ 7 < num.length ∨ num.headD 0 = 48 then (0, 0, 2)
  else if 1000000 < decV num then (0, 0, 3)
  else if (spParse rest).2 ≠ 0 then (0, 0, (spParse rest).2)
  else if (spParse rest).1 = 0 then (0, 0, 6)
  else (decV num, (spParse rest).1, 0)
/-- cycle.Parse: rounds, ticks, error. -/
def cyParse : List UInt8 → Int × Nat × Int
  | [] => (0, 0, 2)
  | b :: s => if b = 82 then cyBody (s.takeWhile (fun c => c != 47)) (s.contains 47) ((s.dropWhile (fun c => c != 47)).drop 1) else (0, 0, 2)
/-- graph's waits, of a node's kind and time: rounds, ticks, is there one. -/
def grWaits (kind : Int) (t : List UInt8) : Int × Nat × Bool :=
  if kind = 4 ∨ kind = 8 ∨ kind = 9 then
    if (spParse t).2 = 0 then (1, (spParse t).1, decide (0 < (spParse t).1))
    else if kind ≠ 9 ∨ (cyParse t).2.2 ≠ 0 ∨ 9 < (cyParse t).1 then (0, 0, false)
    else ((cyParse t).1, (cyParse t).2.1, true)
  else (0, 0, false)
/-- graph.Time's ticks. -/
def grTicks (kind : Int) (t : List UInt8) : Nat := if (grWaits kind t).2.2 = true then (grWaits kind t).2.1 else 0
theorem spNext_n (s : List UInt8) : (spNext s).1 < 1000000000000000 := by
  unfold spNext
  split
  · simp
  · rename_i h
    simp only [not_or] at h
    have key : ∀ (l : List UInt8) (a : Nat), (∀ b ∈ l, isDg b = true) → l.foldl (fun n b => n * 10 + (b.toNat - 48)) a < (a + 1) * 10 ^ l.length := by
      intro l
      induction l with
      | nil => intro a _; simp
      | cons b l ih =>
        intro a hb
        have h1 := hb b (by simp)
        simp only [isDg, decide_eq_true_eq] at h1
        refine Nat.lt_of_lt_of_le (ih (a * 10 + (b.toNat - 48)) (fun c hc => hb c (by simp [hc]))) ?_
        rw [List.length_cons, Nat.pow_succ, Nat.mul_comm (10 ^ l.length) 10, ← Nat.mul_assoc]
        exact Nat.mul_le_mul_right _ (by omega)
    have hd : ∀ b ∈ dgs s, isDg b = true := fun b hb => List.all_eq_true.1 List.all_takeWhile b hb
    have h1 := key (dgs s) 0 hd
    have h2 : 10 ^ (dgs s).length ≤ 10 ^ 15 := Nat.pow_le_pow_right (by omega) (by omega)
    show decV (dgs s) < _
    unfold decV
    omega
theorem spMore_lt (a b c : Nat) : spMore a b c < 18446744073709551616 := by
  unfold spMore
  generalize (if b * c < 18446744073709551616 then b * c else 1125899906842625) = x
  split <;> omega
theorem spNext_u (s : List UInt8) : (spNext s).2.1 < 256 := by
  unfold spNext
  split
  · simp
  · exact UInt8.toNat_lt _
theorem spPlace_le (u : Nat) : spPlace u ≤ 2 ∧ -1 ≤ spPlace u := by
  unfold spPlace
  split
  · omega
  · split
    · omega
    · split <;> omega
end Go.Proofs.YtdfkbiffdcfnpaaGreatDoor.H
/- Rows of nodes and events as arguments; a node's class. -/
namespace Go.Proofs.YtdfkbiffdcfnpaaGreatDoor.H
open Go.RowKit Go.HK Go.Lib Go.WideShapes Go.ChangeShapes Go.Proofs.YtdfkbiffdcfnpaaGreatDoorW.PrintWords Go.Proofs.YtdfkbiffdcfnpaaGreatDoorW.PrintLast Go.Proofs.YtdfkbiffdcfnpaaGreatDoorW.PrintMore
set_option linter.unusedVariables false
set_option linter.unusedSimpArgs false
/-- A node: kind, scope, class, on, time. -/
abbrev N5 := Int × Int × Int × Int × ByteArray
abbrev n5 (x : N5) : List Value := [.int .i64 x.1, .int .i64 x.2.1, .int .i64 x.2.2.1, .int .i64 x.2.2.2.1, .string x.2.2.2.2]
abbrev nx0 : N5 := (0, 0, 0, 0, ⟨#[]⟩)
/-- An event: kind, in, node, token. -/
abbrev E4 := Int × Int × Int × Int
abbrev e4 (x : E4) : List Value := [.int .i64 x.1, .int .i64 x.2.1, .int .i64 x.2.2.1, .int .i64 x.2.2.2]
abbrev ex0 : E4 := (0, 0, 0, 0)
/-- v tells the nodes l, wherever they lie. -/
def ArgN (w : World) (v : Value) (l : List N5) : Prop := ∃ (o : Option Addr) (cap : Nat), v = .slice o l.length cap ∧ l.length ≤ cap ∧ ∀ i, i < l.length → ∃ a, o = some a ∧ ∀ r, r < 5 → w.cell? (a.add (i * 5 + r)) = (n5 (l.getD i nx0))[r]?
theorem n5_some (x : N5) {r : Nat} (hr : r < 5) : ∃ u, (n5 x)[r]? = some u := ⟨_, List.getElem?_eq_getElem (by simpa using hr)⟩
theorem ArgN.keep {w w' : World} {v : Value} {l : List N5} (h : ArgN w v l) (hb : Below w.heap.size w w') : ArgN w' v l := by
  obtain ⟨o, cap, rfl, h1, h⟩ := h
  refine ⟨o, cap, rfl, h1, fun i hi => ?_⟩
  obtain ⟨a, rfl, h2⟩ := h i hi
  refine ⟨a, rfl, fun r hr => ?_⟩
  obtain ⟨u, hu⟩ := n5_some (l.getD i nx0) hr
  have hc := (h2 r hr).trans hu
  rw [hu]
  exact (hb.cell (World.block_lt_of_cell? w _ hc)).trans hc
theorem n5_load {w : World} {a : Addr} {i : Nat} {x : N5} (h : ∀ r, r < 5 → w.cell? (a.add (i * 5 + r)) = (n5 x)[r]?) : (Instr.loadAt 86 (.pointer (some (a.add (i * 5))))).run Tryz.prog w = .ok (.agg #[.int .i64 x.1, .int .i64 x.2.1, .int .i64 x.2.2.1, .int .i64 x.2.2.2.1, .string x.2.2.2.2]) w :=
  run_loadAt_any (P := Tryz.prog) w (a.add (i * 5)) _ (n5 x) _ (fun j v hv => by
    have hj : j < 5 := (List.getElem?_eq_some_iff.1 hv).1
    rw [Go.Deep.add_add, h j hj]
    exact hv) Tryz.underlying86 rfl (by kernel_rfl)
theorem n5_index {w : World} {a : Addr} {L cap i : Nat} (hi : i < L) : (Instr.indexAt 22 (.slice (some a) L cap) (.int .i64 i)).run Tryz.prog w = .ok (.pointer (some (a.add (i * 5)))) w := by
  have hs : (sizeOf 86).run Tryz.prog w = .ok 5 w := by kernel_rfl
  have hu := run_underlying Tryz.underlying22 w
  have hb : (0 : Int) ≤ (i : Int) ∧ (i : Int) < (L : Int) := by omega
  simp [Instr.indexAt, asIntOf, Sem.run_bind, hu, hs, Result.andThen, hb, hi]
/-- v tells the events l, wherever they lie. -/
def ArgE (w : World) (v : Value) (l : List E4) : Prop := ∃ (o : Option Addr) (cap : Nat), v = .slice o l.length cap ∧ l.length ≤ cap ∧ ∀ i, i < l.length → ∃ a, o = some a ∧ ∀ r, r < 4 → w.cell? (a.add (i * 4 + r)) = (e4 (l.getD i ex0))[r]?
theorem e4_some (x : E4) {r : Nat} (hr : r < 4) : ∃ u, (e4 x)[r]? = some u := ⟨_, List.getElem?_eq_getElem (by simpa using hr)⟩
theorem ArgE.keep {w w' : World} {v : Value} {l : List E4} (h : ArgE w v l) (hb : Below w.heap.size w w') : ArgE w' v l := by
  obtain ⟨o, cap, rfl, h1, h⟩ := h
  refine ⟨o, cap, rfl, h1, fun i hi => ?_⟩
  obtain ⟨a, rfl, h2⟩ := h i hi
  refine ⟨a, rfl, fun r hr => ?_⟩
  obtain ⟨u, hu⟩ := e4_some (l.getD i ex0) hr
  have hc := (h2 r hr).trans hu
  rw [hu]
  exact (hb.cell (World.block_lt_of_cell? w _ hc)).trans hc
def kindOf (nodes : List N5) (n : Int) : N5 := if 1 ≤ n ∧ n ≤ nodes.length then nodes.getD (n.toNat - 1) nx0 else nx0
theorem gin_calls (a b c : Int) (w : World) :
    Calls Tryz.prog 116 #[.int .i64 a, .int .i64 b, .int .i64 c] w fun e w' => e = .returned (.bool (decide (b ≤ a ∧ a ≤ c))) ∧ w' = w := by
  by_cases h1 : b ≤ a
  · have e1 : decide (b ≤ a ∧ a ≤ c) = decide (a ≤ c) := by simp [h1]
    rw [e1]
    go_enter Tryz.func116, Tryz.ntmps116
    go_wp2
    go_ret
    exact ⟨rfl, rfl⟩
  · have e1 : decide (b ≤ a ∧ a ≤ c) = false := by simp [h1]
    rw [e1]
    go_enter Tryz.func116, Tryz.ntmps116
    go_wp2
    go_ret
    exact ⟨rfl, rfl⟩
abbrev defV (nm : ByteArray) (nv fv : Value) : Value := .agg #[.string nm, nv, fv]
abbrev nv5 (a b c d : Int) (t : ByteArray) : Array Value := #[.int .i64 a, .int .i64 b, .int .i64 c, .int .i64 d, .string t]
theorem node_store (w : World) (a b c d : Int) (t : ByteArray) : (Instr.storeAt 86 (.pointer (some ⟨w.heap.size, 0, none⟩)) (.agg (nv5 a b c d t))).run Tryz.prog (w.alloc (.cells (nv5 0 0 0 0 ⟨#[]⟩) 86)) = .ok () (w.alloc (.cells (nv5 a b c d t) 86)) :=
  run_storeAt_new w 86 (nv5 0 0 0 0 ⟨#[]⟩) (nv5 a b c d t) (by kernel_rfl) rfl (by simp [nv5, Value.oneCell'])
set_option maxRecDepth 100000 in
set_option maxHeartbeats 4000000 in
theorem at_calls {w : World} {nm : ByteArray} {nv fv : Value} {nodes : List N5} {n : Int} (HN : ArgN w nv nodes) (hn : nodes.length ≤ 1000) :
    Calls Tryz.prog 67 #[defV nm nv fv, .int .i64 n] w fun e w' => e = .returned (.tuple #[.agg (n5 (kindOf nodes n)).toArray, .bool (decide (1 ≤ n ∧ n ≤ (nodes.length : Int)))]) ∧ Below w.heap.size w w' := by
  have HN2 := HN
  obtain ⟨o, cap, rfl, h1, hx⟩ := HN2
  have BL := Aside0.mk ((Below.refl w.heap.size w).alloc (Nat.le_refl _) (.cells #[.string nm, .slice o nodes.length cap, fv] 25))
  have HS1 : Aside0 ((w.alloc (.cells #[.string nm, .slice o nodes.length cap, fv] 25)).heap.size = w.heap.size + 1) := ⟨World.size_alloc _ _⟩
  have hB2 : ∀ cs : Array Value, Below w.heap.size w ((w.alloc (.cells #[.string nm, .slice o nodes.length cap, fv] 25)).alloc (.cells cs 86)) := fun cs => ((Below.refl w.heap.size w).alloc (Nat.le_refl _) _).alloc (by rw [World.size_alloc]; omega) _
  have HB2 := Aside0.mk hB2
  by_cases c1 : 1 ≤ n ∧ n ≤ nodes.length
  · have e : kindOf nodes n = nodes.getD (n.toNat - 1) nx0 := by unfold kindOf; rw [if_pos c1]
    rw [e]
    obtain ⟨_, _, e2, _, hx⟩ := HN.keep (hB2 (nv5 0 0 0 0 ⟨#[]⟩))
    injection e2 with e3 e4 e5
    subst e3
    obtain ⟨a, rfl, hc⟩ := hx (n.toNat - 1) (by omega)
    have hw : wrap64 (n - 1) = ((n.toNat - 1 : Nat) : Int) := by unfold wrap64; omega
    have hin : n.toNat - 1 < nodes.length := by omega
    have hd : decide (1 ≤ n ∧ n ≤ (nodes.length : Int)) = true := decide_eq_true c1
    rw [hd]
    generalize nodes.getD (n.toNat - 1) nx0 = x at *
    generalize n.toNat - 1 = i at *
    obtain ⟨x1, x2, x3, x4, x5⟩ := x
    have hwI : IntKind.i64.wrap (n - 1) = (i : Int) := (i64_w _).trans hw
    have IX := Aside0.mk (fun (v : World) => n5_index (w := v) (a := a) (cap := cap) hin)
    have LD := Aside0.mk (n5_load hc)
    have ST := Aside0.mk (node_store (w.alloc (.cells #[.string nm, .slice (some a) nodes.length cap, fv] 25)) x1 x2 x3 x4 x5)
    rw [HS1.out] at ST
    have NG := Aside0.mk (heap_alloc_last (w.alloc (.cells #[.string nm, .slice (some a) nodes.length cap, fv] 25)) (.cells (nv5 x1 x2 x3 x4 x5) 86))
    rw [HS1.out] at NG
    have HD := Aside0.mk hd
    clear hc HN e h1 hx e4 e5 c1 hd hB2 hn hin
    go_enter Tryz.func67, Tryz.ntmps67
    go_wp2_with (first
      | (go_at_call 116; refine (gin_calls _ _ _ _).mono ?_; rintro e1 w1 ⟨rfl, rfl⟩; rw [HD.out])
      | (refine Great.wpList_readTo rfl (some 17) rfl (.pointer (some (a.add (i * 5)))) (exec_indexAddr rfl (IX.out _)) ?_)
      | (refine Great.wpList_readTo rfl (some 18) rfl (.agg (nv5 x1 x2 x3 x4 x5)) (exec_load rfl LD.out) ?_)
      | (refine wpList_doTo rfl _ (exec_store rfl ST.out) ?_))
    refine bodyPost_ret (results_ct rfl _ _ (w.heap.size + 1) 86 (nv5 x1 x2 x3 x4 x5) (0, 0) _ rfl NG.out Tryz.underlying86 rfl (by kernel_rfl)) rfl ?_
    exact ⟨rfl, HB2.out _⟩
  · have e : kindOf nodes n = nx0 := by unfold kindOf; rw [if_neg c1]
    rw [e]
    have hd : decide (1 ≤ n ∧ n ≤ (nodes.length : Int)) = false := decide_eq_false c1
    rw [hd]
    have ST := Aside0.mk (node_store (w.alloc (.cells #[.string nm, .slice o nodes.length cap, fv] 25)) 0 0 0 0 ⟨#[]⟩)
    rw [HS1.out] at ST
    have NG := Aside0.mk (heap_alloc_last (w.alloc (.cells #[.string nm, .slice o nodes.length cap, fv] 25)) (.cells (nv5 0 0 0 0 ⟨#[]⟩) 86))
    rw [HS1.out] at NG
    have HD := Aside0.mk hd
    clear HN e hx h1 hd c1 hB2 hn
    go_enter Tryz.func67, Tryz.ntmps67
    go_wp2_with (first
      | (go_at_call 116; refine (gin_calls _ _ _ _).mono ?_; rintro e1 w1 ⟨rfl, rfl⟩; rw [HD.out])
      | (refine wpList_doTo rfl _ (exec_store rfl ST.out) ?_))
    refine bodyPost_ret (results_ct rfl _ _ (w.heap.size + 1) 86 (nv5 0 0 0 0 ⟨#[]⟩) (0, 0) _ rfl NG.out Tryz.underlying86 rfl (by kernel_rfl)) rfl ?_
    exact ⟨rfl, HB2.out _⟩
end Go.Proofs.YtdfkbiffdcfnpaaGreatDoor.H
/- graph.at: for the printed kinds. -/
namespace Go.Proofs.YtdfkbiffdcfnpaaGreatDoor.H
open Go.RowKit Go.HK Go.Lib Go.WideShapes Go.ChangeShapes Go.Proofs.YtdfkbiffdcfnpaaGreatDoorW.PrintWords Go.Proofs.YtdfkbiffdcfnpaaGreatDoorW.PrintLast Go.Proofs.YtdfkbiffdcfnpaaGreatDoorW.PrintMore
set_option linter.unusedVariables false
set_option linter.unusedSimpArgs false
abbrev SN := S86
abbrev kN := k86
def on5 (x : SN) : N5 := (x.f0, x.f1, x.f2, x.f3, x.f4)
theorem argN_of {w : World} {A : Option Addr} {c : Nat} {l : List SN} (h : Kd.C kN w A l.length l) (hc : l.length ≤ c) : ArgN w (.slice A l.length c) (l.map on5) := by
  refine ⟨A, c, by rw [List.length_map], by rw [List.length_map]; exact hc, fun i hi => ?_⟩
  rw [List.length_map] at hi
  obtain ⟨ad, e, hc⟩ := h.2.2 (by omega)
  obtain ⟨cs, h1, h2, h3⟩ := hc i _ (List.getElem?_eq_getElem hi)
  refine ⟨ad, e, fun r hr => ?_⟩
  have hs : cs = n5 (on5 l[i]) := k86_open h2
  have hg : (l.map on5).getD i nx0 = on5 l[i] := by rw [List.getD_eq_getElem?_getD, List.getElem?_map, List.getElem?_eq_getElem hi]; rfl
  rw [hg, ← hs]
  obtain ⟨u, hu⟩ := n5_some (on5 l[i]) hr
  rw [← hs] at hu
  rw [hu]
  exact h3 r u hu
end Go.Proofs.YtdfkbiffdcfnpaaGreatDoor.H
-- Written by hp.py (a program of this session, over the kit's print.py), with hand-made contracts beside it.
namespace Go.Proofs.YtdfkbiffdcfnpaaGreatDoor.H
open Go.RowKit Go.Proofs.YtdfkbiffdcfnpaaGreatDoorW.PrintWords Go.Proofs.YtdfkbiffdcfnpaaGreatDoorW.PrintLast Go.Proofs.YtdfkbiffdcfnpaaGreatDoorW.PrintMore
attribute [local go_sem] max2_int min2_int max_two min_two max_three min_three max_four min_four   -- for this text's walks alone
set_option linter.unusedVariables false
set_option linter.unusedSimpArgs false

-- HANDMADE remontoir/graph.at
/-! ### graph_at: function 67 -/
def graph_at.f (a0_0 : ByteArray) (l0_1 : List (S86)) (l0_2 : List (S51)) (a1 : Int) : Option (Int × Int × Int × Int × ByteArray × Bool) :=
  if l0_1.length ≤ 1000 then some ((kindOf (l0_1.map on5) a1).1, (kindOf (l0_1.map on5) a1).2.1, (kindOf (l0_1.map on5) a1).2.2.1, (kindOf (l0_1.map on5) a1).2.2.2.1, (kindOf (l0_1.map on5) a1).2.2.2.2, decide (1 ≤ a1 ∧ a1 ≤ ((l0_1.map on5).length : Int))) else none
theorem graph_at.calls (a0_0 : ByteArray) (A0_1 : Option Addr) (c0_1 : Nat) (l0_1 : List (S86)) (A0_2 : Option Addr) (c0_2 : Nat) (l0_2 : List (S51)) (a1 : Int) (r1 : Int) (r2 : Int) (r3 : Int) (r4 : Int) (r5 : ByteArray) (r6 : Bool) (w : World) (hr0_1 : Kd.C k86 w A0_1 l0_1.length l0_1) (hc0_1 : l0_1.length ≤ c0_1) (hr0_2 : Kd.C k51 w A0_2 l0_2.length l0_2) (hc0_2 : l0_2.length ≤ c0_2) (h : graph_at.f a0_0 l0_1 l0_2 a1 = some (r1, r2, r3, r4, r5, r6)) :
    Calls Tryz.prog 67 #[.agg #[.string a0_0, .slice A0_1 l0_1.length c0_1, .slice A0_2 l0_2.length c0_2], .int .i64 a1] w fun e w' => e = .returned (.tuple #[.agg #[.int .i64 r1, .int .i64 r2, .int .i64 r3, .int .i64 r4, .string r5], .bool r6]) ∧ Below w.heap.size w w' := by
  unfold graph_at.f at h
  by_cases hl : l0_1.length ≤ 1000
  · rw [if_pos hl] at h
    simp only [Option.some.injEq, Prod.mk.injEq] at h
    obtain ⟨rfl, rfl, rfl, rfl, rfl, rfl⟩ := h
    exact at_calls (argN_of hr0_1 hc0_1) (by rw [List.length_map]; exact hl)
  · rw [if_neg hl] at h
    cases h


end Go.Proofs.YtdfkbiffdcfnpaaGreatDoor.H
/- The shelf's contracts at this dump, in plain words (lay-plain.mjs), only those that are used. -/
namespace Go.Proofs
open Go.Shelf
def Tryz.lays137_ren : Go.Shelf.Ren := ⟨fun | 137 => 186 | 217 => 250 | 266 => 282 | n => n, fun | 9 => 9 | 5 => 5 | 3 => 3 | n => n, fun | n => n⟩
theorem Tryz.lays137 : Go.Proofs.Lays.n137 Tryz.prog Tryz.lays137_ren := {
  mixed := by kernel_rfl
  f137 := Tryz.func186.trans (congrArg some (by kernel_rfl))
  f217 := Tryz.func250.trans (congrArg some (by kernel_rfl))
  f266 := Tryz.func282.trans (congrArg some (by kernel_rfl))
  t3 := Tryz.underlying3
  a3 := Tryz.isAgg3
  z3 := Tryz.sizeOf3
  v3 := Tryz.zeroValue3
  t5 := Tryz.underlying5
  a5 := Tryz.isAgg5
  z5 := Tryz.sizeOf5
  v5 := Tryz.zeroValue5
  t9 := Tryz.underlying9
  a9 := Tryz.isAgg9
  z9 := Tryz.sizeOf9
  v9 := Tryz.zeroValue9 }
open Go.RowKit in
theorem Tryz.strings_IndexByte (s : ByteArray) (c : Int) (w : World) :
    Calls Tryz.prog 186 #[.string s, .int .u8 c] w fun e w' => e = .returned (.int .i64 (Lib.indexByte s.data.toList c.toNat.toUInt8)) ∧ w' = w := Any.strings_IndexByte Tryz.lays137 s c w
def Tryz.lays103_ren : Go.Shelf.Ren := ⟨fun | 103 => 183 | 210 => 246 | 206 => 209 | n => n, fun | 9 => 9 | 4 => 4 | 24 => 258 | 3 => 3 | n => n, fun | n => n⟩
theorem Tryz.lays103 : Go.Proofs.Lays.n103 Tryz.prog Tryz.lays103_ren := {
  mixed := by kernel_rfl
  f103 := Tryz.func183.trans (congrArg some (by kernel_rfl))
  f206 := Tryz.func209.trans (congrArg some (by kernel_rfl))
  f210 := Tryz.func246.trans (congrArg some (by kernel_rfl))
  t3 := Tryz.underlying3
  a3 := Tryz.isAgg3
  z3 := Tryz.sizeOf3
  v3 := Tryz.zeroValue3
  t4 := Tryz.underlying4
  a4 := Tryz.isAgg4
  z4 := Tryz.sizeOf4
  v4 := Tryz.zeroValue4
  t9 := Tryz.underlying9
  a9 := Tryz.isAgg9
  z9 := Tryz.sizeOf9
  v9 := Tryz.zeroValue9
  t24 := Tryz.underlying258
  a24 := Tryz.isAgg258
  z24 := Tryz.sizeOf258
  v24 := Tryz.zeroValue258 }
open Go.RowKit in
theorem Tryz.strings_CutPrefix (s p : ByteArray) (w : World) :
    Calls Tryz.prog 183 #[.string s, .string p] w fun e w' => e = .returned (.tuple #[.string ⟨(Lib.trimPrefix s.data.toList p.data.toList).toArray⟩, .bool (Lib.hasPrefix s.data.toList p.data.toList)]) ∧ w' = w := Any.strings_CutPrefix Tryz.lays103 s p w
def Tryz.lays172_ren : Go.Shelf.Ren := ⟨fun | 172 => 89 | 244 => 155 | 245 => 156 | 247 => 210 | 279 => 211 | 280 => 212 | 281 => 213 | 282 => 214 | 287 => 261 | 316 => 262 | 171 => 264 | 205 => 263 | 321 => 294 | 322 => 295 | 243 => 296 | 246 => 310 | 283 => 316 | 284 => 317 | 285 => 318 | 286 => 319 | 129 => 131 | 317 => 321 | 318 => 322 | 319 => 323 | 320 => 324 | 337 => 325 | 338 => 326 | n => n, fun | 9 => 9 | 3 => 3 | 75 => 118 | 76 => 165 | 4 => 4 | 5 => 5 | 167 => 286 | 37 => 287 | 0 => 0 | 85 => 288 | 2 => 2 | 168 => 290 | 53 => 74 | 175 => 308 | 46 => 147 | 210 => 319 | 127 => 334 | 145 => 337 | 143 => 335 | 21 => 21 | 171 => 353 | 173 => 355 | 212 => 359 | 51 => 208 | 20 => 20 | 213 => 360 | 232 => 361 | 233 => 362 | 80 => 363 | n => n, fun | 15 => 1 | 16 => 2 | 17 => 6 | 18 => 7 | 19 => 8 | n => n⟩
theorem Tryz.lays172 : Go.Proofs.Lays.n172 Tryz.prog Tryz.lays172_ren := {
  mixed := by kernel_rfl
  f129 := Tryz.func131.trans (congrArg some (by kernel_rfl))
  f171 := Tryz.func264.trans (congrArg some (by kernel_rfl))
  f172 := Tryz.func89.trans (congrArg some (by kernel_rfl))
  f205 := Tryz.func263.trans (congrArg some (by kernel_rfl))
  f243 := Tryz.func296.trans (congrArg some (by kernel_rfl))
  f244 := Tryz.func155.trans (congrArg some (by kernel_rfl))
  f245 := Tryz.func156.trans (congrArg some (by kernel_rfl))
  f246 := Tryz.func310.trans (congrArg some (by kernel_rfl))
  f247 := Tryz.func210.trans (congrArg some (by kernel_rfl))
  f279 := Tryz.func211.trans (congrArg some (by kernel_rfl))
  f280 := Tryz.func212.trans (congrArg some (by kernel_rfl))
  f281 := Tryz.func213.trans (congrArg some (by kernel_rfl))
  f282 := Tryz.func214.trans (congrArg some (by kernel_rfl))
  f283 := Tryz.func316.trans (congrArg some (by kernel_rfl))
  f284 := Tryz.func317.trans (congrArg some (by kernel_rfl))
  f285 := Tryz.func318.trans (congrArg some (by kernel_rfl))
  f286 := Tryz.func319.trans (congrArg some (by kernel_rfl))
  f287 := Tryz.func261.trans (congrArg some (by kernel_rfl))
  f316 := Tryz.func262.trans (congrArg some (by kernel_rfl))
  f317 := Tryz.func321.trans (congrArg some (by kernel_rfl))
  f318 := Tryz.func322.trans (congrArg some (by kernel_rfl))
  f319 := Tryz.func323.trans (congrArg some (by kernel_rfl))
  f320 := Tryz.func324.trans (congrArg some (by kernel_rfl))
  f321 := Tryz.func294.trans (congrArg some (by kernel_rfl))
  f322 := Tryz.func295.trans (congrArg some (by kernel_rfl))
  f337 := Tryz.func325.trans (congrArg some (by kernel_rfl))
  f338 := Tryz.func326.trans (congrArg some (by kernel_rfl))
  t0 := Tryz.underlying0
  a0 := Tryz.isAgg0
  z0 := Tryz.sizeOf0
  v0 := Tryz.zeroValue0
  t2 := Tryz.underlying2
  a2 := Tryz.isAgg2
  z2 := Tryz.sizeOf2
  v2 := Tryz.zeroValue2
  t3 := Tryz.underlying3
  a3 := Tryz.isAgg3
  z3 := Tryz.sizeOf3
  v3 := Tryz.zeroValue3
  t4 := Tryz.underlying4
  a4 := Tryz.isAgg4
  z4 := Tryz.sizeOf4
  v4 := Tryz.zeroValue4
  t5 := Tryz.underlying5
  a5 := Tryz.isAgg5
  z5 := Tryz.sizeOf5
  v5 := Tryz.zeroValue5
  t9 := Tryz.underlying9
  a9 := Tryz.isAgg9
  z9 := Tryz.sizeOf9
  v9 := Tryz.zeroValue9
  t20 := Tryz.underlying20
  a20 := Tryz.isAgg20
  z20 := Tryz.sizeOf20
  v20 := Tryz.zeroValue20
  t21 := Tryz.underlying21
  a21 := Tryz.isAgg21
  z21 := Tryz.sizeOf21
  v21 := Tryz.zeroValue21
  t37 := Tryz.underlying287
  a37 := Tryz.isAgg287
  z37 := Tryz.sizeOf287
  v37 := Tryz.zeroValue287
  t46 := Tryz.underlying147
  a46 := Tryz.isAgg147
  z46 := Tryz.sizeOf147
  v46 := Tryz.zeroValue147
  t51 := Tryz.underlying208
  a51 := Tryz.isAgg208
  z51 := Tryz.sizeOf208
  v51 := Tryz.zeroValue208
  t53 := Tryz.underlying74
  a53 := Tryz.isAgg74
  z53 := Tryz.sizeOf74
  v53 := Tryz.zeroValue74
  t75 := Tryz.underlying118
  a75 := Tryz.isAgg118
  z75 := Tryz.sizeOf118
  v75 := Tryz.zeroValue118
  t76 := Tryz.underlying165
  a76 := Tryz.isAgg165
  z76 := Tryz.sizeOf165
  v76 := Tryz.zeroValue165
  t85 := Tryz.underlying288
  a85 := Tryz.isAgg288
  z85 := Tryz.sizeOf288
  v85 := Tryz.zeroValue288
  t127 := Tryz.underlying334
  a127 := Tryz.isAgg334
  z127 := Tryz.sizeOf334
  v127 := Tryz.zeroValue334
  t143 := Tryz.underlying335
  a143 := Tryz.isAgg335
  z143 := Tryz.sizeOf335
  v143 := Tryz.zeroValue335
  t145 := Tryz.underlying337
  a145 := Tryz.isAgg337
  z145 := Tryz.sizeOf337
  v145 := Tryz.zeroValue337
  t167 := Tryz.underlying286
  a167 := Tryz.isAgg286
  z167 := Tryz.sizeOf286
  v167 := Tryz.zeroValue286
  t168 := Tryz.underlying290
  a168 := Tryz.isAgg290
  z168 := Tryz.sizeOf290
  v168 := Tryz.zeroValue290
  t171 := Tryz.underlying353
  a171 := Tryz.isAgg353
  z171 := Tryz.sizeOf353
  v171 := Tryz.zeroValue353
  t173 := Tryz.underlying355
  a173 := Tryz.isAgg355
  z173 := Tryz.sizeOf355
  v173 := Tryz.zeroValue355
  t175 := Tryz.underlying308
  a175 := Tryz.isAgg308
  z175 := Tryz.sizeOf308
  v175 := Tryz.zeroValue308
  t210 := Tryz.underlying319
  a210 := Tryz.isAgg319
  z210 := Tryz.sizeOf319
  v210 := Tryz.zeroValue319
  t212 := Tryz.underlying359
  a212 := Tryz.isAgg359
  z212 := Tryz.sizeOf359
  v212 := Tryz.zeroValue359
  t213 := Tryz.underlying360
  a213 := Tryz.isAgg360
  z213 := Tryz.sizeOf360
  t232 := Tryz.underlying361
  a232 := Tryz.isAgg361
  z232 := Tryz.sizeOf361
  v232 := Tryz.zeroValue361
  t233 := Tryz.underlying362
  a233 := Tryz.isAgg362
  z233 := Tryz.sizeOf362
  v233 := Tryz.zeroValue362
  g15 := by kernel_rfl
  g16 := by kernel_rfl
  g17 := by kernel_rfl
  g18 := by kernel_rfl
  g19 := by kernel_rfl }
open Go.RowKit in
theorem Tryz.strconv_Atoi (s : ByteArray) (n : Int) (hl : s.size ≤ 18) (h : Lib.atoi s.data.toList = some n) (w : World) :
    Calls Tryz.prog 89 #[.string s] w fun e w' => e = .returned (.tuple #[.int .i64 n, .nilIface]) ∧ ∃ t, w' = Lib.bytesWorld w 5 t := Any.strconv_Atoi Tryz.lays172 s n hl h w
def Tryz.laysPu14_ren : Go.Shelf.Ren := ⟨fun | 14 => 247 | 16 => 261 | 17 => 156 | 19 => 294 | 20 => 295 | 21 => 211 | 22 => 212 | 23 => 213 | 24 => 214 | 25 => 262 | 27 => 264 | 26 => 263 | 28 => 296 | 29 => 310 | 30 => 316 | 31 => 317 | 32 => 318 | 33 => 319 | 35 => 131 | 34 => 321 | 36 => 322 | 37 => 323 | 38 => 324 | 39 => 325 | 40 => 326 | n => n, fun | 9 => 9 | 3 => 3 | 22 => 74 | 24 => 118 | 25 => 308 | 4 => 4 | 34 => 286 | 5 => 5 | 36 => 147 | 37 => 287 | 0 => 0 | 39 => 290 | 21 => 21 | 44 => 319 | 47 => 334 | 50 => 337 | 48 => 335 | 2 => 2 | 52 => 353 | 55 => 355 | 59 => 359 | 60 => 208 | 20 => 20 | 61 => 360 | 65 => 361 | 66 => 362 | 67 => 363 | n => n, fun | 0 => 1 | 1 => 2 | 2 => 6 | 3 => 7 | 4 => 8 | n => n⟩
theorem Tryz.laysPu14 : Go.Proofs.LaysPu.n14 Tryz.prog Tryz.laysPu14_ren := {
  mixed := by kernel_rfl
  f14 := Tryz.func247.trans (congrArg some (by kernel_rfl))
  f16 := Tryz.func261.trans (congrArg some (by kernel_rfl))
  f17 := Tryz.func156.trans (congrArg some (by kernel_rfl))
  f19 := Tryz.func294.trans (congrArg some (by kernel_rfl))
  f20 := Tryz.func295.trans (congrArg some (by kernel_rfl))
  f21 := Tryz.func211.trans (congrArg some (by kernel_rfl))
  f22 := Tryz.func212.trans (congrArg some (by kernel_rfl))
  f23 := Tryz.func213.trans (congrArg some (by kernel_rfl))
  f24 := Tryz.func214.trans (congrArg some (by kernel_rfl))
  f25 := Tryz.func262.trans (congrArg some (by kernel_rfl))
  f26 := Tryz.func263.trans (congrArg some (by kernel_rfl))
  f27 := Tryz.func264.trans (congrArg some (by kernel_rfl))
  f28 := Tryz.func296.trans (congrArg some (by kernel_rfl))
  f29 := Tryz.func310.trans (congrArg some (by kernel_rfl))
  f30 := Tryz.func316.trans (congrArg some (by kernel_rfl))
  f31 := Tryz.func317.trans (congrArg some (by kernel_rfl))
  f32 := Tryz.func318.trans (congrArg some (by kernel_rfl))
  f33 := Tryz.func319.trans (congrArg some (by kernel_rfl))
  f34 := Tryz.func321.trans (congrArg some (by kernel_rfl))
  f35 := Tryz.func131.trans (congrArg some (by kernel_rfl))
  f36 := Tryz.func322.trans (congrArg some (by kernel_rfl))
  f37 := Tryz.func323.trans (congrArg some (by kernel_rfl))
  f38 := Tryz.func324.trans (congrArg some (by kernel_rfl))
  f39 := Tryz.func325.trans (congrArg some (by kernel_rfl))
  f40 := Tryz.func326.trans (congrArg some (by kernel_rfl))
  t0 := Tryz.underlying0
  a0 := Tryz.isAgg0
  z0 := Tryz.sizeOf0
  v0 := Tryz.zeroValue0
  i0 := by kernel_rfl
  t2 := Tryz.underlying2
  a2 := Tryz.isAgg2
  z2 := Tryz.sizeOf2
  v2 := Tryz.zeroValue2
  i2 := by kernel_rfl
  t3 := Tryz.underlying3
  a3 := Tryz.isAgg3
  z3 := Tryz.sizeOf3
  v3 := Tryz.zeroValue3
  i3 := by kernel_rfl
  t4 := Tryz.underlying4
  a4 := Tryz.isAgg4
  z4 := Tryz.sizeOf4
  v4 := Tryz.zeroValue4
  i4 := by kernel_rfl
  t5 := Tryz.underlying5
  a5 := Tryz.isAgg5
  z5 := Tryz.sizeOf5
  v5 := Tryz.zeroValue5
  i5 := by kernel_rfl
  t9 := Tryz.underlying9
  a9 := Tryz.isAgg9
  z9 := Tryz.sizeOf9
  v9 := Tryz.zeroValue9
  i9 := by kernel_rfl
  t20 := Tryz.underlying20
  a20 := Tryz.isAgg20
  z20 := Tryz.sizeOf20
  v20 := Tryz.zeroValue20
  i20 := by kernel_rfl
  t21 := Tryz.underlying21
  a21 := Tryz.isAgg21
  z21 := Tryz.sizeOf21
  v21 := Tryz.zeroValue21
  i21 := by kernel_rfl
  t22 := Tryz.underlying74
  a22 := Tryz.isAgg74
  z22 := Tryz.sizeOf74
  v22 := Tryz.zeroValue74
  i22 := by kernel_rfl
  t24 := Tryz.underlying118
  a24 := Tryz.isAgg118
  z24 := Tryz.sizeOf118
  v24 := Tryz.zeroValue118
  i24 := by kernel_rfl
  t25 := Tryz.underlying308
  a25 := Tryz.isAgg308
  z25 := Tryz.sizeOf308
  v25 := Tryz.zeroValue308
  i25 := by kernel_rfl
  t34 := Tryz.underlying286
  a34 := Tryz.isAgg286
  z34 := Tryz.sizeOf286
  v34 := Tryz.zeroValue286
  i34 := by kernel_rfl
  c34 := by kernel_rfl
  t36 := Tryz.underlying147
  a36 := Tryz.isAgg147
  z36 := Tryz.sizeOf147
  v36 := Tryz.zeroValue147
  i36 := by kernel_rfl
  t37 := Tryz.underlying287
  a37 := Tryz.isAgg287
  z37 := Tryz.sizeOf287
  v37 := Tryz.zeroValue287
  i37 := by kernel_rfl
  t39 := Tryz.underlying290
  a39 := Tryz.isAgg290
  z39 := Tryz.sizeOf290
  v39 := Tryz.zeroValue290
  i39 := by kernel_rfl
  t44 := Tryz.underlying319
  a44 := Tryz.isAgg319
  z44 := Tryz.sizeOf319
  v44 := Tryz.zeroValue319
  i44 := by kernel_rfl
  t47 := Tryz.underlying334
  a47 := Tryz.isAgg334
  z47 := Tryz.sizeOf334
  v47 := Tryz.zeroValue334
  i47 := by kernel_rfl
  t48 := Tryz.underlying335
  a48 := Tryz.isAgg335
  z48 := Tryz.sizeOf335
  v48 := Tryz.zeroValue335
  i48 := by kernel_rfl
  t50 := Tryz.underlying337
  a50 := Tryz.isAgg337
  z50 := Tryz.sizeOf337
  v50 := Tryz.zeroValue337
  i50 := by kernel_rfl
  t52 := Tryz.underlying353
  a52 := Tryz.isAgg353
  z52 := Tryz.sizeOf353
  v52 := Tryz.zeroValue353
  i52 := by kernel_rfl
  t55 := Tryz.underlying355
  a55 := Tryz.isAgg355
  z55 := Tryz.sizeOf355
  v55 := Tryz.zeroValue355
  i55 := by kernel_rfl
  t59 := Tryz.underlying359
  a59 := Tryz.isAgg359
  z59 := Tryz.sizeOf359
  v59 := Tryz.zeroValue359
  i59 := by kernel_rfl
  t60 := Tryz.underlying208
  a60 := Tryz.isAgg208
  z60 := Tryz.sizeOf208
  v60 := Tryz.zeroValue208
  i60 := by kernel_rfl
  t61 := Tryz.underlying360
  a61 := Tryz.isAgg360
  z61 := Tryz.sizeOf360
  t65 := Tryz.underlying361
  a65 := Tryz.isAgg361
  z65 := Tryz.sizeOf361
  v65 := Tryz.zeroValue361
  i65 := by kernel_rfl
  t66 := Tryz.underlying362
  a66 := Tryz.isAgg362
  z66 := Tryz.sizeOf362
  v66 := Tryz.zeroValue362
  i66 := by kernel_rfl
  t67 := Tryz.underlying363
  a67 := Tryz.isAgg363
  z67 := Tryz.sizeOf363
  v67 := Tryz.zeroValue363
  i67 := by kernel_rfl
  g0 := by kernel_rfl
  m0 := by kernel_rfl
  g1 := by kernel_rfl
  m1 := by kernel_rfl
  g2 := by kernel_rfl
  m2 := by kernel_rfl
  g3 := by kernel_rfl
  m3 := by kernel_rfl
  g4 := by kernel_rfl
  m4 := by kernel_rfl }
open Go.RowKit in
theorem Tryz.strconv_ParseUint_10_at64_ok (s : ByteArray) (hmax : s.size ≤ 9223372036854775806) (u : Nat) (h : Lib.parseUintB 64 s.data.toList = .ok u) (w : World) :
    Calls Tryz.prog 247 #[.string s, .int .i64 10, .int .i64 64] w fun e w' => e = .returned (.tuple #[.int .u64 u, .nilIface]) ∧ (w' = w ∨ w' = Lib.bytesWorld w 5 s) := Any.strconv_ParseUint_10_at64_ok Tryz.laysPu14 s hmax u h w
def Tryz.lays219_ren : Go.Shelf.Ren := ⟨fun | 219 => 283 | 217 => 250 | 225 => 293 | 224 => 292 | 267 => 305 | 266 => 282 | 314 => 313 | n => n, fun | 9 => 9 | 3 => 3 | 4 => 4 | 5 => 5 | 46 => 147 | 146 => 350 | 51 => 208 | n => n, fun | 1 => 5 | n => n⟩
theorem Tryz.lays219 : Go.Proofs.Lays.n219 Tryz.prog Tryz.lays219_ren := {
  mixed := by kernel_rfl
  f217 := Tryz.func250.trans (congrArg some (by kernel_rfl))
  f219 := Tryz.func283.trans (congrArg some (by kernel_rfl))
  f224 := Tryz.func292.trans (congrArg some (by kernel_rfl))
  f225 := Tryz.func293.trans (congrArg some (by kernel_rfl))
  f266 := Tryz.func282.trans (congrArg some (by kernel_rfl))
  f267 := Tryz.func305.trans (congrArg some (by kernel_rfl))
  f314 := Tryz.func313.trans (congrArg some (by kernel_rfl))
  t3 := Tryz.underlying3
  a3 := Tryz.isAgg3
  z3 := Tryz.sizeOf3
  v3 := Tryz.zeroValue3
  t4 := Tryz.underlying4
  a4 := Tryz.isAgg4
  z4 := Tryz.sizeOf4
  v4 := Tryz.zeroValue4
  t5 := Tryz.underlying5
  a5 := Tryz.isAgg5
  z5 := Tryz.sizeOf5
  v5 := Tryz.zeroValue5
  t9 := Tryz.underlying9
  a9 := Tryz.isAgg9
  z9 := Tryz.sizeOf9
  v9 := Tryz.zeroValue9
  t46 := Tryz.underlying147
  a46 := Tryz.isAgg147
  z46 := Tryz.sizeOf147
  v46 := Tryz.zeroValue147
  t51 := Tryz.underlying208
  a51 := Tryz.isAgg208
  z51 := Tryz.sizeOf208
  v51 := Tryz.zeroValue208
  t146 := Tryz.underlying350
  a146 := Tryz.isAgg350
  z146 := Tryz.sizeOf350
  v146 := Tryz.zeroValue350
  g1 := by kernel_rfl }
open Go.RowKit Go.Lib in
theorem Tryz.stringslite_Index_one (s : ByteArray) (c : UInt8) (w : World) :
    Calls Tryz.prog 283 #[.string s, .string ⟨#[c]⟩] w fun e w' => e = .returned (.int .i64 (Lib.indexByte s.data.toList c)) ∧ w' = w := Any.stringslite_Index_one Tryz.lays219 s c w
def Tryz.lays189_ren : Go.Shelf.Ren := ⟨fun | 189 => 43 | 125 => 74 | 257 => 73 | 128 => 130 | 129 => 131 | 294 => 121 | 295 => 122 | 296 => 123 | 297 => 124 | 298 => 125 | 299 => 126 | 216 => 127 | 300 => 128 | 301 => 129 | 328 => 190 | 329 => 191 | 330 => 192 | 331 => 193 | 332 => 194 | 215 => 195 | 343 => 252 | n => n, fun | 28 => 34 | 3 => 3 | 46 => 147 | 0 => 0 | 51 => 208 | 53 => 74 | 4 => 4 | 183 => 200 | 182 => 199 | 131 => 205 | 5 => 5 | 9 => 9 | 218 => 270 | 222 => 274 | 228 => 312 | 229 => 163 | n => n, fun | n => n⟩
theorem Tryz.lays189 : Go.Proofs.Lays.n189 Tryz.prog Tryz.lays189_ren := {
  mixed := by kernel_rfl
  f125 := Tryz.func74.trans (congrArg some (by kernel_rfl))
  f128 := Tryz.func130.trans (congrArg some (by kernel_rfl))
  f129 := Tryz.func131.trans (congrArg some (by kernel_rfl))
  f189 := Tryz.func43.trans (congrArg some (by kernel_rfl))
  f215 := Tryz.func195.trans (congrArg some (by kernel_rfl))
  f216 := Tryz.func127.trans (congrArg some (by kernel_rfl))
  f257 := Tryz.func73.trans (congrArg some (by kernel_rfl))
  f294 := Tryz.func121.trans (congrArg some (by kernel_rfl))
  f295 := Tryz.func122.trans (congrArg some (by kernel_rfl))
  f296 := Tryz.func123.trans (congrArg some (by kernel_rfl))
  f297 := Tryz.func124.trans (congrArg some (by kernel_rfl))
  f298 := Tryz.func125.trans (congrArg some (by kernel_rfl))
  f299 := Tryz.func126.trans (congrArg some (by kernel_rfl))
  f300 := Tryz.func128.trans (congrArg some (by kernel_rfl))
  f301 := Tryz.func129.trans (congrArg some (by kernel_rfl))
  f328 := Tryz.func190.trans (congrArg some (by kernel_rfl))
  f329 := Tryz.func191.trans (congrArg some (by kernel_rfl))
  f330 := Tryz.func192.trans (congrArg some (by kernel_rfl))
  f331 := Tryz.func193.trans (congrArg some (by kernel_rfl))
  f332 := Tryz.func194.trans (congrArg some (by kernel_rfl))
  f343 := Tryz.func252.trans (congrArg some (by kernel_rfl))
  t0 := Tryz.underlying0
  a0 := Tryz.isAgg0
  z0 := Tryz.sizeOf0
  v0 := Tryz.zeroValue0
  t3 := Tryz.underlying3
  a3 := Tryz.isAgg3
  z3 := Tryz.sizeOf3
  v3 := Tryz.zeroValue3
  t4 := Tryz.underlying4
  a4 := Tryz.isAgg4
  z4 := Tryz.sizeOf4
  v4 := Tryz.zeroValue4
  t5 := Tryz.underlying5
  a5 := Tryz.isAgg5
  z5 := Tryz.sizeOf5
  v5 := Tryz.zeroValue5
  t9 := Tryz.underlying9
  a9 := Tryz.isAgg9
  z9 := Tryz.sizeOf9
  v9 := Tryz.zeroValue9
  t28 := Tryz.underlying34
  a28 := Tryz.isAgg34
  z28 := Tryz.sizeOf34
  v28 := Tryz.zeroValue34
  t46 := Tryz.underlying147
  a46 := Tryz.isAgg147
  z46 := Tryz.sizeOf147
  v46 := Tryz.zeroValue147
  t51 := Tryz.underlying208
  a51 := Tryz.isAgg208
  z51 := Tryz.sizeOf208
  v51 := Tryz.zeroValue208
  t53 := Tryz.underlying74
  a53 := Tryz.isAgg74
  z53 := Tryz.sizeOf74
  v53 := Tryz.zeroValue74
  t131 := Tryz.underlying205
  a131 := Tryz.isAgg205
  z131 := Tryz.sizeOf205
  v131 := Tryz.zeroValue205
  t182 := Tryz.underlying199
  a182 := Tryz.isAgg199
  z182 := Tryz.sizeOf199
  v182 := Tryz.zeroValue199
  t183 := Tryz.underlying200
  a183 := Tryz.isAgg200
  z183 := Tryz.sizeOf200
  v183 := Tryz.zeroValue200
  t218 := Tryz.underlying270
  a218 := Tryz.isAgg270
  z218 := Tryz.sizeOf270
  v218 := Tryz.zeroValue270
  t222 := Tryz.underlying274
  a222 := Tryz.isAgg274
  z222 := Tryz.sizeOf274
  v222 := Tryz.zeroValue274
  t228 := Tryz.underlying312
  a228 := Tryz.isAgg312
  z228 := Tryz.sizeOf312
  v228 := Tryz.zeroValue312
  t229 := Tryz.underlying163
  a229 := Tryz.isAgg163
  z229 := Tryz.sizeOf163
  v229 := Tryz.zeroValue163 }
open Go.Sort Go.RowKit in
theorem Tryz.slices_Sort_int (blk off cap : Nat) (zs : List Int) (w : World) (hH : Holds (Value.int .i64) w blk off zs.toArray) (hblk : blk < w.heap.size) (hsz : zs.length < 4611686018427387904) :
    Calls Tryz.prog 43 #[.slice (some ⟨blk, off, none⟩) zs.length cap] w fun e w' =>
      e = .returned (.tuple #[]) ∧ ∃ n os, w' = grow (putRow (Value.int .i64) (Sort.ahead w n) blk off (zs.mergeSort fun x y => decide (x ≤ y)).toArray) os := Any.slices_Sort_int Tryz.lays189 blk off cap zs w hH hblk hsz
def Tryz.lays99_ren : Go.Shelf.Ren := ⟨fun | 99 => 154 | 206 => 209 | n => n, fun | 9 => 9 | 4 => 4 | 3 => 3 | n => n, fun | n => n⟩
theorem Tryz.lays99 : Go.Proofs.Lays.n99 Tryz.prog Tryz.lays99_ren := {
  mixed := by kernel_rfl
  f99 := Tryz.func154.trans (congrArg some (by kernel_rfl))
  f206 := Tryz.func209.trans (congrArg some (by kernel_rfl))
  t3 := Tryz.underlying3
  a3 := Tryz.isAgg3
  z3 := Tryz.sizeOf3
  v3 := Tryz.zeroValue3
  t4 := Tryz.underlying4
  a4 := Tryz.isAgg4
  z4 := Tryz.sizeOf4
  v4 := Tryz.zeroValue4
  t9 := Tryz.underlying9
  a9 := Tryz.isAgg9
  z9 := Tryz.sizeOf9
  v9 := Tryz.zeroValue9 }
open Go.RowKit Go.Lib in
theorem Tryz.strings_HasPrefix (s p : ByteArray) (w : World) :
    Calls Tryz.prog 154 #[.string s, .string p] w fun e w' => e = .returned (.bool (Lib.hasPrefix s.data.toList p.data.toList)) ∧ w' = w := Any.strings_HasPrefix Tryz.lays99 s p w
def Tryz.lays264_ren : Go.Shelf.Ren := ⟨fun | 264 => 280 | n => n, fun | 53 => 74 | 46 => 147 | n => n, fun | n => n⟩
theorem Tryz.lays264 : Go.Proofs.Lays.n264 Tryz.prog Tryz.lays264_ren := {
  mixed := by kernel_rfl
  f264 := Tryz.func280.trans (congrArg some (by kernel_rfl))
  t46 := Tryz.underlying147
  a46 := Tryz.isAgg147
  z46 := Tryz.sizeOf147
  v46 := Tryz.zeroValue147
  t53 := Tryz.underlying74
  a53 := Tryz.isAgg74
  z53 := Tryz.sizeOf74
  v53 := Tryz.zeroValue74 }
open Go.RowKit Go.Lib in
theorem Tryz.bits_Mul64 (x y : Nat) (hx : x < 18446744073709551616) (hy : y < 18446744073709551616) (w : World) :
    Calls Tryz.prog 280 #[.int .u64 x, .int .u64 y] w fun e w' => e = .returned (.tuple #[.int .u64 ((x * y / 18446744073709551616 : Nat) : Int), .int .u64 ((x * y % 18446744073709551616 : Nat) : Int)]) ∧ w' = w := Any.bits_Mul64 Tryz.lays264 x y hx hy w
def Tryz.laysNm220_ren : Go.Shelf.Ren := ⟨fun | 20 => 44 | n => n, fun | 22 => 34 | 3 => 3 | 4 => 4 | 0 => 0 | n => n, fun | n => n⟩
theorem Tryz.laysNm220 : Go.Proofs.Lays2.n20 Tryz.prog Tryz.laysNm220_ren := {
  mixed := by kernel_rfl
  f20 := Tryz.func44.trans (congrArg some (by kernel_rfl))
  t0 := Tryz.underlying0
  a0 := Tryz.isAgg0
  z0 := Tryz.sizeOf0
  v0 := Tryz.zeroValue0
  t3 := Tryz.underlying3
  a3 := Tryz.isAgg3
  z3 := Tryz.sizeOf3
  v3 := Tryz.zeroValue3
  t4 := Tryz.underlying4
  a4 := Tryz.isAgg4
  z4 := Tryz.sizeOf4
  v4 := Tryz.zeroValue4
  t22 := Tryz.underlying34
  a22 := Tryz.isAgg34
  z22 := Tryz.sizeOf34
  v22 := Tryz.zeroValue34
  i3 := by kernel_rfl }
open Go.RowKit Go.Lib Go.Sort in
theorem Tryz.slices_Compact_int (blk off cap : Nat) (zs : List Int) (w : World) (hH : Holds (Value.int .i64) w blk off zs.toArray) (hsz : zs.length ≤ 9223372036854775807) (hcap : zs.length ≤ cap) :
    Calls Tryz.prog 44 #[.slice (some ⟨blk, off, none⟩) zs.length cap] w fun e w' => e = .returned (.slice (some ⟨blk, off, none⟩) (Lib.compact zs).length cap) ∧ ∃ q, w' = putRow (Value.int .i64) (Sort.ahead w q) blk off (Lib.compact zs ++ List.replicate (zs.length - (Lib.compact zs).length) 0).toArray := Any.slices_Compact_int Tryz.laysNm220 blk off cap zs w hH hsz hcap
open Go.RowKit Go.Lib Go.Sort in
theorem Tryz.slices_Compact_int_empty (a : Option Addr) (cap : Nat) (w : World) :
    Calls Tryz.prog 44 #[.slice a 0 cap] w fun e w' => e = .returned (.slice a 0 cap) ∧ w' = w := Any.slices_Compact_int_empty Tryz.laysNm220 a cap w
open Go.RowKit Go.Sort in
theorem Tryz.slices_Sort_int_none (p : Option Addr) (cap : Nat) (w : World) :
    Calls Tryz.prog 43 #[.slice p 0 cap] w fun e w' => e = .returned (.tuple #[]) ∧ w' = w := Any.slices_Sort_int_none Tryz.lays189 p cap w
end Go.Proofs
/- Digits: what strconv makes of them. -/
namespace Go.Proofs.YtdfkbiffdcfnpaaGreatDoor.H
set_option linter.unusedVariables false
set_option linter.unusedSimpArgs false
theorem isDg_iff (b : UInt8) : isDg b = true ↔ 48 ≤ b.toNat ∧ b.toNat ≤ 57 := by unfold isDg; exact decide_eq_true_iff
theorem uint_dgs : ∀ (l : List UInt8) (acc : Nat), (∀ b ∈ l, isDg b = true) → (acc + 1) * 10 ^ l.length ≤ 10 ^ 15 → Lib.parseUintM (2 ^ 64 - 1) acc l = .ok (l.foldl (fun n b => n * 10 + (b.toNat - 48)) acc)
  | [], acc, _, _ => rfl
  | b :: l, acc, h, hl => by
    have hb := (isDg_iff b).1 (h b (by simp))
    have hp : 1 ≤ 10 ^ l.length := Nat.one_le_pow _ _ (by omega)
    have h1 : acc + 1 ≤ 10 ^ 15 := by
      refine Nat.le_trans ?_ hl
      exact Nat.le_mul_of_pos_right _ (Nat.pow_pos (by omega))
    have h3 : (acc * 10 + (b.toNat - 48) + 1) * 10 ^ l.length ≤ 10 ^ 15 := by
      refine Nat.le_trans ?_ hl
      rw [List.length_cons, Nat.pow_succ, Nat.mul_comm (10 ^ l.length) 10, ← Nat.mul_assoc]
      exact Nat.mul_le_mul_right _ (by omega)
    unfold Lib.parseUintM
    rw [if_pos hb, if_neg (by omega), if_neg (by omega), uint_dgs l _ (fun c hc => h c (by simp [hc])) h3]
    rfl
theorem parse_dgs {l : List UInt8} (h : ∀ b ∈ l, isDg b = true) (h1 : l ≠ []) (h2 : l.length ≤ 15) : Lib.parseUintB 64 l = .ok (decV l) := by
  unfold Lib.parseUintB
  rw [if_neg h1, uint_dgs l 0 h (by rw [Nat.zero_add, Nat.one_mul]; exact Nat.pow_le_pow_right (by omega) h2)]
  rfl
theorem decFrom_dgs : ∀ (l : List UInt8) (acc : Nat), (∀ b ∈ l, isDg b = true) → Lib.decFrom acc l = some (l.foldl (fun n b => n * 10 + (b.toNat - 48)) acc)
  | [], acc, _ => rfl
  | b :: l, acc, h => by
    have hb := (isDg_iff b).1 (h b (by simp))
    simp only [Lib.decFrom, Lib.digitVal, if_pos hb]
    exact decFrom_dgs l _ (fun c hc => h c (by simp [hc]))
theorem atoi_dgs {l : List UInt8} (h : ∀ b ∈ l, isDg b = true) (h1 : l ≠ []) : Lib.atoi l = some (decV l : Int) := by
  cases l with
  | nil => exact absurd rfl h1
  | cons b r =>
    have hb := (isDg_iff b).1 (h b (by simp))
    have n1 : (b == 45) = false := by rw [beq_eq_false_iff_ne]; rintro rfl; exact absurd hb.1 (by decide)
    have n2 : (b == 43) = false := by rw [beq_eq_false_iff_ne]; rintro rfl; exact absurd hb.1 (by decide)
    simp [Lib.atoi, n1, n2, Lib.decNat, decFrom_dgs _ 0 h, decV]
theorem dgs_all (s : List UInt8) : ∀ b ∈ dgs s, isDg b = true := fun b hb => List.all_eq_true.1 List.all_takeWhile b hb
theorem dgs_take (s : List UInt8) : s.take (dgs s).length = dgs s := List.prefix_iff_eq_take.1 (List.takeWhile_prefix _) |>.symm
theorem dgs_le (s : List UInt8) : (dgs s).length ≤ s.length := (List.takeWhile_prefix _).length_le
/-- The loop's test at place k. -/
theorem dgs_go : ∀ (s : List UInt8) (k : Nat), k ≤ (dgs s).length → ((∃ h : k < s.length, isDg s[k] = true) ↔ k < (dgs s).length)
  | [], k, _ => by simp [dgs]
  | b :: s, 0, _ => by
    unfold dgs
    simp only [List.takeWhile, List.length_cons, List.getElem_cons_zero]
    cases h : isDg b <;> simp
  | b :: s, k + 1, hk => by
    unfold dgs at hk ⊢
    rw [List.takeWhile_cons] at hk ⊢
    cases h : isDg b
    · rw [h] at hk; simp at hk
    · rw [h] at hk
      simp only [if_true, List.length_cons] at hk ⊢
      have ih := dgs_go s k (by unfold dgs; omega)
      unfold dgs at ih
      simp only [List.getElem_cons_succ]
      constructor
      · rintro ⟨h1, h2⟩
        have := ih.1 ⟨by omega, h2⟩
        omega
      · intro h1
        obtain ⟨h2, h3⟩ := ih.2 (by omega)
        exact ⟨by omega, h3⟩
end Go.Proofs.YtdfkbiffdcfnpaaGreatDoor.H
/- tick's sums and products; span's more. -/
namespace Go.Proofs.YtdfkbiffdcfnpaaGreatDoor.H
open Go.RowKit Go.HK Go.Lib Go.WideShapes Go.ChangeShapes Go.Proofs.YtdfkbiffdcfnpaaGreatDoorW.PrintWords Go.Proofs.YtdfkbiffdcfnpaaGreatDoorW.PrintLast Go.Proofs.YtdfkbiffdcfnpaaGreatDoorW.PrintMore
set_option linter.unusedVariables false
set_option linter.unusedSimpArgs false
set_option maxRecDepth 100000 in
theorem times_calls (a b : Nat) (ha : a < 18446744073709551616) (hb : b < 18446744073709551616) (w : World) :
    Calls Tryz.prog 248 #[.int .u64 a, .int .u64 b] w fun e w' => e = .returned (.tuple #[.int .u64 ((if a * b < 18446744073709551616 then a * b else 0 : Nat) : Int), .bool (decide (a * b < 18446744073709551616))]) ∧ w' = w := by
  have M := Aside0.mk (Tryz.bits_Mul64 a b ha hb w)
  by_cases h : a * b < 18446744073709551616
  · rw [if_pos h, decide_eq_true h]
    rw [Nat.div_eq_of_lt h, Nat.mod_eq_of_lt h] at M
    generalize a * b = p at *
    go_enter Tryz.func248, Tryz.ntmps248
    go_wp2_with (go_at_call 280; refine M.out.mono ?_; rintro e1 w1 ⟨rfl, rfl⟩)
    go_ret2
    exact ⟨rfl, rfl⟩
  · rw [if_neg h, decide_eq_false h]
    have q : a * b / 18446744073709551616 ≠ 0 := by omega
    generalize a * b / 18446744073709551616 = hi at *
    have hd : ((hi : Int) == 0) = false := by simp; omega
    have hd2 : ((hi : Int) != 0) = true := by simp; omega
    generalize a * b % 18446744073709551616 = lo at *
    clear h q
    go_enter Tryz.func248, Tryz.ntmps248
    go_wp2_with (go_at_call 280; refine M.out.mono ?_; rintro e1 w1 ⟨rfl, rfl⟩)
    go_ret2
    exact ⟨rfl, rfl⟩
theorem add64_run (x y : Nat) (w : World) : (callFunc 304 #[.int .u64 x, .int .u64 y, .int .u64 0]).run Tryz.prog w = .ok (.value (.tuple #[.int .u64 (((x + y) % 18446744073709551616 : Nat) : Int), .int .u64 (((x + y) / 18446744073709551616 : Nat) : Int)])) w := by
  rw [run_callFunc_extern Tryz.func304 (by kernel_rfl) (by kernel_rfl) (by kernel_rfl) (e := add64Entry) (by kernel_rfl), run_add64 x y 0 (by omega) (by omega) (by omega) (by omega)]
  simp only [Result.andThen]
  congr 5 <;> omega
set_option maxRecDepth 100000 in
theorem sum_calls (a b : Nat) (ha : a < 18446744073709551616) (hb : b < 18446744073709551616) (w : World) :
    Calls Tryz.prog 281 #[.int .u64 a, .int .u64 b] w fun e w' => e = .returned (.tuple #[.int .u64 ((if a + b < 18446744073709551616 then a + b else 0 : Nat) : Int), .bool (decide (a + b < 18446744073709551616))]) ∧ w' = w := by
  have M := Aside0.mk (add64_run a b w)
  by_cases h : a + b < 18446744073709551616
  · rw [if_pos h, decide_eq_true h]
    rw [Nat.div_eq_of_lt h, Nat.mod_eq_of_lt h] at M
    generalize a + b = p at *
    go_enter Tryz.func281, Tryz.ntmps281
    go_wp2
    rw [M.out, Oper.upon_value]
    go_wp2
    go_ret2
    exact ⟨rfl, rfl⟩
  · rw [if_neg h, decide_eq_false h]
    have q : (a + b) / 18446744073709551616 ≠ 0 := by omega
    generalize (a + b) / 18446744073709551616 = hi at *
    have hd : ((hi : Int) == 0) = false := by simp; omega
    have hd2 : ((hi : Int) != 0) = true := by simp; omega
    generalize (a + b) % 18446744073709551616 = lo at *
    clear h q
    go_enter Tryz.func281, Tryz.ntmps281
    go_wp2
    rw [M.out, Oper.upon_value]
    go_wp2
    go_ret2
    exact ⟨rfl, rfl⟩
def heldF (a b : Nat) : Nat := if a + b < 18446744073709551616 then a + b else 18446744073709551615
set_option maxRecDepth 100000 in
theorem held_calls (a b : Nat) (ha : a < 18446744073709551616) (hb : b < 18446744073709551616) (w : World) :
    Calls Tryz.prog 249 #[.int .u64 a, .int .u64 b] w fun e w' => e = .returned (.int .u64 (heldF a b)) ∧ w' = w := by
  have M := Aside0.mk (sum_calls a b ha hb w)
  unfold heldF
  by_cases h : a + b < 18446744073709551616
  · rw [if_pos h]
    rw [if_pos h, decide_eq_true h] at M
    generalize a + b = p at *
    go_enter Tryz.func249, Tryz.ntmps249
    go_wp2_with (go_at_call 281; refine M.out.mono ?_; rintro e1 w1 ⟨rfl, rfl⟩)
    go_ret
    exact ⟨rfl, rfl⟩
  · rw [if_neg h]
    rw [if_neg h, decide_eq_false h] at M
    go_enter Tryz.func249, Tryz.ntmps249
    go_wp2_with (go_at_call 281; refine M.out.mono ?_; rintro e1 w1 ⟨rfl, rfl⟩)
    go_ret
    exact ⟨rfl, rfl⟩
set_option maxRecDepth 100000 in
theorem more_calls (t n u : Nat) (ht : t < 18446744073709551616) (hn : n < 18446744073709551616) (hu : u < 18446744073709551616) (w : World) :
    Calls Tryz.prog 185 #[.int .u64 t, .int .u64 n, .int .u64 u] w fun e w' => e = .returned (.int .u64 (spMore t n u)) ∧ w' = w := by
  have M := Aside0.mk (times_calls n u hn hu w)
  by_cases h : n * u < 18446744073709551616
  · have e : spMore t n u = heldF t (n * u) := by unfold spMore heldF; simp only [if_pos h]
    rw [e]
    rw [if_pos h, decide_eq_true h] at M
    generalize n * u = p at *
    have M2 := Aside0.mk (held_calls t p ht h w)
    go_enter Tryz.func185, Tryz.ntmps185
    go_wp2_with (first
      | (go_at_call 248; refine M.out.mono ?_; rintro e1 w1 ⟨rfl, rfl⟩)
      | (go_at_call 249; with_reducible refine M2.out.mono ?_; rintro e1 w1 ⟨rfl, rfl⟩))
    go_ret
    exact ⟨rfl, rfl⟩
  · have e : spMore t n u = heldF t 1125899906842625 := by unfold spMore heldF; simp only [if_neg h]
    rw [e]
    rw [if_neg h, decide_eq_false h] at M
    have M1 : Aside0 (Calls Tryz.prog 249 #[.int .u64 1125899906842624, .int .u64 1] w fun e w' => e = .returned (.int .u64 1125899906842625) ∧ w' = w) := ⟨by
      have q := held_calls 1125899906842624 1 (by omega) (by omega) w
      rw [show heldF 1125899906842624 1 = 1125899906842625 by unfold heldF; rw [if_pos (by omega)]] at q
      simpa using q⟩
    have M2 : Aside0 (Calls Tryz.prog 249 #[.int .u64 t, .int .u64 1125899906842625] w fun e w' => e = .returned (.int .u64 (heldF t 1125899906842625)) ∧ w' = w) := ⟨by
      have q := held_calls t 1125899906842625 ht (by omega) w
      simpa using q⟩
    go_enter Tryz.func185, Tryz.ntmps185
    go_wp2_with (first
      | (go_at_call 248; refine M.out.mono ?_; rintro e1 w1 ⟨rfl, rfl⟩)
      | (go_at_call 249; with_reducible refine M2.out.mono ?_; rintro e1 w1 ⟨rfl, rfl⟩)
      | (go_at_call 249; with_reducible refine M1.out.mono ?_; rintro e1 w1 ⟨rfl, rfl⟩))
    go_ret
    exact ⟨rfl, rfl⟩
end Go.Proofs.YtdfkbiffdcfnpaaGreatDoor.H
/- span's next: the number that a text begins with. -/
namespace Go.Proofs.YtdfkbiffdcfnpaaGreatDoor.H
open Go.RowKit Go.HK Go.Lib Go.WideShapes Go.ChangeShapes Go.Proofs.YtdfkbiffdcfnpaaGreatDoorW.PrintWords Go.Proofs.YtdfkbiffdcfnpaaGreatDoorW.PrintLast Go.Proofs.YtdfkbiffdcfnpaaGreatDoorW.PrintMore
set_option linter.unusedVariables false
set_option linter.unusedSimpArgs false
theorem guard_read {P : Program} {ops : Array Oper} {rest : List Oper} {o : Oper} {a : Act} {w : World} {Q : Exit → Act → World → Prop} (dst : Option Tmp) (hdst : o.dst = dst)
    (v : Value) (hrun : (execOp a.eval o).run P w = .ok (.value v) w) (hw : Region.wanted o (yielded ops a.tmps) = true) (h : wpList P ops Q rest (a.put dst v) w) : wpList P ops Q (o :: rest) a w := by
  subst hdst
  refine wpList_step fun K hK => ?_
  rw [if_pos hw]
  unfold Oper.wp
  rw [hrun, Oper.upon_value]
  exact hK _ _ h
/-- A text's byte. -/
def sb (s : ByteArray) (k : Nat) : Nat := (s.data.toList.getD k 0).toNat
theorem slen (s : ByteArray) : s.data.toList.length = s.size := by rw [Array.length_toList]; rfl
theorem sidx {s : ByteArray} {k : Nat} (h : k < s.size) (w : World) : (Instr.index 9 (.string s) (.int .i64 k)).run Tryz.prog w = .ok (.int .u8 (sb s k)) w := by
  rw [run_index_string w _ s .i64 k Tryz.underlying9, dif_pos (by omega)]
  have hl := slen s
  congr 2
  unfold sb
  rw [List.getD_eq_getElem?_getD, List.getElem?_eq_getElem (by omega)]
  simp
  rfl
theorem exec_index2 {P : Program} {ρ : Operand → Value} {o : Oper} {t : TypeId} {a x : Operand} (ho : o.op = .index t a x) {w w' : World} {v : Value} (h : (Instr.index t (ρ a) (ρ x)).run P w = .ok v w') : (execOp ρ o).run P w = .ok (.value v) w' := by
  unfold execOp
  rw [ho]
  simp only [Sem.run_bind, h, Result.andThen]
  rfl
theorem sx_take (s : ByteArray) (k : Nat) : (s.extract 0 k).data.toList = s.data.toList.take k := by
  rw [ByteArray.data_extract, Array.toList_extract, List.extract_eq_take_drop]; simp
theorem sx_drop (s : ByteArray) (k : Nat) : (s.extract k s.size).data.toList = s.data.toList.drop k := by
  have hl := slen s
  rw [ByteArray.data_extract, Array.toList_extract, List.extract_eq_take_drop, List.take_of_length_le]
  rw [List.length_drop]; omega
theorem sb_dg {s : ByteArray} {k : Nat} (h : k < (dgs s.data.toList).length) : k < s.size ∧ 48 ≤ sb s k ∧ sb s k ≤ 57 := by
  have hl := slen s
  obtain ⟨h1, h2⟩ := (dgs_go s.data.toList k (by omega)).2 h
  have h3 := (isDg_iff _).1 h2
  unfold sb
  rw [List.getD_eq_getElem?_getD, List.getElem?_eq_getElem h1]
  exact ⟨by omega, h3⟩
theorem sb_no {s : ByteArray} {k : Nat} (h : k = (dgs s.data.toList).length) : s.size ≤ k ∨ (k < s.size ∧ (sb s k < 48 ∨ 57 < sb s k)) := by
  have hl := slen s
  rcases Nat.lt_or_ge k s.size with h1 | h1
  · refine .inr ⟨h1, ?_⟩
    have h2 : ¬ isDg (s.data.toList[k]'(by omega)) = true := fun q => by
      have := (dgs_go s.data.toList k (by omega)).1 ⟨by omega, q⟩
      omega
    rw [isDg_iff] at h2
    unfold sb
    rw [List.getD_eq_getElem?_getD, List.getElem?_eq_getElem (by omega)]
    simp only [Option.getD_some]
    omega
  · exact .inl h1
theorem next_body {c0 c1 c2 body : Code} {z0 : Nat}  {c0' c1' c2' body' : Code} {z0' : Nat}  (h : Tryz.f184.body = some (.seq c0 (.seq c1 (.seq (.block z0 (.loop body)) c2)))) (h' : Tryz.f184.body = some (.seq c0' (.seq c1' (.seq (.block z0' (.loop body')) c2')))) : body' = body := by
  rw [h] at h'
  simp only [Option.some.injEq, Code.seq.injEq, Code.cond.injEq, Code.block.injEq, Code.loop.injEq] at h'
  simp only [h']
set_option maxRecDepth 100000 in
set_option maxHeartbeats 4000000 in
theorem next_round {w : World} {s : ByteArray} {k b : Nat} {Q : Exit → Act → World → Prop} {N : Nat} {c0 c1 c2 body : Code} {z0 : Nat}  {x1 x2 x3 x4 x6 x7 x8 x9 x10 x11 x12 x13 x14 x15 x16 x17 x18 x19 x20 x21 x22 x23 x24 x25 x26 x27 x28 x29 x30 x31 x32 x33 x34 x35 x36 x37 x38 x39 x40 x41 x42 x43 x44 x45 x46 x47 x48 x49 x50 x51 x52 x53 x54 x55 x56 x57 x58 x59 : Value} (hB : Tryz.f184.body = some (.seq c0 (.seq c1 (.seq (.block z0 (.loop body)) c2)))) (hs : s.size ≤ 1000) (hk : k < s.size) (hb : sb s k = b) (h1 : 48 ≤ b) (h2 : b ≤ 57)
    (cont : ∀ (y1 y2 y3 y4 y6 y7 y8 y9 y10 y11 y12 y13 y14 y15 y16 y17 y18 y19 y20 y21 y22 y23 y24 y25 y26 y27 y28 y29 y30 y31 y32 y33 y34 y35 y36 y37 y38 y39 y40 y41 y42 y43 y44 y45 y46 y47 y48 y49 y50 y51 y52 y53 y54 y55 y56 y57 y58 y59 : Value), Code.rounds Tryz.prog body Q N ⟨#[.string s, y1, y2, y3, y4, .int .i64 (k + 1), y6, y7, y8, y9, y10, y11, y12, y13, y14, y15, y16, y17, y18, y19, y20, y21, y22, y23, y24, y25, y26, y27, y28, y29, y30, y31, y32, y33, y34, y35, y36, y37, y38, y39, y40, y41, y42, y43, y44, y45, y46, y47, y48, y49, y50, y51, y52, y53, y54, y55, y56, y57, y58, y59], []⟩ w) : Code.rounds Tryz.prog body Q (N + 1) ⟨#[.string s, x1, x2, x3, x4, .int .i64 k, x6, x7, x8, x9, x10, x11, x12, x13, x14, x15, x16, x17, x18, x19, x20, x21, x22, x23, x24, x25, x26, x27, x28, x29, x30, x31, x32, x33, x34, x35, x36, x37, x38, x39, x40, x41, x42, x43, x44, x45, x46, x47, x48, x49, x50, x51, x52, x53, x54, x55, x56, x57, x58, x59], []⟩ w := by
  have hbody := next_body rfl hB
  clear hB
  subst hbody
  have hcont := Aside0.mk cont
  clear cont
  rw [rounds_succ]
  have IX := Aside0.mk (sidx hk w)
  rw [hb] at IX
  have hk1 : ((k : Int) < (s.size : Int)) := by omega
  go_wp2_with (first
    | (refine guard_read (some 13) rfl (.int .u8 b) (exec_index2 rfl IX.out) (by rfl) ?_)
    | (refine guard_read (some 19) rfl (.int .u8 b) (exec_index2 rfl IX.out) (by rfl) ?_))
  exact hcont.out _ _ _ _ _ _ _ _ _ _ _ _ _ _ _ _ _ _ _ _ _ _ _ _ _ _ _ _ _ _ _ _ _ _ _ _ _ _ _ _ _ _ _ _ _ _ _ _ _ _ _ _ _ _ _ _ _ _
set_option maxRecDepth 100000 in
set_option maxHeartbeats 4000000 in
theorem next_end1 {w : World} {s : ByteArray} {k b : Nat} {Q : Exit → Act → World → Prop} {N : Nat} {c0 c1 c2 body : Code} {z0 : Nat}  {x1 x2 x3 x4 x6 x7 x8 x9 x10 x11 x12 x13 x14 x15 x16 x17 x18 x19 x20 x21 x22 x23 x24 x25 x26 x27 x28 x29 x30 x31 x32 x33 x34 x35 x36 x37 x38 x39 x40 x41 x42 x43 x44 x45 x46 x47 x48 x49 x50 x51 x52 x53 x54 x55 x56 x57 x58 x59 : Value} (hB : Tryz.f184.body = some (.seq c0 (.seq c1 (.seq (.block z0 (.loop body)) c2)))) (hs : s.size ≤ 1000) (hk9 : k ≤ 1000) (h0 : s.size ≤ k)
    (cont : ∀ (y1 y2 y3 y4 y6 y7 y8 y9 y10 y11 y12 y13 y14 y15 y16 y17 y18 y19 y20 y21 y22 y23 y24 y25 y26 y27 y28 y29 y30 y31 y32 y33 y34 y35 y36 y37 y38 y39 y40 y41 y42 y43 y44 y45 y46 y47 y48 y49 y50 y51 y52 y53 y54 y55 y56 y57 y58 y59 : Value), Q (.exit 0) ⟨#[.string s, y1, y2, y3, y4, .int .i64 k, y6, y7, y8, y9, y10, y11, y12, y13, y14, y15, y16, y17, y18, y19, y20, y21, y22, y23, y24, y25, y26, y27, y28, y29, y30, y31, y32, y33, y34, y35, y36, y37, y38, y39, y40, y41, y42, y43, y44, y45, y46, y47, y48, y49, y50, y51, y52, y53, y54, y55, y56, y57, y58, y59], []⟩ w) : Code.rounds Tryz.prog body Q (N + 1) ⟨#[.string s, x1, x2, x3, x4, .int .i64 k, x6, x7, x8, x9, x10, x11, x12, x13, x14, x15, x16, x17, x18, x19, x20, x21, x22, x23, x24, x25, x26, x27, x28, x29, x30, x31, x32, x33, x34, x35, x36, x37, x38, x39, x40, x41, x42, x43, x44, x45, x46, x47, x48, x49, x50, x51, x52, x53, x54, x55, x56, x57, x58, x59], []⟩ w := by
  have hbody := next_body rfl hB
  clear hB
  subst hbody
  have hcont := Aside0.mk cont
  clear cont
  rw [rounds_succ]
  go_wp2
  exact hcont.out _ _ _ _ _ _ _ _ _ _ _ _ _ _ _ _ _ _ _ _ _ _ _ _ _ _ _ _ _ _ _ _ _ _ _ _ _ _ _ _ _ _ _ _ _ _ _ _ _ _ _ _ _ _ _ _ _ _
set_option maxRecDepth 100000 in
set_option maxHeartbeats 4000000 in
theorem next_end2 {w : World} {s : ByteArray} {k b : Nat} {Q : Exit → Act → World → Prop} {N : Nat} {c0 c1 c2 body : Code} {z0 : Nat}  {x1 x2 x3 x4 x6 x7 x8 x9 x10 x11 x12 x13 x14 x15 x16 x17 x18 x19 x20 x21 x22 x23 x24 x25 x26 x27 x28 x29 x30 x31 x32 x33 x34 x35 x36 x37 x38 x39 x40 x41 x42 x43 x44 x45 x46 x47 x48 x49 x50 x51 x52 x53 x54 x55 x56 x57 x58 x59 : Value} (hB : Tryz.f184.body = some (.seq c0 (.seq c1 (.seq (.block z0 (.loop body)) c2)))) (hs : s.size ≤ 1000) (hk9 : k ≤ 1000) (hk : k < s.size) (hb : sb s k = b) (h1 : b < 48)
    (cont : ∀ (y1 y2 y3 y4 y6 y7 y8 y9 y10 y11 y12 y13 y14 y15 y16 y17 y18 y19 y20 y21 y22 y23 y24 y25 y26 y27 y28 y29 y30 y31 y32 y33 y34 y35 y36 y37 y38 y39 y40 y41 y42 y43 y44 y45 y46 y47 y48 y49 y50 y51 y52 y53 y54 y55 y56 y57 y58 y59 : Value), Q (.exit 0) ⟨#[.string s, y1, y2, y3, y4, .int .i64 k, y6, y7, y8, y9, y10, y11, y12, y13, y14, y15, y16, y17, y18, y19, y20, y21, y22, y23, y24, y25, y26, y27, y28, y29, y30, y31, y32, y33, y34, y35, y36, y37, y38, y39, y40, y41, y42, y43, y44, y45, y46, y47, y48, y49, y50, y51, y52, y53, y54, y55, y56, y57, y58, y59], []⟩ w) : Code.rounds Tryz.prog body Q (N + 1) ⟨#[.string s, x1, x2, x3, x4, .int .i64 k, x6, x7, x8, x9, x10, x11, x12, x13, x14, x15, x16, x17, x18, x19, x20, x21, x22, x23, x24, x25, x26, x27, x28, x29, x30, x31, x32, x33, x34, x35, x36, x37, x38, x39, x40, x41, x42, x43, x44, x45, x46, x47, x48, x49, x50, x51, x52, x53, x54, x55, x56, x57, x58, x59], []⟩ w := by
  have hbody := next_body rfl hB
  clear hB
  subst hbody
  have hcont := Aside0.mk cont
  clear cont
  rw [rounds_succ]
  have IX := Aside0.mk (sidx hk w)
  rw [hb] at IX
  have hk1 : ((k : Int) < (s.size : Int)) := by omega
  go_wp2_with (first | (refine guard_read (some 13) rfl (.int .u8 b) (exec_index2 rfl IX.out) (by rfl) ?_))
  exact hcont.out _ _ _ _ _ _ _ _ _ _ _ _ _ _ _ _ _ _ _ _ _ _ _ _ _ _ _ _ _ _ _ _ _ _ _ _ _ _ _ _ _ _ _ _ _ _ _ _ _ _ _ _ _ _ _ _ _ _
set_option maxRecDepth 100000 in
set_option maxHeartbeats 4000000 in
theorem next_end3 {w : World} {s : ByteArray} {k b : Nat} {Q : Exit → Act → World → Prop} {N : Nat} {c0 c1 c2 body : Code} {z0 : Nat}  {x1 x2 x3 x4 x6 x7 x8 x9 x10 x11 x12 x13 x14 x15 x16 x17 x18 x19 x20 x21 x22 x23 x24 x25 x26 x27 x28 x29 x30 x31 x32 x33 x34 x35 x36 x37 x38 x39 x40 x41 x42 x43 x44 x45 x46 x47 x48 x49 x50 x51 x52 x53 x54 x55 x56 x57 x58 x59 : Value} (hB : Tryz.f184.body = some (.seq c0 (.seq c1 (.seq (.block z0 (.loop body)) c2)))) (hs : s.size ≤ 1000) (hk9 : k ≤ 1000) (hk : k < s.size) (hb : sb s k = b) (h1 : 57 < b)
    (cont : ∀ (y1 y2 y3 y4 y6 y7 y8 y9 y10 y11 y12 y13 y14 y15 y16 y17 y18 y19 y20 y21 y22 y23 y24 y25 y26 y27 y28 y29 y30 y31 y32 y33 y34 y35 y36 y37 y38 y39 y40 y41 y42 y43 y44 y45 y46 y47 y48 y49 y50 y51 y52 y53 y54 y55 y56 y57 y58 y59 : Value), Q (.exit 0) ⟨#[.string s, y1, y2, y3, y4, .int .i64 k, y6, y7, y8, y9, y10, y11, y12, y13, y14, y15, y16, y17, y18, y19, y20, y21, y22, y23, y24, y25, y26, y27, y28, y29, y30, y31, y32, y33, y34, y35, y36, y37, y38, y39, y40, y41, y42, y43, y44, y45, y46, y47, y48, y49, y50, y51, y52, y53, y54, y55, y56, y57, y58, y59], []⟩ w) : Code.rounds Tryz.prog body Q (N + 1) ⟨#[.string s, x1, x2, x3, x4, .int .i64 k, x6, x7, x8, x9, x10, x11, x12, x13, x14, x15, x16, x17, x18, x19, x20, x21, x22, x23, x24, x25, x26, x27, x28, x29, x30, x31, x32, x33, x34, x35, x36, x37, x38, x39, x40, x41, x42, x43, x44, x45, x46, x47, x48, x49, x50, x51, x52, x53, x54, x55, x56, x57, x58, x59], []⟩ w := by
  have hbody := next_body rfl hB
  clear hB
  subst hbody
  have hcont := Aside0.mk cont
  clear cont
  rw [rounds_succ]
  have IX := Aside0.mk (sidx hk w)
  rw [hb] at IX
  have hk1 : ((k : Int) < (s.size : Int)) := by omega
  go_wp2_with (first | (refine guard_read (some 13) rfl (.int .u8 b) (exec_index2 rfl IX.out) (by rfl) ?_) | (refine guard_read (some 19) rfl (.int .u8 b) (exec_index2 rfl IX.out) (by rfl) ?_))
  exact hcont.out _ _ _ _ _ _ _ _ _ _ _ _ _ _ _ _ _ _ _ _ _ _ _ _ _ _ _ _ _ _ _ _ _ _ _ _ _ _ _ _ _ _ _ _ _ _ _ _ _ _ _ _ _ _ _ _ _ _
set_option maxRecDepth 100000 in
theorem next_loop {w : World} {s : ByteArray} {K : Nat} {Q : Exit → Act → World → Prop} {c0 c1 c2 body : Code} {z0 : Nat}  (hB : Tryz.f184.body = some (.seq c0 (.seq c1 (.seq (.block z0 (.loop body)) c2)))) (hs : s.size ≤ 1000) (hK : K = (dgs s.data.toList).length)
    (cont : ∀ (y1 y2 y3 y4 y6 y7 y8 y9 y10 y11 y12 y13 y14 y15 y16 y17 y18 y19 y20 y21 y22 y23 y24 y25 y26 y27 y28 y29 y30 y31 y32 y33 y34 y35 y36 y37 y38 y39 y40 y41 y42 y43 y44 y45 y46 y47 y48 y49 y50 y51 y52 y53 y54 y55 y56 y57 y58 y59 : Value), Q (.exit 0) ⟨#[.string s, y1, y2, y3, y4, .int .i64 K, y6, y7, y8, y9, y10, y11, y12, y13, y14, y15, y16, y17, y18, y19, y20, y21, y22, y23, y24, y25, y26, y27, y28, y29, y30, y31, y32, y33, y34, y35, y36, y37, y38, y39, y40, y41, y42, y43, y44, y45, y46, y47, y48, y49, y50, y51, y52, y53, y54, y55, y56, y57, y58, y59], []⟩ w) : ∀ (d k : Nat) {y1 y2 y3 y4 y6 y7 y8 y9 y10 y11 y12 y13 y14 y15 y16 y17 y18 y19 y20 y21 y22 y23 y24 y25 y26 y27 y28 y29 y30 y31 y32 y33 y34 y35 y36 y37 y38 y39 y40 y41 y42 y43 y44 y45 y46 y47 y48 y49 y50 y51 y52 y53 y54 y55 y56 y57 y58 y59 : Value}, k + d = K → Code.rounds Tryz.prog body Q (d + 1) ⟨#[.string s, y1, y2, y3, y4, .int .i64 k, y6, y7, y8, y9, y10, y11, y12, y13, y14, y15, y16, y17, y18, y19, y20, y21, y22, y23, y24, y25, y26, y27, y28, y29, y30, y31, y32, y33, y34, y35, y36, y37, y38, y39, y40, y41, y42, y43, y44, y45, y46, y47, y48, y49, y50, y51, y52, y53, y54, y55, y56, y57, y58, y59], []⟩ w := by
  intro d
  have hle := dgs_le s.data.toList
  have hl := slen s
  induction d with
  | zero =>
    intro k y1 y2 y3 y4 y6 y7 y8 y9 y10 y11 y12 y13 y14 y15 y16 y17 y18 y19 y20 y21 y22 y23 y24 y25 y26 y27 y28 y29 y30 y31 y32 y33 y34 y35 y36 y37 y38 y39 y40 y41 y42 y43 y44 y45 y46 y47 y48 y49 y50 y51 y52 y53 y54 y55 y56 y57 y58 y59 hd
    obtain rfl : k = K := by omega
    rcases sb_no hK with h | ⟨h, h1 | h1⟩
    · exact next_end1 (b := 0) hB hs (by omega) h cont
    · exact next_end2 hB hs (by omega) h rfl h1 cont
    · exact next_end3 hB hs (by omega) h rfl h1 cont
  | succ d ih =>
    intro k y1 y2 y3 y4 y6 y7 y8 y9 y10 y11 y12 y13 y14 y15 y16 y17 y18 y19 y20 y21 y22 y23 y24 y25 y26 y27 y28 y29 y30 y31 y32 y33 y34 y35 y36 y37 y38 y39 y40 y41 y42 y43 y44 y45 y46 y47 y48 y49 y50 y51 y52 y53 y54 y55 y56 y57 y58 y59 hd
    obtain ⟨h1, h2, h3⟩ := sb_dg (s := s) (k := k) (by omega)
    exact next_round hB hs h1 rfl h2 h3 (fun y1 y2 y3 y4 y6 y7 y8 y9 y10 y11 y12 y13 y14 y15 y16 y17 y18 y19 y20 y21 y22 y23 y24 y25 y26 y27 y28 y29 y30 y31 y32 y33 y34 y35 y36 y37 y38 y39 y40 y41 y42 y43 y44 y45 y46 y47 y48 y49 y50 y51 y52 y53 y54 y55 y56 y57 y58 y59 => ih (k + 1) (by omega))
set_option maxRecDepth 100000 in
set_option maxHeartbeats 4000000 in
theorem next_calls (s : ByteArray) (hs : s.size ≤ 1000) (w : World) :
    Calls Tryz.prog 184 #[.string s] w fun e w' => ∃ r : ByteArray, e = .returned (.tuple #[.int .u64 (spNext s.data.toList).1, .int .u8 (spNext s.data.toList).2.1, .string r]) ∧ r.data.toList = (spNext s.data.toList).2.2 ∧ r.size ≤ s.size ∧ Below w.heap.size w w' := by
  have hle := dgs_le s.data.toList
  have hl := slen s
  have hall := dgs_all s.data.toList
  have htk := dgs_take s.data.toList
  obtain ⟨K, hK⟩ : ∃ K, K = (dgs s.data.toList).length := ⟨_, rfl⟩
  obtain ⟨res, hres⟩ : ∃ res, spNext s.data.toList = res := ⟨_, rfl⟩
  rw [hres]
  go_enter Tryz.func184, Tryz.ntmps184
  go_wp2
  refine wp_loop_rounds (K + 1) ?_
  refine next_loop rfl hs hK ?_ K 0 (by omega)
  intro y1 y2 y3 y4 y6 y7 y8 y9 y10 y11 y12 y13 y14 y15 y16 y17 y18 y19 y20 y21 y22 y23 y24 y25 y26 y27 y28 y29 y30 y31 y32 y33 y34 y35 y36 y37 y38 y39 y40 y41 y42 y43 y44 y45 y46 y47 y48 y49 y50 y51 y52 y53 y54 y55 y56 y57 y58 y59
  by_cases c : K < 1 ∨ 15 < K ∨ K = s.size ∨ (sb s 0 = 48 ∧ 1 < K)
  · have e : res = (0, 0, []) := by
      rw [← hres]
      unfold spNext
      rw [if_pos]
      rw [← hK, hl]
      rcases c with c | c | c | ⟨c, c2⟩
      · exact .inl c
      · exact .inr (.inl c)
      · exact .inr (.inr (.inl c))
      · refine .inr (.inr (.inr ⟨?_, c2⟩))
        unfold sb at c
        cases hd : s.data.toList with
        | nil => rw [hd] at c; simp at c
        | cons q t => rw [hd] at c; simp at c; simp; exact UInt8.toNat_inj.1 c
    clear hres
    subst e
    have hKs : K ≤ s.size := by omega
    clear htk hall hle hl hK
    obtain ⟨ki, hki⟩ : ∃ ki : Int, ki = K := ⟨_, rfl⟩
    rw [← hki]
    have hss : (0 : Int) ≤ (s.size : Int) := by omega
    by_cases c1 : K < 1
    · have d1 : decide (ki < 1) = true := decide_eq_true (by omega)
      clear c hki
      go_wp2
      go_ret3
      exact ⟨_, rfl, rfl, Nat.zero_le _, Below.refl _ _⟩
    · by_cases c2 : 15 < K
      · have d1 : decide (ki < 1) = false := decide_eq_false (by omega)
        have d2 : decide (15 < ki) = true := decide_eq_true (by omega)
        clear c hki
        go_wp2
        go_ret3
        exact ⟨_, rfl, rfl, Nat.zero_le _, Below.refl _ _⟩
      · by_cases c3 : K = s.size
        · have d1 : decide (ki < 1) = false := decide_eq_false (by omega)
          have d2 : decide (15 < ki) = false := decide_eq_false (by omega)
          have d3 : (ki == (s.size : Int)) = true := by rw [hki, c3]; simp
          clear c hki
          go_wp2
          go_ret3
          exact ⟨_, rfl, rfl, Nat.zero_le _, Below.refl _ _⟩
        · have c4 : sb s 0 = 48 ∧ 1 < K := by omega
          have d1 : decide (ki < 1) = false := decide_eq_false (by omega)
          have d2 : decide (15 < ki) = false := decide_eq_false (by omega)
          have d3 : (ki == (s.size : Int)) = false := by rw [beq_eq_false_iff_ne]; omega
          have d4 : decide (1 < ki) = true := decide_eq_true (by omega)
          have IZ := Aside0.mk (fun (v : World) => sidx (s := s) (k := 0) (by omega) v)
          rw [c4.1] at IZ
          clear c c4 hki
          go_wp2_with (first | (refine guard_read (some 38) rfl (.int .u8 48) (exec_index2 rfl (IZ.out _)) (by rfl) ?_))
          go_ret3
          exact ⟨_, rfl, rfl, Nat.zero_le _, Below.refl _ _⟩
  · simp only [not_or, not_and] at c
    obtain ⟨c1, c2, c3, c4⟩ := c
    have e : res = (decV (s.data.toList.take K), sb s K, s.data.toList.drop (K + 1)) := by
      rw [← hres]
      unfold spNext
      rw [if_neg, ← hK]
      · rw [hK, htk]
        congr 2
        unfold sb
        rw [List.headD_eq_head?_getD, List.head?_drop, List.getD_eq_getElem?_getD, ← hK]
      · rw [← hK, hl]
        rintro (q | q | q | ⟨q, q2⟩)
        · exact c1 q
        · exact c2 q
        · exact c3 q
        · refine c4 ?_ q2
          unfold sb
          cases hd : s.data.toList with
          | nil => have := congrArg List.length hd; rw [List.length_nil] at this; omega
          | cons z t => rw [hd] at q; simp at q; simp [q]
    clear hres
    have E := Aside0.mk e
    clear e
    have hKs : K < s.size := by omega
    have PU := Aside0.mk (Tryz.strconv_ParseUint_10_at64_ok (s.extract 0 K) (by rw [ByteArray.size_extract]; omega) (decV (s.data.toList.take K)) (by
      rw [sx_take]
      refine parse_dgs ?_ ?_ ?_
      · rw [hK, htk]; exact hall
      · intro q
        have := congrArg List.length q
        rw [List.length_take, List.length_nil] at this
        omega
      · rw [List.length_take]; omega) w)
    have EX := Aside0.mk (show ∀ r : ByteArray, r = s.extract (K + 1) s.size → r.data.toList = s.data.toList.drop (K + 1) ∧ r.size ≤ s.size from fun r hr => by rw [hr]; exact ⟨sx_drop _ _, by rw [ByteArray.size_extract]; omega⟩)
    generalize decV (s.data.toList.take K) = V at *
    generalize s.data.toList.drop (K + 1) = RR at *
    have IK := Aside0.mk (fun (v : World) => sidx (s := s) (k := K) hKs v)
    generalize sb s K = u at *
    clear htk hall hle hl hK
    obtain ⟨ki, hki⟩ : ∃ ki : Int, ki = K := ⟨_, rfl⟩
    obtain ⟨k1, hk1⟩ : ∃ k1 : Int, k1 = (K + 1 : Nat) := ⟨_, rfl⟩
    have hw1 : wrap64 (ki + 1) = k1 := by unfold wrap64; omega
    have q0 : (0 : Int) ≤ ki := by omega
    have q1 : ki ≤ (s.size : Int) := by omega
    have q2 : (0 : Int) ≤ k1 := by omega
    have q3 : k1 ≤ (s.size : Int) := by omega
    have hss : (0 : Int) ≤ (s.size : Int) := by omega
    have d1 : decide (ki < 1) = false := decide_eq_false (by omega)
    have d2 : decide (15 < ki) = false := decide_eq_false (by omega)
    have d3 : (ki == (s.size : Int)) = false := by rw [beq_eq_false_iff_ne]; omega
    have t0 : ki.toNat = K := by omega
    have t1 : k1.toNat = K + 1 := by omega
    rw [← t0] at PU
    rw [← t1] at EX
    rw [← hki] at IK ⊢
    have b0 : sb s 0 = 48 → ¬ 1 < K := c4
    have IZ := Aside0.mk (fun (v : World) => sidx (s := s) (k := 0) (by omega) v)
    generalize sb s 0 = z at *
    by_cases c5 : z = 48
    · have d4 : decide (1 < ki) = false := decide_eq_false (by have := b0 c5; omega)
      have d5 : ((z : Int) == 48) = true := by rw [c5]; rfl
      clear c4 b0 c5 c1 c2 c3 hKs hki hk1 t0 t1
      go_wp2_with (first
        | (refine guard_read (some 38) rfl (.int .u8 z) (exec_index2 rfl (IZ.out _)) (by rfl) ?_)
        | (go_at_call 247; refine PU.out.mono ?_; rintro e1 w1 ⟨rfl, hw⟩; have HB := Aside0.mk (show Below w.heap.size w w1 by rcases hw with rfl | rfl; exact Below.refl _ _; exact bytes_below (Below.refl _ _) (Nat.le_refl _) _ _); clear hw))
      refine start_ (n := 11) (S := fun w' => True) (ds := []) #[false, false, false, false, false, false, false, false, false, false, false] (by kernel_rfl) rfl rfl trivial (fun hHeld => ?_)
      refine pure_ (i := 0) (N := some 52) (v := ?_) (a' := ?_) #[true, false, false, false, false, false, false, false, false, false, false] rfl rfl (by kernel_rfl) (fun _ _ _ h => h) (Or.inl ⟨by rfl, ?_⟩) ?_ ?_
      rotate_left
      · intro w'
        go_simp
        with_reducible rfl
      rotate_left
      · simp only [Act.put, List.setIfInBounds_toArray, List.set_cons_zero, List.set_cons_succ, i64_w, i32_w]
        rfl
      refine pure_ (i := 1) (N := some 53) (v := ?_) (a' := ?_) #[true, true, false, false, false, false, false, false, false, false, false] rfl rfl (by kernel_rfl) (fun _ _ _ h => h) (Or.inl ⟨by rfl, ?_⟩) ?_ ?_
      rotate_left
      · intro w'
        go_simp
        with_reducible rfl
      rotate_left
      · simp only [Act.put, List.setIfInBounds_toArray, List.set_cons_zero, List.set_cons_succ, i64_w, i32_w]
        rfl
      refine pure_ (i := 2) (N := some 54) (v := ?_) (a' := ?_) #[true, true, true, false, false, false, false, false, false, false, false] rfl rfl (by kernel_rfl) (fun _ _ _ h => h) (Or.inl ⟨by rfl, ?_⟩) ?_ ?_
      rotate_left
      · intro w'
        go_simp
        with_reducible rfl
      rotate_left
      · simp only [Act.put, List.setIfInBounds_toArray, List.set_cons_zero, List.set_cons_succ, i64_w, i32_w]
        rfl
      refine pure_ (i := 4) (N := some 56) (v := ?_) (a' := ?_) #[true, true, true, false, true, false, false, false, false, false, false] rfl rfl (by kernel_rfl) (fun _ _ _ h => h) (Or.inl ⟨by rfl, ?_⟩) ?_ ?_
      rotate_left
      · intro w'
        go_simp
        with_reducible rfl
      rotate_left
      · simp only [Act.put, List.setIfInBounds_toArray, List.set_cons_zero, List.set_cons_succ, i64_w, i32_w]
        rfl
      refine pure_ (i := 5) (N := some 57) (v := ?_) (a' := ?_) #[true, true, true, false, true, true, false, false, false, false, false] rfl rfl (by kernel_rfl) (fun _ _ _ h => h) (Or.inl ⟨by rfl, ?_⟩) ?_ ?_
      rotate_left
      · intro w'
        go_simp
        with_reducible rfl
      rotate_left
      · simp only [Act.put, List.setIfInBounds_toArray, List.set_cons_zero, List.set_cons_succ, i64_w, i32_w]
        rfl
      refine pure_ (i := 6) (N := some 58) (v := ?_) (a' := ?_) #[true, true, true, false, true, true, true, false, false, false, false] rfl rfl (by kernel_rfl) (fun _ _ _ h => h) (Or.inl ⟨by rfl, ?_⟩) ?_ ?_
      rotate_left
      · intro w'
        go_simp
        with_reducible rfl
      rotate_left
      · simp only [Act.put, List.setIfInBounds_toArray, List.set_cons_zero, List.set_cons_succ, i64_w, i32_w]
        rfl
      refine pure_ (i := 7) (N := some 59) (v := ?_) (a' := ?_) #[true, true, true, false, true, true, true, true, false, false, false] rfl rfl (by kernel_rfl) (fun _ _ _ h => h) (Or.inl ⟨by rfl, ?_⟩) ?_ ?_
      rotate_left
      · intro w'
        go_simp
        with_reducible rfl
      rotate_left
      · simp only [Act.put, List.setIfInBounds_toArray, List.set_cons_zero, List.set_cons_succ, i64_w, i32_w]
        rfl
      refine pure_ (i := 8) (N := some 2) (v := ?_) (a' := ?_) #[true, true, true, false, true, true, true, true, true, false, false] rfl rfl (by kernel_rfl) (fun _ _ _ h => h) (Or.inl ⟨by rfl, ?_⟩) ?_ ?_
      rotate_left
      · intro w'
        go_simp
        with_reducible rfl
      rotate_left
      · simp only [Act.put, List.setIfInBounds_toArray, List.set_cons_zero, List.set_cons_succ, i64_w, i32_w]
        rfl
      refine take_ (i := 3) (N := some 55) (v := ?_) (a' := ?_) #[true, true, true, true, true, true, true, true, true, false, false] rfl rfl (by kernel_rfl) (fun _ _ _ h => h) (Or.inl ⟨by rfl, ?_⟩) hHeld ?_ ?_
      rotate_left
      · intro w' _
        refine (exec_index2 rfl (IK.out _)).trans ?_
        with_reducible rfl
      rotate_left
      · simp only [Act.put, List.setIfInBounds_toArray, List.set_cons_zero, List.set_cons_succ, i64_w, i32_w]
        rfl
      refine pure_ (i := 9) (N := some 3) (v := ?_) (a' := ?_) #[true, true, true, true, true, true, true, true, true, true, false] rfl rfl (by kernel_rfl) (fun _ _ _ h => h) (Or.inl ⟨by rfl, ?_⟩) ?_ ?_
      rotate_left
      · intro w'
        go_simp
        with_reducible rfl
      rotate_left
      · simp only [Act.put, List.setIfInBounds_toArray, List.set_cons_zero, List.set_cons_succ, i64_w, i32_w]
        rfl
      refine pure_ (i := 10) (N := some 4) (v := ?_) (a' := ?_) #[true, true, true, true, true, true, true, true, true, true, true] rfl rfl (by kernel_rfl) (fun _ _ _ h => h) (Or.inl ⟨by rfl, ?_⟩) ?_ ?_
      rotate_left
      · intro w'
        go_simp
        with_reducible rfl
      rotate_left
      · simp only [Act.put, List.setIfInBounds_toArray, List.set_cons_zero, List.set_cons_succ, i64_w, i32_w]
        rfl
      refine done_ (by kernel_rfl) ?_

      go_wp2
      go_ret3
      rw [E.out]
      exact ⟨_, rfl, (EX.out _ rfl).1, (EX.out _ rfl).2, HB.out.drew⟩
    · have d5 : ((z : Int) == 48) = false := by rw [beq_eq_false_iff_ne]; omega
      clear c4 b0 c5 c1 c2 c3 hKs hki hk1 t0 t1
      go_wp2_with (first
        | (refine guard_read (some 38) rfl (.int .u8 z) (exec_index2 rfl (IZ.out _)) (by rfl) ?_)
        | (go_at_call 247; refine PU.out.mono ?_; rintro e1 w1 ⟨rfl, hw⟩; have HB := Aside0.mk (show Below w.heap.size w w1 by rcases hw with rfl | rfl; exact Below.refl _ _; exact bytes_below (Below.refl _ _) (Nat.le_refl _) _ _); clear hw))
      refine start_ (n := 11) (S := fun w' => True) (ds := []) #[false, false, false, false, false, false, false, false, false, false, false] (by kernel_rfl) rfl rfl trivial (fun hHeld => ?_)
      refine pure_ (i := 0) (N := some 52) (v := ?_) (a' := ?_) #[true, false, false, false, false, false, false, false, false, false, false] rfl rfl (by kernel_rfl) (fun _ _ _ h => h) (Or.inl ⟨by rfl, ?_⟩) ?_ ?_
      rotate_left
      · intro w'
        go_simp
        with_reducible rfl
      rotate_left
      · simp only [Act.put, List.setIfInBounds_toArray, List.set_cons_zero, List.set_cons_succ, i64_w, i32_w]
        rfl
      refine pure_ (i := 1) (N := some 53) (v := ?_) (a' := ?_) #[true, true, false, false, false, false, false, false, false, false, false] rfl rfl (by kernel_rfl) (fun _ _ _ h => h) (Or.inl ⟨by rfl, ?_⟩) ?_ ?_
      rotate_left
      · intro w'
        go_simp
        with_reducible rfl
      rotate_left
      · simp only [Act.put, List.setIfInBounds_toArray, List.set_cons_zero, List.set_cons_succ, i64_w, i32_w]
        rfl
      refine pure_ (i := 2) (N := some 54) (v := ?_) (a' := ?_) #[true, true, true, false, false, false, false, false, false, false, false] rfl rfl (by kernel_rfl) (fun _ _ _ h => h) (Or.inl ⟨by rfl, ?_⟩) ?_ ?_
      rotate_left
      · intro w'
        go_simp
        with_reducible rfl
      rotate_left
      · simp only [Act.put, List.setIfInBounds_toArray, List.set_cons_zero, List.set_cons_succ, i64_w, i32_w]
        rfl
      refine pure_ (i := 4) (N := some 56) (v := ?_) (a' := ?_) #[true, true, true, false, true, false, false, false, false, false, false] rfl rfl (by kernel_rfl) (fun _ _ _ h => h) (Or.inl ⟨by rfl, ?_⟩) ?_ ?_
      rotate_left
      · intro w'
        go_simp
        with_reducible rfl
      rotate_left
      · simp only [Act.put, List.setIfInBounds_toArray, List.set_cons_zero, List.set_cons_succ, i64_w, i32_w]
        rfl
      refine pure_ (i := 5) (N := some 57) (v := ?_) (a' := ?_) #[true, true, true, false, true, true, false, false, false, false, false] rfl rfl (by kernel_rfl) (fun _ _ _ h => h) (Or.inl ⟨by rfl, ?_⟩) ?_ ?_
      rotate_left
      · intro w'
        go_simp
        with_reducible rfl
      rotate_left
      · simp only [Act.put, List.setIfInBounds_toArray, List.set_cons_zero, List.set_cons_succ, i64_w, i32_w]
        rfl
      refine pure_ (i := 6) (N := some 58) (v := ?_) (a' := ?_) #[true, true, true, false, true, true, true, false, false, false, false] rfl rfl (by kernel_rfl) (fun _ _ _ h => h) (Or.inl ⟨by rfl, ?_⟩) ?_ ?_
      rotate_left
      · intro w'
        go_simp
        with_reducible rfl
      rotate_left
      · simp only [Act.put, List.setIfInBounds_toArray, List.set_cons_zero, List.set_cons_succ, i64_w, i32_w]
        rfl
      refine pure_ (i := 7) (N := some 59) (v := ?_) (a' := ?_) #[true, true, true, false, true, true, true, true, false, false, false] rfl rfl (by kernel_rfl) (fun _ _ _ h => h) (Or.inl ⟨by rfl, ?_⟩) ?_ ?_
      rotate_left
      · intro w'
        go_simp
        with_reducible rfl
      rotate_left
      · simp only [Act.put, List.setIfInBounds_toArray, List.set_cons_zero, List.set_cons_succ, i64_w, i32_w]
        rfl
      refine pure_ (i := 8) (N := some 2) (v := ?_) (a' := ?_) #[true, true, true, false, true, true, true, true, true, false, false] rfl rfl (by kernel_rfl) (fun _ _ _ h => h) (Or.inl ⟨by rfl, ?_⟩) ?_ ?_
      rotate_left
      · intro w'
        go_simp
        with_reducible rfl
      rotate_left
      · simp only [Act.put, List.setIfInBounds_toArray, List.set_cons_zero, List.set_cons_succ, i64_w, i32_w]
        rfl
      refine take_ (i := 3) (N := some 55) (v := ?_) (a' := ?_) #[true, true, true, true, true, true, true, true, true, false, false] rfl rfl (by kernel_rfl) (fun _ _ _ h => h) (Or.inl ⟨by rfl, ?_⟩) hHeld ?_ ?_
      rotate_left
      · intro w' _
        refine (exec_index2 rfl (IK.out _)).trans ?_
        with_reducible rfl
      rotate_left
      · simp only [Act.put, List.setIfInBounds_toArray, List.set_cons_zero, List.set_cons_succ, i64_w, i32_w]
        rfl
      refine pure_ (i := 9) (N := some 3) (v := ?_) (a' := ?_) #[true, true, true, true, true, true, true, true, true, true, false] rfl rfl (by kernel_rfl) (fun _ _ _ h => h) (Or.inl ⟨by rfl, ?_⟩) ?_ ?_
      rotate_left
      · intro w'
        go_simp
        with_reducible rfl
      rotate_left
      · simp only [Act.put, List.setIfInBounds_toArray, List.set_cons_zero, List.set_cons_succ, i64_w, i32_w]
        rfl
      refine pure_ (i := 10) (N := some 4) (v := ?_) (a' := ?_) #[true, true, true, true, true, true, true, true, true, true, true] rfl rfl (by kernel_rfl) (fun _ _ _ h => h) (Or.inl ⟨by rfl, ?_⟩) ?_ ?_
      rotate_left
      · intro w'
        go_simp
        with_reducible rfl
      rotate_left
      · simp only [Act.put, List.setIfInBounds_toArray, List.set_cons_zero, List.set_cons_succ, i64_w, i32_w]
        rfl
      refine done_ (by kernel_rfl) ?_

      go_wp2
      go_ret3
      rw [E.out]
      exact ⟨_, rfl, (EX.out _ rfl).1, (EX.out _ rfl).2, HB.out.drew⟩
end Go.Proofs.YtdfkbiffdcfnpaaGreatDoor.H
