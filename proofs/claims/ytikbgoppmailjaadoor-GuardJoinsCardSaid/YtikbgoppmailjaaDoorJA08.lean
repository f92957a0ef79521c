/- Parts of the proof of LawGuardJoins: words, contracts of the functions, plain laws. -/
import Derived.Test.YtikbgoppmailjaaDoorJA03
import Derived.Test.YtikbgoppmailjaaDoorJA04
import Derived.Test.YtikbgoppmailjaaDoorJA05
import Derived.KernelRfl
import Derived.Test.YtikbgoppmailjaaDoorJA07
import Derived.Test.YtikbgoppmailjaaDoorRows
import Derived.Test.YtikbgoppmailjaaDoorJA02
import Derived.LaidMore
import Derived.Lay
import Derived.Stop.LaidErr
import Derived.Stop.Joined
import Derived.MakeChecks
import Derived.Lib.LaidTab
/- What guard.Parse says of a text. -/
namespace Go.Proofs.YtikbgoppmailjaaDoor.Pure
open Go.RowKit Go.Proofs.YtikbgoppmailjaaDoor.H Go.Proofs.YtikbgoppmailjaaDoorW.PrintWords Go.Proofs.YtikbgoppmailjaaDoorW.PrintLast Go.Proofs.YtikbgoppmailjaaDoorW.PrintMore
set_option linter.unusedVariables false
set_option linter.unusedSimpArgs false
theorem gx_size {l : List UInt8} {o : List S33} (h : Gx l o) : o.length ≤ l.length := by
  obtain ⟨x, hx, k, hk⟩ := h
  obtain ⟨k2, r, h1, h2⟩ := PF_total _ x.length 0 (x, []) rfl (by omega) rfl trivial
  have e1 := PF_mono (Nat.le_max_left k k2) hk
  have e2 := PF_mono (Nat.le_max_right k k2) h1
  rw [e1] at e2
  obtain rfl := Option.some.inj e2
  have := (h2 _ rfl).2
  have hl := hx.len
  simp only [List.length_nil] at this
  omega
theorem parse_gx {s : ByteArray} {o : List S33} (hs : s.size ≤ 60) (h : Gx s.data.toList o) : ∃ K, ∀ k, K ≤ k → guard_Parse.f k s = some (o, 0) := by
  obtain ⟨x, hx, k, hk⟩ := h
  refine ⟨k, fun k' hk' => ?_⟩
  unfold guard_Parse.f
  rw [lex_list, if_neg (by omega)]
  have e : lexF s.data.toList [] = some (x, 0) := hx
  rw [e]
  simp only [Option.bind_some, if_true]
  rw [PF_mono hk' hk]
  rfl
/-- Signs that the reader gives up at, or of which some are left. -/
def Ungood (x : List S33) : Prop := ∃ k r, PF k 0 (x, []) = some r ∧ ∀ o, r ≠ some ([], o)
theorem parse_bad {s : ByteArray} {x : List S33} (hs : s.size ≤ 60) (hx : Lx s.data.toList x) (h : Ungood x) : ∃ K, ∀ k, K ≤ k → guard_Parse.f k s = some ([], 2) := by
  obtain ⟨k, r, hk, hr⟩ := h
  refine ⟨k, fun k' hk' => ?_⟩
  unfold guard_Parse.f
  rw [lex_list, if_neg (by omega)]
  have e : lexF s.data.toList [] = some (x, 0) := hx
  rw [e]
  simp only [Option.bind_some, if_true]
  rw [PF_mono hk' hk]
  cases r with
  | none => rfl
  | some st =>
    obtain ⟨l, o⟩ := st
    cases l with
    | nil => exact absurd rfl (hr o)
    | cons a l => rfl
/-- Of any text: a guard, and how it lies behind; or an error. -/
theorem parse_any (s : ByteArray) : (s.size ≤ 60 ∧ ∃ o, Gx s.data.toList o ∧ o.length ≤ 60 ∧ ∃ K, ∀ k, K ≤ k → guard_Parse.f k s = some (o, 0)) ∨ (∃ e : Int, e ≠ 0 ∧ ∃ K, ∀ k, K ≤ k → guard_Parse.f k s = some ([], e)) := by
  by_cases hs : s.size ≤ 60
  · obtain ⟨y, e, hl⟩ := lexF_some _ s.data.toList [] (Nat.le_refl _)
    by_cases he : e = 0
    · subst he
      obtain ⟨k, r, h1, h2⟩ := PF_total _ y.length 0 (y, []) rfl (by omega) rfl trivial
      by_cases hg : ∃ o, r = some ([], o)
      · obtain ⟨o, rfl⟩ := hg
        have hgx : Gx s.data.toList o := ⟨y, hl, k, h1⟩
        have hlen := gx_size hgx
        have hdl : s.data.toList.length = s.size := by rw [Array.length_toList]; rfl
        exact .inl ⟨hs, o, hgx, by omega, parse_gx hs hgx⟩
      · exact .inr ⟨2, by decide, parse_bad hs hl ⟨k, r, h1, fun o q => hg ⟨o, q⟩⟩⟩
    · refine .inr ⟨e, he, 0, fun k _ => ?_⟩
      unfold guard_Parse.f
      rw [lex_list, if_neg (by omega), hl]
      simp only [Option.bind_some]
      rw [if_neg he]
  · refine .inr ⟨15, by decide, 0, fun k _ => ?_⟩
    unfold guard_Parse.f
    rw [lex_list, if_pos (by omega)]
    rfl
theorem gx_open_any {l m : List UInt8} {o u : List S33} (h : Gx l o) (h2 : Gx m u) : Gx (l ++ [32, 124, 32, 40, 32] ++ m ++ [32, 41]) (o ++ u ++ [⟨13, 0⟩]) := by
  obtain ⟨x, hx, hg⟩ := h
  obtain ⟨y, hy, hg2⟩ := h2
  have := ((hx.app lx_any_open).app hy).app lx_shut
  exact ⟨_, by simpa using this, by have q := guard_open_any hg hg2 0 0 0; simpa using q⟩
end Go.Proofs.YtikbgoppmailjaaDoor.Pure
/- Two rows of signs that are one; the loop's fuel. -/
namespace Go.Proofs.YtikbgoppmailjaaDoor.Pure
open Go.RowKit Go.Proofs.YtikbgoppmailjaaDoor.H Go.Proofs.YtikbgoppmailjaaDoorW.PrintWords Go.Proofs.YtikbgoppmailjaaDoorW.PrintLast
set_option linter.unusedVariables false
set_option linter.unusedSimpArgs false
theorem signs_loop (l : List S33) (hl : l.length ≤ 4611686018427387904) : ∀ (d k : Nat) (i : Nat), i + d = l.length → d < k → remontoirkeep_Signs.l0 k l l (i : Int) = some true := by
  intro d
  induction d with
  | zero =>
    intro k i h hk
    obtain ⟨k, rfl⟩ : ∃ m, k = m + 1 := ⟨k - 1, by omega⟩
    simp only [remontoirkeep_Signs.l0]
    rw [if_neg (by omega)]
  | succ d ih =>
    intro k i h hk
    obtain ⟨k, rfl⟩ : ∃ m, k = m + 1 := ⟨k - 1, by omega⟩
    simp only [remontoirkeep_Signs.l0]
    rw [if_pos (by omega), if_pos (by omega), if_pos (by omega), if_neg (by simp)]
    have e : wrap64 ((i : Int) + 1) = ((i + 1 : Nat) : Int) := by unfold wrap64; omega
    rw [e]
    exact ih k (i + 1) (by omega) (by omega)
theorem signs_same (l : List S33) (hl : l.length ≤ 4611686018427387904) (k : Nat) (hk : l.length < k) : remontoirkeep_Signs.f k l l = some true := by
  unfold remontoirkeep_Signs.f
  rw [if_pos rfl]
  exact signs_loop l hl l.length k 0 (by omega) hk
end Go.Proofs.YtikbgoppmailjaaDoor.Pure
/- The examples of chapter 14. -/
namespace Go.Proofs.YtikbgoppmailjaaDoor.Pure
open Go.RowKit Go.Proofs.YtikbgoppmailjaaDoor.H Go.Proofs.YtikbgoppmailjaaDoorW.PrintWords Go.Proofs.YtikbgoppmailjaaDoorW.PrintLast
theorem wakes14_50 : remontoirlaw14_wakes.f 50 = some true := by kernel_rfl
theorem wakes14 (k : Nat) (hk : 50 ≤ k) : remontoirlaw14_wakes.f k = some true := at_rounds (remontoirlaw14_wakes.mono) hk wakes14_50
end Go.Proofs.YtikbgoppmailjaaDoor.Pure
/- GuardJoins: of two texts that are guards, and short enough together: in brackets, with ! ahead, with & or | between, they lie behind as their own signs with that sign behind. -/
namespace Go.Proofs.YtikbgoppmailjaaDoor.Pure
open Go.RowKit Go.Proofs.YtikbgoppmailjaaDoor.H Go.Proofs.YtikbgoppmailjaaDoorW.PrintWords Go.Proofs.YtikbgoppmailjaaDoorW.PrintLast Go.Proofs.YtikbgoppmailjaaDoorW.PrintMore
set_option linter.unusedVariables false
set_option linter.unusedSimpArgs false
theorem with_eq (x y : List S33) (k : Int) (hx : x.length ≤ 60) (hy : y.length ≤ 60) : remontoirlaw14_with.f x y k = some (x ++ (y ++ [(⟨k, 0⟩ : S33)])) := by
  unfold remontoirlaw14_with.f
  simp only [Option.bind_some]
  rw [if_pos (by simp; omega), if_pos (by simp; omega), if_pos (by simp; omega)]
  simp
theorem joins_wakes (k : Nat) (x0 x1 : ByteArray) (x5 x7 : List S33) (hk : 50 ≤ k) : remontoirlaw14_GuardJoins.j0 (k + 1) x0 x1 x5 x7 true = some true := by
  simp only [remontoirlaw14_GuardJoins.j0, if_true]
  rw [wakes14 k hk]
  rfl
set_option maxRecDepth 100000 in
theorem GuardJoins : remontoirlaw14_GuardJoins.Pure := by
  intro a b ha hb
  by_cases hbig : wrap64 (wrap64 ((a.size : Int) + (b.size : Int)) + 14) > 60
  · refine ⟨50, ?_⟩
    unfold remontoirlaw14_GuardJoins.f
    rw [if_pos hbig, wakes14 50 (by omega)]
    rfl
  have hs : a.size + b.size ≤ 46 := by unfold wrap64 at hbig; omega
  rcases parse_any a with ⟨sa, x, gx, lx, K0, p0⟩ | ⟨e, he, K0, p0⟩
  · rcases parse_any b with ⟨sb, y, gy, ly, K1, p1⟩ | ⟨e, he, K1, p1⟩
    · obtain ⟨K2, p2⟩ := parse_gx (s := ((⟨#[40, 32]⟩ : ByteArray) ++ a) ++ (⟨#[32, 41]⟩ : ByteArray)) (by simp only [ByteArray.size_append]; show 2 + a.size + 2 ≤ 60; omega) (by simpa using gx_br gx)
      obtain ⟨K3, p3⟩ := parse_gx (s := ((⟨#[33, 32, 40, 32]⟩ : ByteArray) ++ a) ++ (⟨#[32, 41]⟩ : ByteArray)) (by simp only [ByteArray.size_append]; show 4 + a.size + 2 ≤ 60; omega) (by simpa using gx_not gx)
      obtain ⟨K4, p4⟩ := parse_gx (s := ((((⟨#[40, 32]⟩ : ByteArray) ++ a) ++ (⟨#[32, 41, 32, 38, 32, 40, 32]⟩ : ByteArray)) ++ b) ++ (⟨#[32, 41]⟩ : ByteArray)) (by simp only [ByteArray.size_append]; show 2 + a.size + 7 + b.size + 2 ≤ 60; omega) (by simpa using gx_both gx gy)
      obtain ⟨K5, p5⟩ := parse_gx (s := ((((⟨#[40, 32]⟩ : ByteArray) ++ a) ++ (⟨#[32, 41, 32, 124, 32, 40, 32]⟩ : ByteArray)) ++ b) ++ (⟨#[32, 41]⟩ : ByteArray)) (by simp only [ByteArray.size_append]; show 2 + a.size + 7 + b.size + 2 ≤ 60; omega) (by simpa using gx_any gx gy)
      obtain ⟨K6, p6⟩ := parse_gx (s := ((a ++ (⟨#[32, 124, 32, 40, 32]⟩ : ByteArray)) ++ b) ++ (⟨#[32, 41]⟩ : ByteArray)) (by simp only [ByteArray.size_append]; show a.size + 5 + b.size + 2 ≤ 60; omega) (by simpa using gx_open_any gx gy)
      obtain ⟨K, hK⟩ : ∃ K, K = K0 + K1 + K2 + K3 + K4 + K5 + K6 + 200 := ⟨_, rfl⟩
      refine ⟨K + 3, ?_⟩
      unfold remontoirlaw14_GuardJoins.f
      rw [if_neg hbig, p0 _ (by omega), p1 _ (by omega)]
      simp only [Option.bind_some, if_true]
      have e0 : ((0 : Int) != 0) = false := rfl
      rw [e0]
      simp only [remontoirlaw14_GuardJoins.j0, Bool.false_eq_true, if_false]
      have z2 : (⟨#[40, 32]⟩ : ByteArray).size = 2 := rfl
      have z4 : (⟨#[33, 32, 40, 32]⟩ : ByteArray).size = 4 := rfl
      have z7 : (⟨#[32, 41, 32, 38, 32, 40, 32]⟩ : ByteArray).size = 7 := rfl
      have z8 : (⟨#[32, 41, 32, 124, 32, 40, 32]⟩ : ByteArray).size = 7 := rfl
      have z5 : (⟨#[32, 124, 32, 40, 32]⟩ : ByteArray).size = 5 := rfl
      rw [if_pos (by omega), if_pos (by rw [ByteArray.size_append, z2]; omega), p2 _ (by omega)]
      simp only [Option.bind_some, if_true]
      rw [signs_same x (by omega) _ (by omega)]
      simp only [Option.bind_some, Bool.not_true]
      simp only [remontoirlaw14_GuardJoins.j1, Bool.false_eq_true, if_false]
      rw [if_pos (by omega), if_pos (by rw [ByteArray.size_append, z4]; omega), p3 _ (by omega)]
      simp only [Option.bind_some]
      rw [if_pos (by omega), if_pos (by rw [ByteArray.size_append, z2]; omega), if_pos (by simp only [ByteArray.size_append, z2, z7]; omega), if_pos (by simp only [ByteArray.size_append, z2, z7]; omega), p4 _ (by omega)]
      simp only [Option.bind_some]
      rw [if_pos (by simp only [ByteArray.size_append, z2, z8]; omega), if_pos (by simp only [ByteArray.size_append, z2, z8]; omega), p5 _ (by omega)]
      simp only [Option.bind_some]
      rw [if_pos (by omega), if_pos (by simp only [ByteArray.size_append, z5]; omega), if_pos (by simp only [ByteArray.size_append, z5]; omega), p6 _ (by omega)]
      simp only [Option.bind_some, if_true, e0]
      simp only [remontoirlaw14_GuardJoins.j2, Bool.false_eq_true, if_false, Option.bind_some]
      rw [if_pos (by simp; omega), if_pos (by simp; omega)]
      simp only [List.nil_append]
      rw [signs_same (x ++ [(⟨14, 0⟩ : S33)]) (by simp; omega) _ (by simp; omega)]
      simp only [Option.bind_some, if_true]
      rw [with_eq x y 12 lx ly]
      simp only [Option.bind_some]
      rw [signs_same (x ++ (y ++ [(⟨12, 0⟩ : S33)])) (by simp; omega) _ (by simp; omega)]
      simp only [Option.bind_some, if_true]
      rw [with_eq x y 13 lx ly]
      simp only [Option.bind_some]
      rw [signs_same (x ++ (y ++ [(⟨13, 0⟩ : S33)])) (by simp; omega) _ (by simp; omega)]
      simp only [Option.bind_some, if_true]
      rw [wakes14 _ (by omega)]
      rfl
    · refine ⟨K0 + K1 + 51, ?_⟩
      unfold remontoirlaw14_GuardJoins.f
      rw [if_neg hbig, p0 _ (by omega), p1 _ (by omega)]
      simp only [Option.bind_some, if_true]
      rw [bne_iff_ne.2 he]
      exact joins_wakes (K0 + K1 + 50) a b _ _ (by omega)
  · obtain ⟨y, e2, K1, p1⟩ : ∃ y e2 K1, ∀ k, K1 ≤ k → guard_Parse.f k b = some (y, e2) := by
      rcases parse_any b with ⟨_, y, _, _, K1, p1⟩ | ⟨e2, _, K1, p1⟩
      · exact ⟨y, 0, K1, p1⟩
      · exact ⟨[], e2, K1, p1⟩
    refine ⟨K0 + K1 + 51, ?_⟩
    unfold remontoirlaw14_GuardJoins.f
    rw [if_neg hbig, p0 _ (by omega), p1 _ (by omega)]
    simp only [Option.bind_some]
    rw [if_neg he]
    exact joins_wakes (K0 + K1 + 50) a b _ _ (by omega)
end Go.Proofs.YtikbgoppmailjaaDoor.Pure
/- What the laid variables of a Guard row give: the power table and guard's own error. -/
namespace Go.Proofs.YtikbgoppmailjaaDoor.H
open Go.RowKit
theorem star_eq : "*" ++ "errors.errorString" = "*errors.errorString" := by decide
theorem tabs2_of {W : World} (h : laidMetH Tryd.prog Rows.guardJoinsRow.laid W) : Tabs2 W := by
  rw [MakeChecks.laidMetH_plain _ _ _ (by kernel_rfl)] at h
  have h1 : laidMet Tryd.prog ((_, Lib.tabData .u64 Lib.pow10Tab) :: _) W := laidMet.tail (laidMet.tail h)
  have h2 : laidMet Tryd.prog (("remontoir/guard.wrong", .iface "*errors.errorString" (.ptr (.agg [.lit (.string _)]))) :: _) W := laidMet.tail (laidMet.tail (laidMet.tail (laidMet.tail (laidMet.tail (laidMet.tail h)))))
  have ht : Tabs W := ⟨Lib.tabIs_of_head tabs_glob (by kernel_rfl) (n := 20) (t := 138) (e := 63) (by kernel_rfl) (by kernel_rfl) (by kernel_rfl) (by kernel_rfl) h1⟩
  obtain ⟨a, s, hv, _⟩ := laid_sentinel (g := 0) (ti := 58) (tp := 134) (te := 136) (ts := 9) h2 (by kernel_rfl) (by kernel_rfl) Tryd.underlying58 (by
    intro u hu
    exact typeName_ptr_named (nm := "errors.errorString") (by rw [star_eq]; kernel_rfl) (by kernel_rfl) (by decide) u (by rw [star_eq]; exact hu)) Tryd.underlying134 Tryd.underlying136 rfl rfl (by kernel_rfl) (by kernel_rfl) (by kernel_rfl)
  exact ⟨ht, _, _, World.var?_cell (by kernel_rfl) hv 0⟩
end Go.Proofs.YtikbgoppmailjaaDoor.H
