import Derived.Test.YtojfdekiponccaaGreatDoorHShelf
import Derived.WalkSmall
import Derived.Sort.Grow
/- What a call asks of the package-level tables that it reads: 'Tabs w'. -/
namespace Go.Proofs.YtojfdekiponccaaGreatDoor.H
open Go.RowKit Go.Sort
set_option linter.unusedVariables false
structure Tabs (w : World) : Prop where
  pow : Lib.TabIs Tryz.prog w "internal/strconv.uint64pow10" .u64 Lib.pow10Tab
theorem tabs_glob : Tryz.prog.globalNamed "internal/strconv.uint64pow10" = some 6 := by kernel_rfl
theorem Tabs.below {w w' : World} (h : Tabs w) (hb : Below w.heap.size w w') : Tabs w' := by
  have hlt : 6 < w.heap.size := World.block_lt_of_cell? w _ (h.pow.cell tabs_glob 0 (by decide))
  exact ⟨var?_below hb tabs_glob hlt h.pow⟩
theorem below_grow (w : World) (k : Nat) (os : Array Obj) : Below w.heap.size w (grow (w.drewN k) os) :=
  ⟨rfl, rfl, rfl, by show w.heap.size ≤ (w.heap ++ os).size; simp, fun j hj => by show (w.heap ++ os)[j]? = w.heap[j]?; rw [Array.getElem?_append_left hj]⟩
theorem itoa_calls (n : Int) (h0 : -9223372036854775808 ≤ n) (h1 : n ≤ 9223372036854775807) (w : World) (hT : Tabs w) :
    Calls Tryz.prog 78 #[.int .i64 n] w fun e w' => e = .returned (.string ⟨(Lib.itoa n).toArray⟩) ∧ Below w.heap.size w w' :=
  (Tryz.strconv_Itoa n h0 h1 w hT.pow).mono fun e w' ⟨he, k, os, hw⟩ => ⟨he, hw ▸ below_grow w k os⟩
/-- The decimal digits of u, by so many steps (what the kernel can reckon). -/
def digS : Nat → Nat → List UInt8
  | 0, _ => []
  | f + 1, u => if u < 10 then [UInt8.ofNat (48 + u)] else digS f (u / 10) ++ [UInt8.ofNat (48 + u % 10)]
theorem digS_eq : ∀ (f u : Nat), u < 10 ^ f → 0 < f → digS f u = Lib.decDigits u
  | 0, _, _, h => by omega
  | f + 1, u, h, _ => by
    rw [Lib.decDigits]
    unfold digS
    by_cases hu : u < 10
    · rw [if_pos hu, dif_pos hu]
    · rw [if_neg hu, dif_neg hu]
      have hf : 0 < f := by
        rcases Nat.eq_zero_or_pos f with rfl | h1
        · omega
        · exact h1
      rw [digS_eq f (u / 10) (by rw [Nat.pow_succ] at h; omega) hf]
def itoaS (n : Int) : List UInt8 := digS 20 n.toNat
theorem itoaS_eq (n : Int) (h0 : 0 ≤ n) (h1 : n ≤ 9223372036854775807) : Lib.itoa n = itoaS n := by
  unfold Lib.itoa itoaS
  have e : (10 : Nat) ^ 20 = 100000000000000000000 := by decide
  have hlt : n.toNat < 10 ^ 20 := by rw [e]; omega
  rw [if_neg (by omega), digS_eq 20 _ hlt (by decide)]
theorem itoaS_calls (n : Int) (h0 : 0 ≤ n) (h1 : n ≤ 2147483647) (w : World) (hT : Tabs w) :
    Calls Tryz.prog 78 #[.int .i64 n] w fun e w' => e = .returned (.string ⟨(itoaS n).toArray⟩) ∧ Below w.heap.size w w' := by
  rw [← itoaS_eq n h0 (by omega)]
  exact itoa_calls n (by omega) (by omega) w hT
end Go.Proofs.YtojfdekiponccaaGreatDoor.H
