/- Parts of the proof of LawGuardPrints: words, contracts of the functions, plain laws. -/
import Derived.Test.YtikbgoppmailjaaGreatDoorBA08
import Derived.Test.YtikbgoppmailjaaGreatDoorBA10
import Derived.Test.YtikbgoppmailjaaGreatDoorBA11
import Derived.Test.YtikbgoppmailjaaGreatDoorBA12
import Derived.Test.YtikbgoppmailjaaGreatDoorBA13
import Derived.Test.YtikbgoppmailjaaGreatDoorBA14
import Derived.Test.YtikbgoppmailjaaGreatDoorBA15
import Derived.Test.YtikbgoppmailjaaGreatDoorBA02
import Derived.Test.YtikbgoppmailjaaGreatDoorBA06
import Derived.Test.YtikbgoppmailjaaGreatDoorBA07
import Derived.Test.YtikbgoppmailjaaGreatDoorProg
import Derived.Lib.SlicesCompact
import Derived.Great.Walk
import Derived.Sort.OwnSortedInts
import Derived.Lib.OwnBridge
import Derived.LoopN
import Derived.Test.YtikbgoppmailjaaGreatDoorBA05
import Derived.Test.YtikbgoppmailjaaGreatDoorBA03
import Derived.Test.YtikbgoppmailjaaGreatDoorBA04
/- The document's show, of a whole guard. -/
namespace Go.Proofs.YtikbgoppmailjaaGreatDoor.H
open Go.RowKit Go.HK Go.Lib Go.WideShapes Go.ChangeShapes Go.Proofs.YtikbgoppmailjaaGreatDoorW.PrintWords Go.Proofs.YtikbgoppmailjaaGreatDoorW.PrintLast Go.Proofs.YtikbgoppmailjaaGreatDoorW.PrintMore
set_option linter.unusedVariables false
set_option linter.unusedSimpArgs false
theorem sh_180 {f : Bool} {t : Pure.Tr} (h : Pure.Wf f t) (hl : t.post.length ≤ 60) : t.sh.length ≤ 180 := by
  have := (Pure.sh_len h).1
  omega
theorem kind_num {t : Pure.Tr} (h : Pure.Wf false t) : t.kind ≠ 12 ∧ t.kind ≠ 13 ∧ t.kind ≠ 14 := by
  cases h <;> simp only [Pure.Tr.kind] <;> omega
theorem kind_truth {t : Pure.Tr} (h : Pure.Wf true t) : t.kind ≠ 3 ∧ t.kind ≠ 4 ∧ t.kind ≠ 5 := by
  cases h <;> simp only [Pure.Tr.kind] <;> omega
theorem show_at {f : Bool} {t : Pure.Tr} (h : Pure.Wf f t) (hl : t.post.length ≤ 60) : ShowAt t := by
 have two : ∀ (k : Int) (a b : Pure.Tr), (Pure.Tr.bi k a b).post.length ≤ 60 → a.post.length ≤ 60 ∧ b.post.length ≤ 60 := by
  intro k a b h
  simp only [Pure.Tr.post, List.length_append, List.length_cons, List.length_nil] at h
  omega
 have one : ∀ (k : Int) (a : Pure.Tr), (Pure.Tr.un k a).post.length ≤ 60 → a.post.length ≤ 60 := by
  intro k a h
  simp only [Pure.Tr.post, List.length_append, List.length_cons, List.length_nil] at h
  omega
 induction h with
 | num n _ _ => exact show_leaf 1 n (Or.inl rfl)
 | name n _ _ => exact show_leaf 2 n (Or.inr rfl)
 | @neg a ha ih =>
  have h1 := one _ _ hl
  have ih := ih h1
  have h9 := sh_180 ha h1
  obtain ⟨n1, n2, n3⟩ := kind_num ha
  by_cases c3 : a.kind = 3 ∨ a.kind = 4 ∨ a.kind = 5
  ·exact show_neg_k a h9 c3 ih
  exact show_neg_no a h9 (by omega) (by omega) (by omega) n2 n1 ih
 | @nt a ha ih =>
  have h1 := one _ _ hl
  have ih := ih h1
  have h9 := sh_180 ha h1
  obtain ⟨n1, n2, n3⟩ := kind_truth ha
  by_cases c3 : a.kind = 13 ∨ a.kind = 12
  ·exact show_not_k a h9 c3 ih
  exact show_not_no a h9 (by omega) (by omega) n3 ih
 | @cmp a b k h6 h11 ha hb iha ihb =>
  obtain ⟨l1, l2⟩ := two _ _ _ hl
  exact show_cmp k a b (sh_180 ha l1) (sh_180 hb l2) (Pure.tree_post hb) h6 h11 (iha l1) (ihb l2)
 | @op a b k h3 h5 ha hb iha ihb =>
  obtain ⟨l1, l2⟩ := two _ _ _ hl
  have ia := iha l1
  have ib := ihb l2
  have a9 := sh_180 ha l1
  have b9 := sh_180 hb l2
  have pb := Pure.tree_post hb
  have hk : k = 3 ∨ k = 4 ∨ k = 5 := by omega
  rcases hk with rfl | rfl | rfl
  ·by_cases c3 : b.kind = 3 ∨ b.kind = 4
   ·exact show_sum3_b a b a9 b9 pb c3 ia ib
   exact show_sum3_n a b a9 b9 pb (by omega) (by omega) ia ib
  ·by_cases c3 : b.kind = 3 ∨ b.kind = 4
   ·exact show_sum4_b a b a9 b9 pb c3 ia ib
   exact show_sum4_n a b a9 b9 pb (by omega) (by omega) ia ib
  ·by_cases d3 : a.kind = 3 ∨ a.kind = 4
   ·by_cases c3 : b.kind = 3 ∨ b.kind = 4 ∨ b.kind = 5
    ·rcases d3 with d3 | d3
     ·exact show_mul3_b a b a9 b9 pb d3 c3 ia ib
     ·exact show_mul4_b a b a9 b9 pb d3 c3 ia ib
    rcases d3 with d3 | d3
    ·exact show_mul3_n a b a9 b9 pb d3 (by omega) (by omega) (by omega) ia ib
    ·exact show_mul4_n a b a9 b9 pb d3 (by omega) (by omega) (by omega) ia ib
   by_cases c3 : b.kind = 3 ∨ b.kind = 4 ∨ b.kind = 5
   ·exact show_muln_b a b a9 b9 pb (by omega) (by omega) c3 ia ib
   exact show_muln_n a b a9 b9 pb (by omega) (by omega) (by omega) (by omega) (by omega) ia ib
 | @con a b k hk ha hb iha ihb =>
  obtain ⟨l1, l2⟩ := two _ _ _ hl
  have ia := iha l1
  have ib := ihb l2
  have a9 := sh_180 ha l1
  have b9 := sh_180 hb l2
  have pb := Pure.tree_post hb
  rcases hk with rfl | rfl
  ·by_cases d : a.kind = 13
   ·by_cases c3 : b.kind = 13 ∨ b.kind = 12
    ·exact show_botho_b a b a9 b9 pb d c3 ia ib
    exact show_botho_n a b a9 b9 pb d (by omega) (by omega) ia ib
   by_cases c3 : b.kind = 13 ∨ b.kind = 12
   ·exact show_bothn_b a b a9 b9 pb d c3 ia ib
   exact show_bothn_n a b a9 b9 pb d (by omega) (by omega) ia ib
  ·by_cases c3 : b.kind = 13
   ·exact show_any13 a b a9 b9 pb c3 ia ib
   exact show_any a b a9 b9 pb c3 ia ib
theorem show_whole {w : World} {A0 : Option Addr} {c0 : Nat} {l0 : List S39} {a1 : Int} (hr0 : Kd.C k39 w A0 l0.length l0) (hc0 : l0.length ≤ c0) (hl : l0.length ≤ 60) (hg : Pure.goS l0 [] = true) (ha : a1 = (l0.length : Int) - 1) :
    Calls Tryz.prog 25 #[.slice A0 l0.length c0, .int .i64 a1] w fun e w' => ∃ v, e = .returned v ∧ RowS w' w.heap.size v (Pure.shOf l0) ∧ Below w.heap.size w w' := by
  obtain ⟨t, e1, wt, e3⟩ := Pure.tree_whole hg
  rw [Pure.shOf_tree e1]
  obtain ⟨q, n, eq⟩ := post_last t
  have h1 : 1 ≤ l0.length := by rw [← e3, eq]; simp
  have ea : a1 = ((l0.length - 1 : Nat) : Int) := by omega
  rw [ea]
  exact show_at wt (by rw [e3]; exact hl) l0 [] [] A0 c0 (l0.length - 1) w (by simp [e3]) hl (by rw [e3]; simp; omega) hr0 hc0
end Go.Proofs.YtikbgoppmailjaaGreatDoor.H
-- Written by hp.py (a program of this session, over the kit's print.py), with hand-made contracts beside it.
namespace Go.Proofs.YtikbgoppmailjaaGreatDoor.H
open Go.RowKit Go.Proofs.YtikbgoppmailjaaGreatDoorW.PrintWords Go.Proofs.YtikbgoppmailjaaGreatDoorW.PrintLast Go.Proofs.YtikbgoppmailjaaGreatDoorW.PrintMore
attribute [local go_sem] max2_int min2_int max_two min_two max_three min_three max_four min_four   -- for this text's walks alone
set_option linter.unusedVariables false
set_option linter.unusedSimpArgs false

-- HANDMADE remontoir/remontoirref14.show
/-! ### remontoirref14_show: function 25 -/
def remontoirref14_show.f (l0 : List S39) (a1 : Int) : Option (List S39) := if l0.length ≤ 60 ∧ Pure.goS l0 [] = true ∧ a1 = (l0.length : Int) - 1 then some (Pure.shOf l0) else none
theorem remontoirref14_show.calls (A0 : Option Addr) (c0 : Nat) (l0 : List S39) (a1 : Int) (r : List S39) (w : World) (hr0 : Kd.C k39 w A0 l0.length l0) (hc0 : l0.length ≤ c0) (h : remontoirref14_show.f l0 a1 = some r) :
    Calls Tryz.prog 25 #[.slice A0 l0.length c0, .int .i64 a1] w fun e w' => ∃ v0_ : Value, e = .returned (v0_) ∧ Kd.R k39 39 w' w.heap.size (fun _ => True) v0_ r ∧ Below w.heap.size w w' := by
  unfold remontoirref14_show.f at h
  by_cases hl : l0.length ≤ 60 ∧ Pure.goS l0 [] = true ∧ a1 = (l0.length : Int) - 1
  · rw [if_pos hl] at h
    obtain rfl := Option.some.inj h
    obtain ⟨h1, h2, h3⟩ := hl
    refine (show_whole hr0 hc0 h1 h2 h3).mono ?_
    rintro e w' ⟨v, rfl, h1, h2⟩
    exact ⟨v, rfl, h1.kd, h2⟩
  · rw [if_neg hl] at h
    cases h


end Go.Proofs.YtikbgoppmailjaaGreatDoor.H
-- Written by hp.py (a program of this session, over the kit's print.py), with hand-made contracts beside it.
namespace Go.Proofs.YtikbgoppmailjaaGreatDoor.H
open Go.RowKit Go.Proofs.YtikbgoppmailjaaGreatDoorW.PrintWords Go.Proofs.YtikbgoppmailjaaGreatDoorW.PrintLast Go.Proofs.YtikbgoppmailjaaGreatDoorW.PrintMore
attribute [local go_sem] max2_int min2_int max_two min_two max_three min_three max_four min_four   -- for this text's walks alone
set_option linter.unusedVariables false
set_option linter.unusedSimpArgs false

/-! ### remontoirref14_Print: function 10 -/
def remontoirref14_Print.f (k : Nat) (l0 : List (S39)) : Option (ByteArray × Bool) := (remontoirref14_Good.f k l0).bind fun t234 => (if t234 = true then ((remontoirref14_show.f l0 (wrap64 ((l0.length : Int) - 1))).bind fun t235 => ((remontoirref13_Print.f k t235).bind fun bt238 => (some (bt238.1, bt238.2)))) else (some ((⟨#[]⟩ : ByteArray), false)))
theorem remontoirref14_Print.mono : ∀ a0 k, LeO (remontoirref14_Print.f k a0) (remontoirref14_Print.f (k + 1) a0) := by
  intro a0 k
  unfold remontoirref14_Print.f
  repeat' first
      | (with_reducible exact remontoirref13_Print.mono _ _)
      | (with_reducible exact remontoirref14_Good.mono _ _)
      | (with_reducible exact LeO.refl _)
      | (with_reducible exact LeO.none _)
      | (with_reducible refine LeO.ite ?_ ?_)
      | (with_reducible refine LeO.bind ?_ (fun _ => ?_))
      | exact remontoirref13_Print.mono _ _
      | exact remontoirref14_Good.mono _ _
      | exact LeO.none _
      | refine LeO.ite ?_ ?_
      | refine LeO.bind ?_ (fun _ => ?_)
set_option maxHeartbeats 8000000 in
set_option maxRecDepth 100000 in
theorem remontoirref14_Print.calls (k : Nat) (A0 : Option Addr) (c0 : Nat) (l0 : List (S39)) (r1 : ByteArray) (r2 : Bool) (w : World) (hr0 : Kd.C k39 w A0 l0.length l0) (hc0 : l0.length ≤ c0) (h : remontoirref14_Print.f k l0 = some (r1, r2)) :
  Calls Tryz.prog 10 #[.slice A0 l0.length c0] w fun e w' => e = .returned (.agg #[.string r1, .bool r2]) ∧ Below w.heap.size w w' := by
 have hu32 := Tryz.underlying32
 have HR0 := Aside0.mk hr0
 have HC0 := Aside0.mk hc0
 clear hr0 hc0
 have HB := Aside0.mk (Below.refl w.heap.size w)
 have H : ((remontoirref14_Good.f k l0).bind fun t234 => (if t234 = true then ((remontoirref14_show.f l0 (wrap64 ((l0.length : Int) - 1))).bind fun t235 => ((remontoirref13_Print.f k t235).bind fun bt238 => (some (bt238.1, bt238.2)))) else (some ((⟨#[]⟩ : ByteArray), false)))) = some (r1, r2) := h
 clear h
 replace H := Option.bind_eq_some_iff.mp H
 obtain ⟨t234, A20, H⟩ := H
 replace H : (if t234 = true then ((remontoirref14_show.f l0 (wrap64 ((l0.length : Int) - 1))).bind fun t235 => ((remontoirref13_Print.f k t235).bind fun bt238 => (some (bt238.1, bt238.2)))) else (some ((⟨#[]⟩ : ByteArray), false))) = some (r1, r2) := H
 have A2 := Aside0.mk A20
 clear A20
 by_cases c3 : t234 = true
 ·subst c3
  have H1 : ((remontoirref14_show.f l0 (wrap64 ((l0.length : Int) - 1))).bind fun t235 => ((remontoirref13_Print.f k t235).bind fun bt238 => (some (bt238.1, bt238.2)))) = some (r1, r2) := by rw [if_pos rfl] at H; exact H
  clear H
  have H := H1
  clear H1
  replace H := Option.bind_eq_some_iff.mp H
  obtain ⟨t235, A40, H⟩ := H
  replace H : ((remontoirref13_Print.f k t235).bind fun bt238 => (some (bt238.1, bt238.2))) = some (r1, r2) := H
  have A4 := Aside0.mk A40
  clear A40
  replace H := Option.bind_eq_some_iff.mp H
  obtain ⟨⟨t238, t239⟩, A50, H⟩ := H
  replace H : (some (t238, t239)) = some (r1, r2) := H
  have A5 := Aside0.mk A50
  clear A50
  simp only [Option.some.injEq, Prod.mk.injEq] at H
  obtain ⟨rfl, rfl⟩ := H
  go_enter Tryz.func10, Tryz.ntmps10
  go_wp2_with (first | ((with_reducible refine gate_dst (N := 2) rfl ?_); refine box_event ?hg (N := 2) ?hd (cs := #[.string (⟨#[]⟩ : ByteArray), .bool false]) (t := 32) ?hr ?_; (case hd => rfl); (case hg => rfl); (case hr => first | (go_simp; done) | (go_simp; rfl)); intro gb233 hg w6 hbox hb; have n0_ := Aside0.mk (bsp (by repeat (first | (with_reducible first | exact HB.out | apply bal | apply pbN | apply bd1) | exact HB.out)) hb); have n1_ := Aside0.mk (hbox); have n2_ := Aside0.mk ((by rw [hg]; exact (bsz (by repeat (first | (with_reducible first | exact HB.out | apply bal | apply pbN | apply bd1) | exact HB.out))) : w.heap.size ≤ gb233)); have n3_ := Aside0.mk ((by rw [hg]; exact (bsz (by repeat (first | (with_reducible first | exact HB.out | apply bal | apply pbN | apply bd1) | exact HB.out))) : w.heap.size ≤ gb233)); clear HB; have HB := n0_; have BK233 := n1_; have GW233 := n2_; have GE233 := n3_; clear n0_ n1_ n2_ n3_; clear hb hbox hg) | ((with_reducible refine gate_callee (f := 12) rfl ?_); refine goesL_ (some 4) rfl rfl Tryz.func12 (by kernel_rfl) rfl #[.slice A0 l0.length c0] rfl (by (try simp only [List.map_toArray, List.map_cons, List.map_nil]); first | done | rfl | (simp only [List.length_drop, List.length_take]; rfl)) ?_; (with_reducible refine (remontoirref14_Good.calls k _ _ l0 true _ ?side1 ?side2 A2.out).mono ?_); (case side1 => repeat (first | exact (Kd.C_below HR0.out HB.out) | (with_reducible refine Kd.C_alloc ?_ _) | (with_reducible refine Kd.C_drewN ?_ _) | (with_reducible refine Kd.C_drew ?_))); (case side2 => exact HC0.out); rintro e w7 ⟨rfl, hb⟩; refine ⟨_, rfl, ?_⟩; have n0_ := Aside0.mk (bbe (g := gb233) (o := .cells #[.string (⟨#[]⟩ : ByteArray), .bool false] 32 (0, 0)) (by (with_reducible repeat (first | refine bkn ?_ _ | refine bkd ?_ | refine bka ?_ _)); exact BK233.out) hb); have n1_ := Aside0.mk (bsp (by repeat (first | (with_reducible first | exact HB.out | apply bal | apply pbN | apply bd1 | refine bst ?_ GE233.out) | exact HB.out)) hb); clear BK233; clear HB; have BK233 := n0_; have HB := n1_; clear n0_ n1_; (try clear hb); (try clear hb2); (try clear hk); (try clear hi)) | ((with_reducible refine gate_callee (f := 25) rfl ?_); refine goesL_ (some 11) rfl rfl Tryz.func25 (by kernel_rfl) rfl #[.slice A0 l0.length c0, .int .i64 (wrap64 ((l0.length : Int) - 1))] rfl (by (try simp only [List.map_toArray, List.map_cons, List.map_nil]); first | done | rfl | (simp only [List.length_drop, List.length_take]; rfl)) ?_; (with_reducible refine (remontoirref14_show.calls _ _ l0 (wrap64 ((l0.length : Int) - 1)) t235 _ ?side1 ?side2 A4.out).mono ?_); (case side1 => repeat (first | exact (Kd.C_below HR0.out HB.out) | (with_reducible refine Kd.C_alloc ?_ _) | (with_reducible refine Kd.C_drewN ?_ _) | (with_reducible refine Kd.C_drew ?_))); (case side2 => exact HC0.out); rintro e w8 ⟨v236, rfl, ho0, hb⟩; refine ⟨_, rfl, ?_⟩; have n0_ := Aside0.mk (Kd.R_lower ho0 (bsz (by repeat (first | (with_reducible first | exact HB.out | apply bal | apply pbN | apply bd1 | refine bst ?_ GE233.out) | exact HB.out)))); have n1_ := Aside0.mk (bbe (g := gb233) (o := .cells #[.string (⟨#[]⟩ : ByteArray), .bool false] 32 (0, 0)) (by (with_reducible repeat (first | refine bkn ?_ _ | refine bkd ?_ | refine bka ?_ _)); exact BK233.out) hb); have n2_ := Aside0.mk (bsp (by repeat (first | (with_reducible first | exact HB.out | apply bal | apply pbN | apply bd1 | refine bst ?_ GE233.out) | exact HB.out)) hb); clear BK233; clear HB; have HO237 := n0_; have BK233 := n1_; have HB := n2_; clear n0_ n1_ n2_; (try clear hb); (try clear hb2); (try clear hk); (try clear hi); (try clear ho0); obtain ⟨Ao9, co9, eo9⟩ := Kd.R_slice HO237.out; subst eo9) | ((with_reducible refine gate_callee (f := 24) rfl ?_); refine goesL_ (some 12) rfl rfl Tryz.func24 (by kernel_rfl) rfl #[.slice Ao9 t235.length co9] rfl (by (try simp only [List.map_toArray, List.map_cons, List.map_nil]); first | done | rfl | (simp only [List.length_drop, List.length_take]; rfl)) ?_; (with_reducible refine (remontoirref13_Print.calls k _ _ t235 t238 t239 _ ?side1 ?side2 A5.out).mono ?_); (case side1 => repeat (first | exact (Kd.R_reads' HO237.out).2.2 | (with_reducible refine Kd.C_alloc ?_ _) | (with_reducible refine Kd.C_drewN ?_ _) | (with_reducible refine Kd.C_drew ?_))); (case side2 => exact (Kd.R_reads' HO237.out).2.1); rintro e w10 ⟨rfl, hb⟩; refine ⟨_, rfl, ?_⟩; have n0_ := Aside0.mk (Kd.R_below (by (with_reducible repeat (first | apply Kd.R_alloc | apply Kd.R_drewN | apply Kd.R_drew)); exact HO237.out) hb); have n1_ := Aside0.mk (bbe (g := gb233) (o := .cells #[.string (⟨#[]⟩ : ByteArray), .bool false] 32 (0, 0)) (by (with_reducible repeat (first | refine bkn ?_ _ | refine bkd ?_ | refine bka ?_ _)); exact BK233.out) hb); have n2_ := Aside0.mk (bsp (by repeat (first | (with_reducible first | exact HB.out | apply bal | apply pbN | apply bd1 | refine bst ?_ GE233.out) | exact HB.out)) hb); clear HO237; clear BK233; clear HB; have HO237 := n0_; have BK233 := n1_; have HB := n2_; clear n0_ n1_ n2_; (try clear hb); (try clear hb2); (try clear hk); (try clear hi); have hcz11_0 : w10.cell? ⟨gb233, 0, none⟩ = some (.string (⟨#[]⟩ : ByteArray)) := (bce BK233.out 0).trans rfl; have hcz11_1 : w10.cell? ⟨gb233, 1, none⟩ = some (.bool false) := (bce BK233.out 1).trans rfl; have hfz11_0 := bfz BK233.out 0; have hfz11_1 := bfz BK233.out 1))
  refine bodyPost_ret (results_cell_row rfl _ _ gb233 32 #[.string t238, .bool t239] (0, 0) _ rfl (by (with_reducible repeat (first | refine bkn ?_ _ | refine bkd ?_ | refine bka ?_ _)); refine blk_put (cs := #[.string t238, .bool false]) ?_ 1 _ rfl; (with_reducible repeat (first | refine bkn ?_ _ | refine bkd ?_ | refine bka ?_ _)); refine blk_put (cs := #[.string (⟨#[]⟩ : ByteArray), .bool false]) ?_ 0 _ rfl; (with_reducible repeat (first | refine bkn ?_ _ | refine bkd ?_ | refine bka ?_ _)); exact BK233.out) Tryz.underlying32 rfl (by kernel_rfl)) rfl ?_
  exact ⟨by first | rfl | (simp [errW_none, errW_some] <;> rfl) | (simp [*, errW_none, errW_some] <;> rfl), by repeat (first | (with_reducible first | exact HB.out | apply bal | apply pbN | apply bd1 | refine bst ?_ GE233.out) | exact HB.out)⟩
 ·replace c3 := Bool.eq_false_iff.mpr c3
  subst c3
  have H1 : (some ((⟨#[]⟩ : ByteArray), false)) = some (r1, r2) := by rw [if_neg (show ¬ (false = true) by decide)] at H; exact H
  clear H
  have H := H1
  clear H1
  simp only [Option.some.injEq, Prod.mk.injEq] at H
  obtain ⟨rfl, rfl⟩ := H
  go_enter Tryz.func10, Tryz.ntmps10
  go_wp2_with (first | ((with_reducible refine gate_dst (N := 2) rfl ?_); refine box_event ?hg (N := 2) ?hd (cs := #[.string (⟨#[]⟩ : ByteArray), .bool false]) (t := 32) ?hr ?_; (case hd => rfl); (case hg => rfl); (case hr => first | (go_simp; done) | (go_simp; rfl)); intro gb233 hg w12 hbox hb; have n0_ := Aside0.mk (bsp (by repeat (first | (with_reducible first | exact HB.out | apply bal | apply pbN | apply bd1) | exact HB.out)) hb); have n1_ := Aside0.mk (hbox); have n2_ := Aside0.mk ((by rw [hg]; exact (bsz (by repeat (first | (with_reducible first | exact HB.out | apply bal | apply pbN | apply bd1) | exact HB.out))) : w.heap.size ≤ gb233)); have n3_ := Aside0.mk ((by rw [hg]; exact (bsz (by repeat (first | (with_reducible first | exact HB.out | apply bal | apply pbN | apply bd1) | exact HB.out))) : w.heap.size ≤ gb233)); clear HB; have HB := n0_; have BK233 := n1_; have GW233 := n2_; have GE233 := n3_; clear n0_ n1_ n2_ n3_; clear hb hbox hg) | ((with_reducible refine gate_callee (f := 12) rfl ?_); refine goesL_ (some 4) rfl rfl Tryz.func12 (by kernel_rfl) rfl #[.slice A0 l0.length c0] rfl (by (try simp only [List.map_toArray, List.map_cons, List.map_nil]); first | done | rfl | (simp only [List.length_drop, List.length_take]; rfl)) ?_; (with_reducible refine (remontoirref14_Good.calls k _ _ l0 false _ ?side1 ?side2 A2.out).mono ?_); (case side1 => repeat (first | exact (Kd.C_below HR0.out HB.out) | (with_reducible refine Kd.C_alloc ?_ _) | (with_reducible refine Kd.C_drewN ?_ _) | (with_reducible refine Kd.C_drew ?_))); (case side2 => exact HC0.out); rintro e w13 ⟨rfl, hb⟩; refine ⟨_, rfl, ?_⟩; have n0_ := Aside0.mk (bbe (g := gb233) (o := .cells #[.string (⟨#[]⟩ : ByteArray), .bool false] 32 (0, 0)) (by (with_reducible repeat (first | refine bkn ?_ _ | refine bkd ?_ | refine bka ?_ _)); exact BK233.out) hb); have n1_ := Aside0.mk (bsp (by repeat (first | (with_reducible first | exact HB.out | apply bal | apply pbN | apply bd1 | refine bst ?_ GE233.out) | exact HB.out)) hb); clear BK233; clear HB; have BK233 := n0_; have HB := n1_; clear n0_ n1_; (try clear hb); (try clear hb2); (try clear hk); (try clear hi); have hcz14_0 : w13.cell? ⟨gb233, 0, none⟩ = some (.string (⟨#[]⟩ : ByteArray)) := (bce BK233.out 0).trans rfl; have hcz14_1 : w13.cell? ⟨gb233, 1, none⟩ = some (.bool false) := (bce BK233.out 1).trans rfl; have hfz14_0 := bfz BK233.out 0; have hfz14_1 := bfz BK233.out 1))
  refine bodyPost_ret (results_cell_row rfl _ _ gb233 32 #[.string (⟨#[]⟩ : ByteArray), .bool false] (0, 0) _ rfl (by (with_reducible repeat (first | refine bkn ?_ _ | refine bkd ?_ | refine bka ?_ _)); refine blk_put (cs := #[.string (⟨#[]⟩ : ByteArray), .bool false]) ?_ 1 _ rfl; (with_reducible repeat (first | refine bkn ?_ _ | refine bkd ?_ | refine bka ?_ _)); refine blk_put (cs := #[.string (⟨#[]⟩ : ByteArray), .bool false]) ?_ 0 _ rfl; (with_reducible repeat (first | refine bkn ?_ _ | refine bkd ?_ | refine bka ?_ _)); exact BK233.out) Tryz.underlying32 rfl (by kernel_rfl)) rfl ?_
  exact ⟨by first | rfl | (simp [errW_none, errW_some] <;> rfl) | (simp [*, errW_none, errW_some] <;> rfl), by repeat (first | (with_reducible first | exact HB.out | apply bal | apply pbN | apply bd1 | refine bst ?_ GE233.out) | exact HB.out)⟩

/-! ### remontoirkeep_Ints: function 13 -/
def remontoirkeep_Ints.l0 : Nat → List Int → List Int → Int → Option (Bool)
  | 0, _, _, _ => none
  | k + 1, x0, x1, x5 => if x5 < (x0.length : Int) then (if 0 ≤ x5 then (if x5 < (x1.length : Int) then (if (rd x0 x5) = (rd x1 x5) then (remontoirkeep_Ints.l0 k x0 x1 (wrap64 (x5 + 1))) else (some false)) else (none)) else (none)) else (some true)
def remontoirkeep_Ints.f (k : Nat) (l0 : List Int) (l1 : List Int) : Option (Bool) := if (l0.length : Int) = (l1.length : Int) then (remontoirkeep_Ints.l0 k l0 l1 0) else (some false)
theorem remontoirkeep_Ints.mono_l : ∀ k, (∀ y0 y1 y2, LeO (remontoirkeep_Ints.l0 k y0 y1 y2) (remontoirkeep_Ints.l0 (k + 1) y0 y1 y2))
  | 0 => fun _ _ _ r h => by simp [remontoirkeep_Ints.l0] at h
  | k + 1 => by
    have ih0 := remontoirkeep_Ints.mono_l k
    · intro y0 y1 y2
      unfold remontoirkeep_Ints.l0
      repeat' first
      | (with_reducible exact ih0 _ _ _)
      | (with_reducible exact LeO.refl _)
      | (with_reducible exact LeO.none _)
      | (with_reducible refine LeO.ite ?_ ?_)
      | (with_reducible refine LeO.bind ?_ (fun _ => ?_))
      | exact ih0 _ _ _
      | exact LeO.none _
      | refine LeO.ite ?_ ?_
      | refine LeO.bind ?_ (fun _ => ?_)
theorem remontoirkeep_Ints.mono : ∀ a0 a1 k, LeO (remontoirkeep_Ints.f k a0 a1) (remontoirkeep_Ints.f (k + 1) a0 a1) := by
  intro a0 a1 k
  have ih0 := remontoirkeep_Ints.mono_l k
  unfold remontoirkeep_Ints.f
  repeat' first
      | (with_reducible exact ih0 _ _ _)
      | (with_reducible exact LeO.refl _)
      | (with_reducible exact LeO.none _)
      | (with_reducible refine LeO.ite ?_ ?_)
      | (with_reducible refine LeO.bind ?_ (fun _ => ?_))
      | exact ih0 _ _ _
      | exact LeO.none _
      | refine LeO.ite ?_ ?_
      | refine LeO.bind ?_ (fun _ => ?_)
set_option maxHeartbeats 8000000 in
set_option maxRecDepth 100000 in
theorem remontoirkeep_Ints.calls (k : Nat) (A0 : Option Addr) (c0 : Nat) (l0 : List Int) (A1 : Option Addr) (c1 : Nat) (l1 : List Int) (r : Bool) (w : World) (hr0 : Kd.C (Kd.int .i64) w A0 l0.length l0) (hc0 : l0.length ≤ c0) (hr1 : Kd.C (Kd.int .i64) w A1 l1.length l1) (hc1 : l1.length ≤ c1) (h : remontoirkeep_Ints.f k l0 l1 = some r) :
  Calls Tryz.prog 13 #[.slice A0 l0.length c0, .slice A1 l1.length c1] w fun e w' => e = .returned (.bool r) ∧ Drawn0 w w' := by
 have HR0 := Aside0.mk hr0
 have HC0 := Aside0.mk hc0
 clear hr0 hc0
 have HR1 := Aside0.mk hr1
 have HC1 := Aside0.mk hc1
 clear hr1 hc1
 have H : (if (l0.length : Int) = (l1.length : Int) then (remontoirkeep_Ints.l0 k l0 l1 0) else (some false)) = some r := h
 clear h
 by_cases c3 : (l0.length : Int) = (l1.length : Int)
 ·rw [if_pos c3] at H
  have c3b0 : ((l0.length : Int) == (l1.length : Int)) = true := beq_iff_eq.mpr c3
  have c3b1 : ((l0.length : Int) != (l1.length : Int)) = false := bne_eq_false_iff_eq.mpr c3
  have c3b2 : (l0.length == l1.length) = true := by first | simpa using c3 | (simp at c3 ⊢; omega)
  clear c3
  have H' := Aside0.mk H
  clear H
  go_enter Tryz.func13, Tryz.ntmps13
  go_wp2
  repeat (go_quiet (fail); try go_wp2)
  go_loopg [5] k (fun kq v5 w' => ∃ (x5_1 : Int), v5 = .int .i64 x5_1 ∧ Aside0 (remontoirkeep_Ints.l0 kq l0 l1 x5_1 = some r) ∧ Aside0 (kq ≤ k) ∧ Drawn0 w w')
  case atStart => exact ⟨(0), (by first | rfl | (simp; done) | (simp [*]; done)), H', ⟨Nat.le_refl _⟩, by repeat (first | exact Drawn0.refl _ | apply Drawn0.step)⟩
  case round =>
   clear H'
   try clear c1
   try clear p2
   try clear c3
   try clear c3b0
   try clear c3b1
   try clear c3b2
   obtain ⟨x5_1, rfl, HA, HK1, ⟨m1, rfl⟩⟩ := hrel
   cases gk with
   | zero => exact absurd HA.out (by simp [remontoirkeep_Ints.l0])
   | succ k1 =>
    have H := HA.out
    clear HA
    simp only [remontoirkeep_Ints.l0] at H
    by_cases c4 : x5_1 < (l0.length : Int)
    ·rw [if_pos c4] at H
     have c4b0 : decide (x5_1 < (l0.length : Int)) = true := decide_eq_true c4
     clear c4
     by_cases c5 : 0 ≤ x5_1
     ·rw [if_pos c5] at H
      have c5b0 : decide (0 ≤ x5_1) = true := decide_eq_true c5
      clear c5
      by_cases c6 : x5_1 < (l1.length : Int)
      ·rw [if_pos c6] at H
       have c6b0 : decide (x5_1 < (l1.length : Int)) = true := decide_eq_true c6
       clear c6
       by_cases c7 : (rd l0 x5_1) = (rd l1 x5_1)
       ·rw [if_pos c7] at H
        have c7b0 : ((rd l0 x5_1) == (rd l1 x5_1)) = true := beq_iff_eq.mpr c7
        have c7b1 : ((rd l0 x5_1) != (rd l1 x5_1)) = false := bne_eq_false_iff_eq.mpr c7
        clear c7
        have H' := Aside0.mk H
        clear H
        have p240 : 0 ≤ (x5_1 : Int) := of_decide_eq_true (by first | (with_reducible assumption) | assumption)
        have q240 : x5_1 < (l0.length : Int) := of_decide_eq_true (by first | (with_reducible assumption) | assumption)
        obtain ⟨ad240, e240, hx240_0⟩ := Kd.at_int HR0.out x5_1 p240 q240
        cases e240
        replace p240 := eq_true p240
        replace q240 := eq_true q240
        have p241 : 0 ≤ (x5_1 : Int) := of_decide_eq_true (by first | (with_reducible assumption) | assumption)
        have q241 : x5_1 < (l1.length : Int) := of_decide_eq_true (by first | (with_reducible assumption) | assumption)
        obtain ⟨ad241, e241, hx241_0⟩ := Kd.at_int HR1.out x5_1 p241 q241
        cases e241
        replace p241 := eq_true p241
        replace q241 := eq_true q241
        go_wp2
        repeat (go_quiet (fail); try go_wp2)
        go_roundg k1
        case measure => have := HK1.out; omega
        case rel => exact ⟨(wrap64 (x5_1 + 1)), (by first | rfl | (simp; done) | (simp [*]; done)), H', ⟨by have := HK1.out; omega⟩, by repeat (first | exact Drawn0.refl _ | apply Drawn0.step)⟩
       ·rw [if_neg c7] at H
        have c7b0 : ((rd l0 x5_1) == (rd l1 x5_1)) = false := beq_eq_false_iff_ne.mpr c7
        have c7b1 : ((rd l0 x5_1) != (rd l1 x5_1)) = true := bne_iff_ne.mpr c7
        obtain rfl := Option.some.inj H
        have p240 : 0 ≤ (x5_1 : Int) := of_decide_eq_true (by first | (with_reducible assumption) | assumption)
        have q240 : x5_1 < (l0.length : Int) := of_decide_eq_true (by first | (with_reducible assumption) | assumption)
        obtain ⟨ad240, e240, hx240_0⟩ := Kd.at_int HR0.out x5_1 p240 q240
        cases e240
        replace p240 := eq_true p240
        replace q240 := eq_true q240
        have p241 : 0 ≤ (x5_1 : Int) := of_decide_eq_true (by first | (with_reducible assumption) | assumption)
        have q241 : x5_1 < (l1.length : Int) := of_decide_eq_true (by first | (with_reducible assumption) | assumption)
        obtain ⟨ad241, e241, hx241_0⟩ := Kd.at_int HR1.out x5_1 p241 q241
        cases e241
        replace p241 := eq_true p241
        replace q241 := eq_true q241
        go_wp2
        repeat (go_quiet (fail); try go_wp2)
        go_ret
        exact ⟨by first | rfl | (simp; done) | (simp [*]; done), by repeat (first | exact Drawn0.refl _ | apply Drawn0.step)⟩
      ·rw [if_neg c6] at H
       exact absurd H (by simp)
     ·rw [if_neg c5] at H
      exact absurd H (by simp)
    ·rw [if_neg c4] at H
     have c4b0 : decide (x5_1 < (l0.length : Int)) = false := decide_eq_false c4
     clear c4
     obtain rfl := Option.some.inj H
     go_wp2
     repeat (go_quiet (fail); try go_wp2)
     go_ret
     exact ⟨by first | rfl | (simp; done) | (simp [*]; done), by repeat (first | exact Drawn0.refl _ | apply Drawn0.step)⟩
 ·rw [if_neg c3] at H
  have c3b0 : ((l0.length : Int) == (l1.length : Int)) = false := beq_eq_false_iff_ne.mpr c3
  have c3b1 : ((l0.length : Int) != (l1.length : Int)) = true := bne_iff_ne.mpr c3
  have c3b2 : (l0.length == l1.length) = false := by first | simpa using c3 | (simp at c3 ⊢; omega)
  obtain rfl := Option.some.inj H
  go_enter Tryz.func13, Tryz.ntmps13
  go_wp2
  repeat (go_quiet (fail); try go_wp2)
  go_ret
  exact ⟨by first | rfl | (simp; done) | (simp [*]; done), by repeat (first | exact Drawn0.refl _ | apply Drawn0.step)⟩

end Go.Proofs.YtikbgoppmailjaaGreatDoor.H
/- Sorted rows without twins: Compact behind Sort; insertion. -/
namespace Go.Proofs.YtikbgoppmailjaaGreatDoor.H
set_option linter.unusedVariables false
set_option linter.unusedSimpArgs false
theorem jb_upto (d : Array Int) (x : Int) : ∀ m, x ∈ Lib.compactUpTo d m ↔ ∃ j, j < m ∧ d[j]! = x
  | 0 => by simp [Lib.compactUpTo]
  | m + 1 => by
    rw [Lib.compactUpTo_succ, List.mem_append, jb_upto d x m]
    by_cases h : Lib.keeps d m = true
    · rw [if_pos h]
      constructor
      · rintro (⟨j, hj, e⟩ | h1)
        · exact ⟨j, by omega, e⟩
        · exact ⟨m, by omega, (List.mem_singleton.1 h1).symm⟩
      · rintro ⟨j, hj, e⟩
        by_cases hm : j = m
        · subst hm
          exact Or.inr (List.mem_singleton.2 e.symm)
        · exact Or.inl ⟨j, by omega, e⟩
    · rw [if_neg h]
      have h2 : m ≠ 0 ∧ d[m]! = d[m - 1]! := by
        unfold Lib.keeps at h
        simp only [decide_eq_true_eq, not_or, Decidable.not_not] at h
        exact h
      constructor
      · rintro (⟨j, hj, e⟩ | h1)
        · exact ⟨j, by omega, e⟩
        · cases h1
      · rintro ⟨j, hj, e⟩
        by_cases hm : j = m
        · subst hm
          exact Or.inl ⟨j - 1, by omega, by rw [← h2.2]; exact e⟩
        · exact Or.inl ⟨j, by omega, e⟩
theorem jb_mem (zs : List Int) (x : Int) : x ∈ Lib.compact zs ↔ x ∈ zs := by
  unfold Lib.compact
  rw [jb_upto]
  constructor
  · rintro ⟨j, hj, e⟩
    have : (zs.toArray)[j]! = zs[j] := by simp [hj]
    rw [this] at e
    rw [← e]
    exact List.getElem_mem hj
  · intro h
    obtain ⟨j, hj, e⟩ := List.mem_iff_getElem.1 h
    exact ⟨j, hj, by rw [← e]; simp [hj]⟩
theorem jb_lt (zs : List Int) (h : zs.Pairwise (· ≤ ·)) : ∀ m, m ≤ zs.length → (Lib.compactUpTo zs.toArray m).Pairwise (· < ·)
  | 0, _ => by simp [Lib.compactUpTo]
  | m + 1, hm => by
    rw [Lib.compactUpTo_succ]
    have ih := jb_lt zs h m (by omega)
    by_cases hk : Lib.keeps zs.toArray m = true
    · rw [if_pos hk, List.pairwise_append]
      refine ⟨ih, List.pairwise_singleton _ _, ?_⟩
      intro x hx y hy
      obtain rfl := List.mem_singleton.1 hy
      obtain ⟨j, hj, rfl⟩ := (jb_upto _ _ _).1 hx
      have hk2 : m = 0 ∨ zs.toArray[m]! ≠ zs.toArray[m - 1]! := by unfold Lib.keeps at hk; simpa using hk
      have hp : ∀ i k, i < k → k < zs.length → zs.toArray[i]! ≤ zs.toArray[k]! := by
        intro i k hik hk'
        have := List.pairwise_iff_getElem.1 h i k (by omega) hk' hik
        simpa [hk', show i < zs.length by omega] using this
      rcases hk2 with rfl | hk2
      · omega
      · have h1 := hp (m - 1) m (by omega) (by omega)
        rcases Nat.lt_or_ge j (m - 1) with q | q
        · have := hp j (m - 1) q (by omega)
          omega
        · obtain rfl : j = m - 1 := by omega
          omega
    · rw [if_neg hk, List.append_nil]; exact ih
/-- The set of some numbers, in order. -/
def jset (zs : List Int) : List Int := Lib.compact (zs.mergeSort fun x y => decide (x ≤ y))
theorem jset_lt (zs : List Int) : (jset zs).Pairwise (· < ·) := by
  unfold jset
  have h : (zs.mergeSort fun x y => decide (x ≤ y)).Pairwise (fun x y => decide (x ≤ y) = true) := List.pairwise_mergeSort (fun a b c h1 h2 => by simp at *; omega) (fun a b => by simp; omega) zs
  exact jb_lt _ (h.imp (fun q => of_decide_eq_true q)) _ (Nat.le_refl _)
theorem jset_mem (zs : List Int) (x : Int) : x ∈ jset zs ↔ x ∈ zs := by
  unfold jset
  rw [jb_mem]
  exact (List.mergeSort_perm zs _).mem_iff
theorem lt_ext : ∀ {a b : List Int}, a.Pairwise (· < ·) → b.Pairwise (· < ·) → (∀ x, x ∈ a ↔ x ∈ b) → a = b
  | [], [], _, _, _ => rfl
  | [], y :: b, _, _, h => absurd ((h y).2 (by simp)) (by simp)
  | x :: a, [], _, _, h => absurd ((h x).1 (by simp)) (by simp)
  | x :: a, y :: b, ha, hb, h => by
    obtain ⟨ha1, ha2⟩ := List.pairwise_cons.1 ha
    obtain ⟨hb1, hb2⟩ := List.pairwise_cons.1 hb
    have e : x = y := by
      rcases List.mem_cons.1 ((h x).1 (by simp)) with e | e
      · exact e
      · rcases List.mem_cons.1 ((h y).2 (by simp)) with q | q
        · exact q.symm
        · have := ha1 y q
          have := hb1 x e
          omega
    subst e
    rw [lt_ext ha2 hb2 (fun z => ?_)]
    constructor
    · intro hz
      rcases List.mem_cons.1 ((h z).1 (by simp [hz])) with rfl | q
      · exact absurd (ha1 z hz) (by omega)
      · exact q
    · intro hz
      rcases List.mem_cons.1 ((h z).2 (by simp [hz])) with rfl | q
      · exact absurd (hb1 z hz) (by omega)
      · exact q
/-- Insertion into a sorted row, if it isn't there. -/
def insJ (x : Int) : List Int → List Int
  | [] => [x]
  | y :: l => if y < x then y :: insJ x l else if y = x then y :: l else x :: y :: l
theorem insJ_mem (x z : Int) : ∀ l : List Int, z ∈ insJ x l ↔ z = x ∨ z ∈ l
  | [] => by simp [insJ]
  | y :: l => by
    unfold insJ
    split
    · rw [List.mem_cons, insJ_mem x z l, List.mem_cons]
      constructor
      · rintro (h | h | h) <;> simp [h]
      · rintro (h | h | h) <;> simp [h]
    · split
      · rename_i e; subst e; simp
      · simp
theorem insJ_lt (x : Int) : ∀ l : List Int, l.Pairwise (· < ·) → (insJ x l).Pairwise (· < ·)
  | [], _ => by simp [insJ]
  | y :: l, h => by
    obtain ⟨h1, h2⟩ := List.pairwise_cons.1 h
    unfold insJ
    split
    · rename_i q
      refine List.pairwise_cons.2 ⟨fun z hz => ?_, insJ_lt x l h2⟩
      rcases (insJ_mem x z l).1 hz with rfl | hz
      · exact q
      · exact h1 z hz
    · split
      · exact h
      · rename_i q1 q2
        refine List.pairwise_cons.2 ⟨fun z hz => ?_, h⟩
        rcases List.mem_cons.1 hz with rfl | hz
        · omega
        · have := h1 z hz; omega
theorem insJ_fold (zs : List Int) : zs.foldl (fun a x => insJ x a) [] = jset zs := by
  have key : ∀ (zs a : List Int), a.Pairwise (· < ·) → (zs.foldl (fun a x => insJ x a) a).Pairwise (· < ·) ∧ ∀ x, x ∈ zs.foldl (fun a x => insJ x a) a ↔ x ∈ a ∨ x ∈ zs := by
    intro zs
    induction zs with
    | nil => intro a h; exact ⟨h, fun x => by simp⟩
    | cons z zs ih =>
      intro a h
      obtain ⟨i1, i2⟩ := ih (insJ z a) (insJ_lt z a h)
      refine ⟨i1, fun x => ?_⟩
      rw [List.foldl_cons, i2, insJ_mem, List.mem_cons]
      constructor
      · rintro ((h | h) | h) <;> simp [h]
      · rintro (h | h | h) <;> simp [h]
  obtain ⟨k1, k2⟩ := key zs [] List.Pairwise.nil
  exact lt_ext k1 (jset_lt zs) (fun x => by rw [k2, jset_mem]; simp)
end Go.Proofs.YtikbgoppmailjaaGreatDoor.H
/- guard.Uses: the names in some signs, each once. -/
namespace Go.Proofs.YtikbgoppmailjaaGreatDoor.H
open Go.RowKit Go.HK Go.Sort Go.Proofs.YtikbgoppmailjaaGreatDoorW.PrintWords Go.Proofs.YtikbgoppmailjaaGreatDoorW.PrintLast Go.Proofs.YtikbgoppmailjaaGreatDoorW.PrintMore
set_option linter.unusedVariables false
set_option linter.unusedSimpArgs false
theorem infoInt : (Tryz.prog.info? 3).map (fun i => (i.zero, i.size, i.bytes)) = some (some (.int .i64 0), 1, 8) := by kernel_rfl
def names : List S39 → List Int
  | [] => []
  | s :: l => if s.f0 = 2 then s.f1 :: names l else names l
theorem names_app : ∀ l m : List S39, names (l ++ m) = names l ++ names m
  | [], m => rfl
  | s :: l, m => by
    simp only [List.cons_append, names]
    split
    · rw [names_app l m, List.cons_append]
    · rw [names_app l m]
theorem names_take (l : List S39) (i : Nat) (h : i < l.length) : names (l.take (i + 1)) = if l[i].f0 = 2 then names (l.take i) ++ [l[i].f1] else names (l.take i) := by
  rw [List.take_succ_eq_append_getElem h, names_app]
  simp only [names]
  split
  · rfl
  · rw [List.append_nil]
theorem names_len : ∀ l : List S39, (names l).length ≤ l.length
  | [] => Nat.le_refl _
  | s :: l => by
    simp only [names]
    have := names_len l
    split <;> simp only [List.length_cons] <;> omega
abbrev KI : Kd Int := Kd.int .i64
theorem compact_len (zs : List Int) : (Lib.compact zs).length ≤ zs.length := by
  unfold Lib.compact Lib.compactUpTo
  rw [List.length_map]
  have := List.length_filter_le (Lib.keeps zs.toArray) (List.range zs.length)
  rw [List.length_range] at this
  exact this
theorem below_growS {B : Nat} {w0 w : World} {os : Array Obj} (h : Below B w0 w) (hB : B ≤ w0.heap.size) : Below B w0 (Sort.grow w os) :=
  ⟨h.os, h.tape, h.output, by have := h.size; simp [Sort.grow]; omega, fun k hk => by rw [← h.block k hk]; have := h.size; exact Sort.heap_grow_old _ _ (by omega)⟩
theorem holds_own {w : World} {b g n cap : Nat} {e : TypeId} {zs : List Int} (h : w.ownsRow b e 1 (.slice (some ⟨g, 0, none⟩) n cap) n (zs.map (Value.int .i64))) : Sort.Holds (Value.int .i64) w g 0 zs.toArray := by
  obtain ⟨g', c', e1, _, _, _, _, _, hH⟩ := Lib.holds_of_ownsRow (enc := Value.int .i64) h (by intro q; cases q)
  injection e1 with e1 _ _
  injection e1 with e1
  injection e1 with e1
  subst e1
  exact hH
theorem own_cut {w : World} {b g cap q m : Nat} {e : TypeId} {zs : List Int} (h : w.ownsRow b e 1 (.slice (some ⟨g, 0, none⟩) m cap) m (zs.map (Value.int .i64))) (hk : (Lib.compact zs).length ≤ m) (hl : zs.length = m) :
    (Sort.putRow (Value.int .i64) (Sort.ahead w q) g 0 (Lib.compact zs ++ List.replicate (m - (Lib.compact zs).length) 0).toArray).ownsRow b e 1 (.slice (some ⟨g, 0, none⟩) (Lib.compact zs).length cap) (Lib.compact zs).length ((Lib.compact zs).map (Value.int .i64)) := by
  have := Lib.ownsRow_putRow (enc := Value.int .i64) (q := q) (k := (Lib.compact zs).length) (ys := Lib.compact zs ++ List.replicate (m - (Lib.compact zs).length) 0) h (by rw [List.length_append, List.length_replicate]; omega) hk
  rw [List.take_left] at this
  exact this
/-- The head of a round. -/
def UI (b : Nat) (l : List S39) (w0 : World) (kq : Nat) (v3 v8 : Value) (wr : World) : Prop :=
  ∃ i : Nat, v8 = .int .i64 i ∧ i ≤ l.length ∧ kq = l.length - i ∧ Below b w0 wr ∧ KI.R 3 wr b (fun _ => True) v3 (names (l.take i))
set_option maxRecDepth 100000 in
set_option maxHeartbeats 4000000 in
theorem uses_jset (A : Option Addr) (c : Nat) (l : List S39) (w : World) (hr : Kd.C k39 w A l.length l) (hc : l.length ≤ c) (hl : l.length ≤ 100000) :
    Calls Tryz.prog 14 #[.slice A l.length c] w fun e w' => ∃ v : Value, e = .returned v ∧ RwI w' w.heap.size v (jset (names l)) ∧ Below w.heap.size w w' := by
  have HR := Aside0.mk hr
  clear hr
  go_enter Tryz.func14, Tryz.ntmps14
  go_wp2
  go_loopg [3, 8] l.length (fun kq v3 v8 wr => UI w.heap.size l w kq v3 v8 wr)
  case atStart => exact ⟨0, rfl, Nat.zero_le _, by omega, Below.refl _ _, Kd.R_nil _ _ _ _ _⟩
  case round =>
    obtain ⟨i, rfl, hi, hk, hbw, hR⟩ := hrel
    have HK := Aside0.mk hk
    have HB := Aside0.mk hbw
    have hnl : (names (l.take i)).length ≤ 100000 := by have := names_len (l.take i); rw [List.length_take] at this; omega
    by_cases hlt : i < l.length
    · obtain ⟨ad, eA, e0, e1⟩ := at_T39 (Kd.C_below HR.out hbw) (i : Int) (by omega) (by omega)
      have erd : rd_T39 l (i : Int) = l[i] := by
        unfold rd_T39
        rw [Int.toNat_natCast, List.getD_eq_getElem?_getD, List.getElem?_eq_getElem hlt]
        rfl
      have hnt := names_take l i hlt
      rw [erd, Int.toNat_natCast] at e0 e1
      have HN := Aside0.mk hnt
      generalize l[i] = s at *
      have hin : (i : Int) < (l.length : Int) := by omega
      subst eA
      have hba := (Below.refl wr.heap.size wr).alloc (Nat.le_refl _) (.cells #[.int .i64 s.f0, .int .i64 s.f1] 39)
      have HBA := Aside0.mk (HB.out.trans (hba.mono HB.out.size))
      have HRA := Aside0.mk (Kd.R_below hR hba)
      clear erd hk hnt hbw hba hR
      by_cases k2 : s.f0 = 2
      · have k2b : (s.f0 == 2) = true := beq_iff_eq.2 k2
        have hxs := HN.out
        rw [if_pos k2] at hxs
        have HX := Aside0.mk hxs
        obtain ⟨As, cs, ev, _, _⟩ := Kd.R_reads HRA.out
        generalize names (l.take i) = xs at *
        subst ev
        clear hxs HN k2
        go_wp2_with (first | (at_builtin; refine Kd.R_append KI (w0 := (wr.alloc (.cells #[.int .i64 s.f0, .int .i64 s.f1] 39))) (W := (wr.alloc (.cells #[.int .i64 s.f0, .int .i64 s.f1] 39))) w.heap.size rfl (.tmp 15) (.tmp 18) 36 3 (.int .i64 0) 8 rfl Tryz.underlying36 infoInt rfl (by decide) (by omega) (.slice As xs.length cs) xs s.f1 [.int .i64 s.f1] (fun _ => True) (fun _ => False) rfl (by first | rfl | (simp [Act.eval]; done)) ?aP (fun _ hk => hk.elim) ?aF ?aO ?aB ?aS ?aL ?_; (case aP => exact rfl); (case aF => exact (fun _ _ => trivial)); (case aO => exact HRA.out); (case aB => exact Below.refl _ _); (case aS => exact HBA.out.size); (case aL => omega); intro v9 w9 ho hb hg hat; obtain ⟨A9, c9, e9, _, _⟩ := Kd.R_reads ho; subst e9; have HO9 := Aside0.mk ho; have HB9 := Aside0.mk hb; clear ho hb hg hat))
        go_roundg (l.length - (i + 1))
        case measure => have := HK.out; omega
        case rel =>
          refine ⟨i + 1, by go_num, by omega, rfl, ?_, ?_⟩
          · exact HBA.out.trans HB9.out
          · rw [HX.out]
            have q := HO9.out
            simp only [List.length_append, List.length_cons, List.length_nil, Nat.zero_add] at q
            exact q
      · have k2b : (s.f0 == 2) = false := beq_eq_false_iff_ne.2 k2
        have hxs := HN.out
        rw [if_neg k2] at hxs
        have HX := Aside0.mk hxs
        clear hxs HN k2
        go_wp2
        go_roundg (l.length - (i + 1))
        case measure => have := HK.out; omega
        case rel =>
          refine ⟨i + 1, by go_num, by omega, rfl, HBA.out, ?_⟩
          rw [HX.out]
          exact HRA.out
    · obtain rfl : i = l.length := by omega
      rw [List.take_length] at hR hnl
      have HO := Aside0.mk (Kd.own_of_R hR)
      have HM := Aside0.mk (show jset (names l) = Lib.compact ((names l).mergeSort fun x y => decide (x ≤ y)) from rfl)
      clear hR hbw hk
      generalize hxs : names l = xs at *
      have hsl : (xs.mergeSort fun x y => decide (x ≤ y)).length = xs.length := List.length_mergeSort _
      have HS := Aside0.mk (fun (g c : Nat) (W : World) hH h1 h2 => Tryz.slices_Sort_int g 0 c xs W hH h1 h2)
      obtain ⟨A3, c3, e3⟩ := own_slice HO.out
      subst e3
      by_cases h0 : xs.length = 0
      · have hx0 : xs = [] := List.eq_nil_of_length_eq_zero h0
        subst hx0
        clear HS hsl
        go_wp2_with (first
          | (go_at_call 28; refine (Tryz.slices_Sort_int_none _ _ _).mono ?_; rintro e1 w1 ⟨rfl, rfl⟩)
          | (go_at_call 29; refine (Tryz.slices_Compact_int_empty _ _ _).mono ?_; rintro e1 w1 ⟨rfl, rfl⟩))
        go_ret
        refine ⟨_, rfl, ?_, HB.out⟩
        have e : jset ([] : List Int) = [] := by simp [jset, Lib.compact, Lib.compactUpTo]
        rw [hxs, e]
        exact HO.out
      · rcases HO.out.2 with ⟨e0, _⟩ | ⟨g, cap, cur, e0, hg, hh, hn, hcap, hsz, htk⟩
        · injection e0 with _ e1 _
          omega
        · injection e0 with e1 e2 e4
          subst e1; subst e4
          have HG := Aside0.mk hg
          have HH := Aside0.mk hh
          have HH2 := Aside0.mk (holds_of_blockI (ss := xs) hh (by rw [Nat.mul_one] at htk; exact htk))
          have hgs : g < wr.heap.size := blk_lt hh
          generalize (xs.mergeSort fun x y => decide (x ≤ y)) = zs at *
          have hcl := compact_len zs
          have HCC := Aside0.mk (fun (W : World) hH => Tryz.slices_Compact_int g 0 c3 zs W hH (by omega) (by omega))
          rw [hsl] at HCC
          clear htk hh hg
          go_wp2_with (first
            | (go_at_call 28; refine (HS.out g c3 wr HH2.out hgs (by omega)).mono ?_; rintro e1 w1 ⟨rfl, n1, os1, hw1⟩; have HB1 := Aside0.mk (show Below w.heap.size w w1 by rw [hw1]; exact below_growS (Lib.below_putRow HB.out HG.out) (Nat.le_refl _)); have HO1 := Aside0.mk (show w1.ownsRow w.heap.size 3 1 (.slice (some ⟨g, 0, none⟩) xs.length c3) xs.length (zs.map (.int .i64)) by rw [hw1]; exact ownsRow_sortedI hsl HG.out HH.out hn hcap hsz); clear hw1)
            | (go_at_call 29; refine (HCC.out w1 (holds_own HO1.out)).mono ?_; rintro e2 w2 ⟨rfl, q2, hw2⟩; have HB2 := Aside0.mk (show Below w.heap.size w w2 by rw [hw2]; exact Lib.below_putRow HB1.out HG.out); have HO2 := Aside0.mk (show w2.ownsRow w.heap.size 3 1 (.slice (some ⟨g, 0, none⟩) (Lib.compact zs).length c3) (Lib.compact zs).length ((Lib.compact zs).map (.int .i64)) by rw [hw2]; exact own_cut HO1.out (by omega) hsl); clear hw2))
          go_ret
          refine ⟨_, rfl, ?_, HB2.out⟩
          rw [hxs, HM.out]
          exact HO2.out
end Go.Proofs.YtikbgoppmailjaaGreatDoor.H
-- Written by hp.py (a program of this session, over the kit's print.py), with hand-made contracts beside it.
namespace Go.Proofs.YtikbgoppmailjaaGreatDoor.H
open Go.RowKit Go.Proofs.YtikbgoppmailjaaGreatDoorW.PrintWords Go.Proofs.YtikbgoppmailjaaGreatDoorW.PrintLast Go.Proofs.YtikbgoppmailjaaGreatDoorW.PrintMore
attribute [local go_sem] max2_int min2_int max_two min_two max_three min_three max_four min_four   -- for this text's walks alone
set_option linter.unusedVariables false
set_option linter.unusedSimpArgs false

-- HANDMADE remontoir/guard.Uses
/-! ### guard_Uses: function 14 -/
def guard_Uses.f (l0 : List S39) : Option (List Int) := if l0.length ≤ 60 then some (jset (names l0)) else none
theorem guard_Uses.calls (A0 : Option Addr) (c0 : Nat) (l0 : List S39) (r : List Int) (w : World) (hr0 : Kd.C k39 w A0 l0.length l0) (hc0 : l0.length ≤ c0) (h : guard_Uses.f l0 = some r) :
    Calls Tryz.prog 14 #[.slice A0 l0.length c0] w fun e w' => ∃ v0_ : Value, e = .returned (v0_) ∧ Kd.R (Kd.int .i64) 3 w' w.heap.size (fun _ => True) v0_ r ∧ Below w.heap.size w w' := by
  unfold guard_Uses.f at h
  by_cases hl : l0.length ≤ 60
  · rw [if_pos hl] at h
    obtain rfl := Option.some.inj h
    refine (uses_jset A0 c0 l0 w hr0 hc0 (by omega)).mono ?_
    rintro e w' ⟨v, rfl, h1, h2⟩
    exact ⟨v, rfl, rwI_R h1, h2⟩
  · rw [if_neg hl] at h
    cases h


end Go.Proofs.YtikbgoppmailjaaGreatDoor.H
/- Insertion into a row of numbers: append(v[:k:k], append([]int{x}, v[k:]...)...). -/
namespace Go.Proofs.YtikbgoppmailjaaGreatDoor.H
open Go.RowKit Go.HK Go.Lib Go.WideShapes Go.ChangeShapes Go.Proofs.YtikbgoppmailjaaGreatDoorW.PrintWords Go.Proofs.YtikbgoppmailjaaGreatDoorW.PrintLast Go.Proofs.YtikbgoppmailjaaGreatDoorW.PrintMore
set_option linter.unusedVariables false
set_option linter.unusedSimpArgs false
abbrev iv (zs : List Int) : List Value := zs.map (Value.int .i64)
theorem iv_each (zs : List Int) : ∀ u ∈ iv zs, u.oneCell' = true := by
  intro u hu
  obtain ⟨x, _, rfl⟩ := List.mem_map.1 hu
  rfl
theorem RwI.fn {w : World} {B : Nat} {v : Value} {zs : List Int} (h : RwI w B v zs) : (v = .slice none 0 0 ∧ zs = []) ∨ ∃ (g cap : Nat), v = .slice (some ⟨g, 0, none⟩) zs.length cap ∧ B ≤ g ∧ zs.length ≤ cap ∧ g < w.heap.size ∧ ∀ j u, (iv zs)[j]? = some u → w.cell? ((⟨g, 0, none⟩ : Addr).add j) = some u := by
  rcases h.2 with ⟨rfl, hz⟩ | ⟨g, cap, cur, rfl, hB, hg, r1, r2, r3, r4⟩
  · exact .inl ⟨rfl, List.eq_nil_of_length_eq_zero hz⟩
  · refine .inr ⟨g, cap, rfl, hB, r1, blk_lt hg, fun j u hj => ?_⟩
    have hl : j < (iv zs).length := (List.getElem?_eq_some_iff.1 hj).1
    rw [List.length_map] at hl
    rw [Addr.add_mid, cell_of_row w g (0 + j) _ _ (0, 0) hg, Nat.zero_add]
    have r4' : List.take (zs.length * 1) cur.toList = iv zs := r4
    rw [← r4', List.getElem?_take_of_lt (by omega), Array.getElem?_toList] at hj
    exact hj
theorem RwI.cell {w : World} {B g cap : Nat} {zs : List Int} (h : RwI w B (.slice (some ⟨g, 0, none⟩) zs.length cap) zs) {k : Nat} (hk : k < zs.length) : w.cell? ⟨g, k, none⟩ = some (.int .i64 (zs.getD k 0)) := by
  rcases h.fn with ⟨h1, h2⟩ | ⟨g', cap', h1, _, _, _, h2⟩
  · subst h2; simp at hk
  · injection h1 with e1 _ _
    injection e1 with e1
    injection e1 with e1
    subst e1
    have := h2 k (.int .i64 (zs.getD k 0)) (by rw [List.getElem?_map, List.getElem?_eq_getElem hk, List.getD_eq_getElem?_getD, List.getElem?_eq_getElem hk]; rfl)
    rw [Addr.add_mid, Nat.zero_add] at this
    exact this
set_option maxRecDepth 100000 in
theorem islice_head {w : World} {A : Option Addr} {len cap k : Nat} (hk : k ≤ cap) : (Instr.sliceAt 36 (.slice A len cap) none (some (.int .i64 k)) (some (.int .i64 k))).run Tryz.prog w = .ok (.slice A k k) w := by
  rw [run_sliceAt_slice (h := Tryz.underlying36), run_slice_hm (ht := Tryz.underlying36) (h0 := by omega) (h2 := by omega) (h3 := by omega)]
  have hs : (sizeOf 3).run Tryz.prog w = .ok 1 w := by kernel_rfl
  show ((sizeOf 3).run Tryz.prog w).andThen _ = _
  rw [hs]
  simp only [Result.andThen, sliced, Int.toNat_natCast, Nat.sub_zero]
  congr 2
  split
  · rfl
  · cases A <;> simp [Addr.add]
set_option maxRecDepth 100000 in
theorem islice_tail {w : World} {A : Option Addr} {len cap k : Nat} (hk : k ≤ len) : (Instr.sliceAt 36 (.slice A len cap) (some (.int .i64 k)) none none).run Tryz.prog w = .ok (.slice (if cap = k then A else A.map (·.add (k * 1))) (len - k) (cap - k)) w := by
  rw [run_sliceAt_slice (h := Tryz.underlying36), run_slice_l (ht := Tryz.underlying36) (h0 := by omega) (h1 := by omega)]
  have hs : (sizeOf 3).run Tryz.prog w = .ok 1 w := by kernel_rfl
  show ((sizeOf 3).run Tryz.prog w).andThen _ = _
  rw [hs]
  simp only [Result.andThen, sliced, Int.toNat_natCast]
theorem iindex {w : World} {g N cap k : Nat} (hk : k < N) : (Instr.indexAt 36 (.slice (some ⟨g, 0, none⟩) N cap) (.int .i64 k)).run Tryz.prog w = .ok (.pointer (some ⟨g, k, none⟩)) w := by
  have hs : (sizeOf 3).run Tryz.prog w = .ok 1 w := by kernel_rfl
  have hu := run_underlying Tryz.underlying36 w
  have hb : (0 : Int) ≤ (k : Int) ∧ (k : Int) < (N : Int) := by omega
  have ha : (⟨g, 0, none⟩ : Addr).add k = ⟨g, k, none⟩ := by rw [Addr.add_mid]; simp
  simp [Instr.indexAt, asIntOf, Sem.run_bind, hu, hs, Result.andThen, hb, hk, ha]
theorem exec_sliceHM {P : Program} {ρ : Operand → Value} {o : Oper} {t : TypeId} {x h m : Operand} (ho : o.op = .slice t x none (some h) (some m)) {w : World} {v : Value} (hr : (Instr.sliceAt t (ρ x) none (some (ρ h)) (some (ρ m))).run P w = .ok v w) : (execOp ρ o).run P w = .ok (.value v) w := by
  unfold execOp
  rw [ho]
  simp only [Option.map_some, Option.map_none, Sem.run_bind, hr, Result.andThen]
  rfl
theorem exec_sliceL {P : Program} {ρ : Operand → Value} {o : Oper} {t : TypeId} {x l : Operand} (ho : o.op = .slice t x (some l) none none) {w : World} {v : Value} (hr : (Instr.sliceAt t (ρ x) (some (ρ l)) none none).run P w = .ok v w) : (execOp ρ o).run P w = .ok (.value v) w := by
  unfold execOp
  rw [ho]
  simp only [Option.map_some, Option.map_none, Sem.run_bind, hr, Result.andThen]
  rfl
theorem ilit1 (w : World) (x : Int) : ∃ w1 gx, (Instr.buildSlice 36 1 #[(0, .int .i64 x)]).run Tryz.prog w = .ok (.slice (some ⟨gx, 0, none⟩) 1 1) w1 ∧ w1.heap[gx]? = some (.cells #[.int .i64 x] 3 (0, 0)) ∧ w.heap.size ≤ gx ∧ w.grownBy w1 none :=
  ⟨w.alloc (.cells #[.int .i64 x] 3), w.heap.size, by kernel_rfl, heap_alloc_last w _, Nat.le_refl _, World.grownBy_alloc w _ none⟩
/-- append([]int{x}, v[k:]...). -/
theorem ins_tailI {w : World} {gx B base k : Nat} {v : Value} {l : List Int} {A : Option Addr} {cap : Nat} {x : Int} (hx : w.heap[gx]? = some (.cells #[.int .i64 x] 3 (0, 0))) (hb : base ≤ gx) (hR : RwI w B v l) (hv : v = .slice A l.length cap) (hk : k ≤ l.length) (hl : l.length ≤ 1000) :
    ∃ y w3, (Builtin.append_ #[36, 36] 36 #[.slice (some ⟨gx, 0, none⟩) 1 1, .slice (if cap = k then A else A.map (·.add (k * 1))) (l.length - k) (cap - k)]).run Tryz.prog w = .ok y w3 ∧ RwI w3 base y (x :: l.drop k) ∧ w.grownBy w3 (some gx) ∧ (y.ownBlock = some gx ∨ y.ownBlock = some w.heap.size) := by
  have own : w.ownsRow base 3 1 (.slice (some ⟨gx, 0, none⟩) 1 1) 1 [.int .i64 x] := ⟨rfl, .inr ⟨gx, 1, _, rfl, hb, hx, Nat.le_refl _, by decide, rfl, rfl⟩⟩
  have out : ∀ {y : Value} {w3 : World}, w3.ownsRow base 3 1 y (1 + (l.drop k).length) ([.int .i64 x] ++ iv (l.drop k)) → RwI w3 base y (x :: l.drop k) := by
    intro y w3 h
    unfold RwI
    rw [List.length_cons, Nat.add_comm]
    exact h
  rcases hR.fn with ⟨h1, h2⟩ | ⟨g, cap', h1, _, hcap, _, hc⟩
  · subst h2
    rw [hv] at h1
    injection h1 with e1 e2 e3
    subst e1; subst e3
    obtain rfl : k = 0 := by simpa using hk
    exact ⟨_, w, by kernel_rfl, out own, ⟨rfl, rfl, rfl, Nat.le_refl _, fun _ _ _ => rfl⟩, Or.inl rfl⟩
  · rw [hv] at h1
    injection h1 with e1 e2 e3
    subst e1; subst e3
    obtain ⟨i0, hi0, hz0, hz1, hz2⟩ := infoI1
    have hbs : base ≤ w.heap.size := Nat.le_trans hb (Nat.le_of_lt (blk_lt hx))
    have hd : (l.drop k).length = l.length - k := by simp
    obtain ⟨y, w3, q1, q2, q3, _, q5⟩ := run_append_own_at (P := Tryz.prog) w base 36 36 3 i0 (.int .i64 0) 1 8 Tryz.underlying36 hi0 hz0 hz1 hz2 rfl (by decide) (.slice (some ⟨gx, 0, none⟩) 1 1) 1 [.int .i64 x] own (if cap = k then ⟨g, 0, none⟩ else (⟨g, 0, none⟩ : Addr).add (k * 1)) (l.length - k) (cap - k) (iv (l.drop k)) (by rw [List.length_map, hd, Nat.mul_one]) (fun j u hj => by
      have hj' : j < (iv (l.drop k)).length := (List.getElem?_eq_some_iff.1 hj).1
      rw [List.length_map, hd] at hj'
      rw [if_neg (by omega), Go.Deep.add_add]
      refine hc _ _ ?_
      rw [List.getElem?_map, List.getElem?_drop] at hj
      rw [List.getElem?_map, Nat.mul_one]
      exact hj) (iv_each _) (by unfold maxLen; omega) (by omega) hbs
    refine ⟨y, w3, ?_, out (by rw [hd]; exact q2), q3, q5⟩
    have e : (if cap = k then some (⟨g, 0, none⟩ : Addr) else (some (⟨g, 0, none⟩ : Addr)).map (·.add (k * 1))) = some (if cap = k then ⟨g, 0, none⟩ else (⟨g, 0, none⟩ : Addr).add (k * 1)) := by split <;> rfl
    rw [e]
    exact q1
/-- append(v[:k:k], y...): it grows. -/
theorem ins_headI {w : World} {B B2 base k : Nat} {v y : Value} {l m : List Int} {A : Option Addr} {cap : Nat} (hR : RwI w B v l) (hv : v = .slice A l.length cap) (hk : k ≤ l.length) (hY : RwI w B2 y m) (hm : 0 < m.length) (hl : l.length ≤ 1000) (hl2 : m.length ≤ 1001) (hb : base ≤ w.heap.size) :
    ∃ r w3, (Builtin.append_ #[36, 36] 36 #[.slice A k k, y]).run Tryz.prog w = .ok r w3 ∧ RwI w3 base r (l.take k ++ m) ∧ w.grownBy w3 none ∧ r.ownBlock = some w.heap.size := by
  obtain ⟨i0, hi0, hz0, hz1, hz2⟩ := infoI1
  rcases hY.fn with ⟨_, e⟩ | ⟨gy, cy, rfl, _, hcy, _, hcm⟩
  · subst e; simp at hm
  have grown : ∀ (old : Nat), old < k + m.length → (w.drew.alloc (.cells ((iv (l.take k)).toArray ++ (iv m).toArray ++ Builtin.zeroCells (Value.int .i64 0).cells (grownCap w (k + m.length) old 3 - (k + m.length))) 3)).ownsRow base 3 1 (.slice (some ⟨w.heap.size, 0, none⟩) (k + m.length) (grownCap w (k + m.length) old 3)) (k + m.length) (iv (l.take k) ++ iv m) := by
    intro old ho
    have hge := grownCap_ge w (k + m.length) old 3
    have hcm : grownCap w (k + m.length) old 3 ≤ maxLen := grownCap_le_maxLen w (k + m.length) old 3 (by unfold maxLen; omega)
    have el : (iv (l.take k) ++ iv m).length = (k + m.length) * 1 := by rw [List.length_append, List.length_map, List.length_map, List.length_take, Nat.min_eq_left hk]; omega
    refine ⟨el, .inr ⟨w.heap.size, _, _, rfl, hb, heap_alloc_new w.drew _, hge, hcm, ?_, ?_⟩⟩
    · have e3 : (Value.int .i64 0).cells.size = 1 := rfl
      rw [List.length_append] at el
      simp only [Array.size_append, List.size_toArray, size_zeroCells, e3]
      omega
    · simp only [Array.toList_append, List.append_assoc]
      rw [← List.append_assoc, ← el]
      exact List.take_left
  have fin : ∀ {r : Value} {w3 : World}, w3.ownsRow base 3 1 r (k + m.length) (iv (l.take k) ++ iv m) → RwI w3 base r (l.take k ++ m) := by
    intro r w3 h
    unfold RwI
    rw [List.length_append, List.length_take, Nat.min_eq_left hk, List.map_append]
    exact h
  rcases hR.fn with ⟨h1, h2⟩ | ⟨g, cap', h1, _, hcap, _, hc⟩
  · subst h2
    rw [hv] at h1
    injection h1 with e1 e2 e3
    subst e1
    obtain rfl : k = 0 := by simpa using hk
    have hr := run_append_nil (P := Tryz.prog) w 36 36 3 i0 (.int .i64 0) Tryz.underlying36 hi0 hz0 ⟨gy, 0, none⟩ m.length cy (iv m) (by rw [List.length_map, hz1, Nat.mul_one]) hcm hm (by omega) (by rw [hz2]; omega)
    have hg := grown 0 (by omega)
    simp only [List.take_nil, Nat.zero_add] at hg
    exact ⟨_, _, hr, fin (by simpa using hg), ⟨rfl, rfl, rfl, by simp, fun k hk _ => heap_alloc_old w.drew _ hk⟩, rfl⟩
  · rw [hv] at h1
    injection h1 with e1 e2 e3
    subst e1; subst e3
    have hr := run_append_grow (P := Tryz.prog) w 36 36 3 i0 (.int .i64 0) Tryz.underlying36 hi0 hz0 ⟨g, 0, none⟩ k k (iv (l.take k)) (by rw [List.length_map, hz1, List.length_take, Nat.min_eq_left hk, Nat.mul_one]) (fun j u hj => hc j u (by
      rw [List.getElem?_map] at hj ⊢
      have hjl : j < (l.take k).length := by
        rcases Nat.lt_or_ge j (l.take k).length with q | q
        · exact q
        · rw [List.getElem?_eq_none q] at hj; cases hj
      rw [List.length_take] at hjl
      rw [List.getElem?_take_of_lt (by omega)] at hj
      exact hj)) ⟨gy, 0, none⟩ m.length cy (iv m) (by rw [List.length_map, hz1, Nat.mul_one]) hcm (by omega) (by omega) (growslice_fits (by omega) (by rw [hz2]; omega))
    exact ⟨_, _, hr, fin (grown k (by omega)), ⟨rfl, rfl, rfl, by simp, fun k hk _ => heap_alloc_old w.drew _ hk⟩, rfl⟩
/-- The place of x. -/
def insK (x : Int) (zs : List Int) : Nat := (zs.takeWhile fun z => decide (z < x)).length
theorem insK_le (x : Int) (zs : List Int) : insK x zs ≤ zs.length := (List.takeWhile_prefix _).length_le
theorem insK_go (x : Int) : ∀ (zs : List Int) (k : Nat), k < insK x zs → k < zs.length ∧ zs.getD k 0 < x
  | [], k, h => by simp [insK] at h
  | z :: zs, k, h => by
    unfold insK at h
    rw [List.takeWhile_cons] at h
    by_cases c : decide (z < x) = true
    · rw [if_pos c] at h
      cases k with
      | zero => exact ⟨by simp, by simpa using c⟩
      | succ k =>
        simp only [List.length_cons] at h
        have := insK_go x zs k (by unfold insK; omega)
        exact ⟨by simp; omega, by simpa using this.2⟩
    · rw [if_neg c] at h; simp at h
theorem insK_end (x : Int) : ∀ (zs : List Int), (insK x zs = zs.length ∧ insJ x zs = zs ++ [x]) ∨ (insK x zs < zs.length ∧ ¬ zs.getD (insK x zs) 0 < x ∧ (zs.getD (insK x zs) 0 = x → insJ x zs = zs) ∧ (zs.getD (insK x zs) 0 ≠ x → insJ x zs = zs.take (insK x zs) ++ x :: zs.drop (insK x zs)))
  | [] => .inl ⟨rfl, rfl⟩
  | z :: zs => by
    unfold insK insJ
    rw [List.takeWhile_cons]
    by_cases c : z < x
    · rw [if_pos (decide_eq_true c), if_pos c]
      rcases insK_end x zs with ⟨h1, h2⟩ | ⟨h1, h2, h3, h4⟩
      · left
        unfold insK at h1
        exact ⟨by simp [h1], by rw [h2]; rfl⟩
      · right
        unfold insK at h1 h2 h3 h4
        refine ⟨by simp; omega, by simpa using h2, fun e => ?_, fun e => ?_⟩
        · rw [h3 (by simpa using e)]
        · rw [h4 (by simpa using e)]; rfl
    · have hf : decide (z < x) = false := decide_eq_false c
      rw [hf, if_neg (by decide), if_neg c]
      right
      refine ⟨by simp, by simpa using c, fun e => ?_, fun e => ?_⟩
      · have e : z = x := by simpa using e
        rw [if_pos e]
      · have e : ¬ z = x := by simpa using e
        rw [if_neg e]; rfl
end Go.Proofs.YtikbgoppmailjaaGreatDoor.H
/- The document's Uses: its regions, its loops. -/
namespace Go.Proofs.YtikbgoppmailjaaGreatDoor.H
open Go.RowKit Go.HK Go.Lib Go.WideShapes Go.ChangeShapes Go.Proofs.YtikbgoppmailjaaGreatDoorW.PrintWords Go.Proofs.YtikbgoppmailjaaGreatDoorW.PrintLast Go.Proofs.YtikbgoppmailjaaGreatDoorW.PrintMore
set_option linter.unusedVariables false
set_option linter.unusedSimpArgs false
theorem ru7_body {c0 c1 c2 c3 c4 c5 c6 c7 c8 c9 c10 body : Code} {z0 z1 z2 : Nat}  {c0' c1' c2' c3' c4' c5' c6' c7' c8' c9' c10' body' : Code} {z0' z1' z2' : Nat}  (h : Tryz.f15.body = some (.seq c0 (.seq c1 (.seq (.seq c2 (.block z0 (.loop (.seq c3 (.seq (.block z1 (.seq c4 (.seq c5 (.seq (.block z2 (.loop (.seq (.seq body c6) c7))) c8)))) c9))))) c10)))) (h' : Tryz.f15.body = some (.seq c0' (.seq c1' (.seq (.seq c2' (.block z0' (.loop (.seq c3' (.seq (.block z1' (.seq c4' (.seq c5' (.seq (.block z2' (.loop (.seq (.seq body' c6') c7'))) c8')))) c9'))))) c10')))) : body' = body := by
  rw [h] at h'
  simp only [Option.some.injEq, Code.seq.injEq, Code.cond.injEq, Code.block.injEq, Code.loop.injEq] at h'
  simp only [h']
theorem ru9_body {c0 c1 c2 c3 c4 c5 c6 c7 c8 c9 body : Code} {z0 z1 : Nat}  {c0' c1' c2' c3' c4' c5' c6' c7' c8' c9' body' : Code} {z0' z1' : Nat}  (h : Tryz.f15.body = some (.seq c0 (.seq c1 (.seq (.seq c2 (.block z0 (.loop (.seq c3 (.seq (.block z1 (.seq c4 (.seq c5 (.seq c6 (.seq body c7))))) c8))))) c9)))) (h' : Tryz.f15.body = some (.seq c0' (.seq c1' (.seq (.seq c2' (.block z0' (.loop (.seq c3' (.seq (.block z1' (.seq c4' (.seq c5' (.seq c6' (.seq body' c7'))))) c8'))))) c9')))) : body' = body := by
  rw [h] at h'
  simp only [Option.some.injEq, Code.seq.injEq, Code.cond.injEq, Code.block.injEq, Code.loop.injEq] at h'
  simp only [h']
theorem ru10_body {c0 c1 c2 c3 c4 c5 c6 c7 c8 c9 c10 body : Code} {z0 z1 : Nat} {q0 : Operand} {c0' c1' c2' c3' c4' c5' c6' c7' c8' c9' c10' body' : Code} {z0' z1' : Nat} {q0' : Operand} (h : Tryz.f15.body = some (.seq c0 (.seq c1 (.seq (.seq c2 (.block z0 (.loop (.seq c3 (.seq (.block z1 (.seq c4 (.seq c5 (.seq c6 (.seq c7 (.cond q0 body c8)))))) c9))))) c10)))) (h' : Tryz.f15.body = some (.seq c0' (.seq c1' (.seq (.seq c2' (.block z0' (.loop (.seq c3' (.seq (.block z1' (.seq c4' (.seq c5' (.seq c6' (.seq c7' (.cond q0' body' c8')))))) c9'))))) c10')))) : body' = body := by
  rw [h] at h'
  simp only [Option.some.injEq, Code.seq.injEq, Code.cond.injEq, Code.block.injEq, Code.loop.injEq] at h'
  simp only [h']
theorem ru2_body {c0 c1 c2 c3 c4 c5 c6 c7 c8 body : Code} {z0 z1 z2 : Nat}  {c0' c1' c2' c3' c4' c5' c6' c7' c8' body' : Code} {z0' z1' z2' : Nat}  (h : Tryz.f15.body = some (.seq c0 (.seq c1 (.seq (.seq c2 (.block z0 (.loop (.seq c3 (.seq (.block z1 (.seq c4 (.seq c5 (.seq (.block z2 (.loop body)) c6)))) c7))))) c8)))) (h' : Tryz.f15.body = some (.seq c0' (.seq c1' (.seq (.seq c2' (.block z0' (.loop (.seq c3' (.seq (.block z1' (.seq c4' (.seq c5' (.seq (.block z2' (.loop body')) c6')))) c7'))))) c8')))) : body' = body := by
  rw [h] at h'
  simp only [Option.some.injEq, Code.seq.injEq, Code.cond.injEq, Code.block.injEq, Code.loop.injEq] at h'
  simp only [h']
theorem ru0_body {c0 c1 c2 c3 body : Code} {z0 : Nat}  {c0' c1' c2' c3' body' : Code} {z0' : Nat}  (h : Tryz.f15.body = some (.seq c0 (.seq c1 (.seq (.seq c2 (.block z0 (.loop body))) c3)))) (h' : Tryz.f15.body = some (.seq c0' (.seq c1' (.seq (.seq c2' (.block z0' (.loop body'))) c3')))) : body' = body := by
  rw [h] at h'
  simp only [Option.some.injEq, Code.seq.injEq, Code.cond.injEq, Code.block.injEq, Code.loop.injEq] at h'
  simp only [h']
set_option maxRecDepth 100000 in
set_option maxHeartbeats 8000000 in
theorem ru7_more {w : World} {a : Addr} {n cap i k NL capo g : Nat} {z x : Int} {Q : Exit → Act → World → Prop} {c0 c1 c2 c3 c4 c5 c6 c7 c8 c9 c10 body : Code} {z0 z1 z2 : Nat}  {x1 x2 x6 x7 x8 x9 x10 x11 x12 x13 x14 x15 x16 x17 x18 x19 x20 x21 x22 x23 x24 x25 x26 x27 x28 x29 x30 x31 x32 x33 x34 x35 x36 x37 x38 x39 x40 x41 x42 x43 x44 x45 x46 x47 x48 x49 x50 x51 x52 x53 x54 x55 x56 x57 x58 x59 x60 x61 x62 x63 x64 x65 x66 x67 : Value}
  (hB : Tryz.f15.body = some (.seq c0 (.seq c1 (.seq (.seq c2 (.block z0 (.loop (.seq c3 (.seq (.block z1 (.seq c4 (.seq c5 (.seq (.block z2 (.loop (.seq (.seq body c6) c7))) c8)))) c9))))) c10)))) (hPQ : Aside0 (∀ c a d v w, Q (.panic c) (a.put d v) w → Q (.panic c) a w)) (cg : Aside0 (w.cell? ⟨g, k, none⟩ = some (.int .i64 z))) (ct : Aside0 (w.cell? ⟨(a.add (i * 2)).block, (a.add (i * 2)).off + 1, none⟩ = some (.int .i64 x))) (hi : i < n) (hn : n ≤ 100) (hk : k < NL) (hNL : NL ≤ 100) (hz : z < x)
  (cont : ∀ (y18 y19 y20 y21 y22 y23 y24 y25 y26 y27 y28 y29 y30 y31 y32 : Value), Q .normal ⟨#[.slice (some a) n cap, x1, x2, .slice (some ⟨g, 0, none⟩) NL capo, .int .i64 i, .int .i64 k, x6, x7, x8, x9, x10, x11, x12, x13, x14, x15, x16, x17, y18, y19, y20, y21, y22, y23, y24, y25, y26, y27, y28, y29, y30, y31, y32, .bool true, x34, x35, x36, x37, x38, x39, x40, x41, x42, x43, x44, x45, x46, x47, x48, x49, x50, x51, x52, x53, x54, x55, x56, x57, x58, x59, x60, x61, x62, x63, x64, x65, x66, x67], []⟩ w.drew) : Code.wp Tryz.prog body Q ⟨#[.slice (some a) n cap, x1, x2, .slice (some ⟨g, 0, none⟩) NL capo, .int .i64 i, .int .i64 k, x6, x7, x8, x9, x10, x11, x12, x13, x14, x15, x16, x17, x18, x19, x20, x21, x22, x23, x24, x25, x26, x27, x28, x29, x30, x31, x32, x33, x34, x35, x36, x37, x38, x39, x40, x41, x42, x43, x44, x45, x46, x47, x48, x49, x50, x51, x52, x53, x54, x55, x56, x57, x58, x59, x60, x61, x62, x63, x64, x65, x66, x67], []⟩ w := by
 have hbody := ru7_body rfl hB
 clear hB
 subst hbody
 have hcont := Aside0.mk cont
 clear cont
 have hb0 : decide ((k : Int) < (NL : Int)) = true := decide_eq_true (by omega)
 have hb1 : decide (k < NL) = true := decide_eq_true hk
 have hb2 : decide (z < x) = true := decide_eq_true hz
 refine start_ (n := 16) (S := fun w' => w'.cell? ⟨g, k, none⟩ = some (.int .i64 z) ∧ w'.cell? ⟨(a.add (i * 2)).block, (a.add (i * 2)).off + 1, none⟩ = some (.int .i64 x)) (ds := []) #[false, false, false, false, false, false, false, false, false, false, false, false, false, false, false, false] (by kernel_rfl) rfl rfl ⟨cg.out, ct.out⟩ (fun hHeld => ?_)
 refine pure_ (i := 0) (N := some 18) (v := ?_) (a' := ?_) #[true, false, false, false, false, false, false, false, false, false, false, false, false, false, false, false] rfl rfl (by kernel_rfl) (fun _ _ _ h => hPQ.out _ _ _ _ _ h) (Or.inl ⟨by rfl, ?_⟩) ?_ ?_
 rotate_left
 ·intro w'
  go_simp
  with_reducible rfl
 rotate_left
 ·simp only [Act.put, List.setIfInBounds_toArray, List.set_cons_zero, List.set_cons_succ, i64_w, i32_w]
  rfl
 refine pure_ (i := 1) (N := some 19) (v := ?_) (a' := ?_) #[true, true, false, false, false, false, false, false, false, false, false, false, false, false, false, false] rfl rfl (by kernel_rfl) (fun _ _ _ h => hPQ.out _ _ _ _ _ h) (Or.inl ⟨by rfl, ?_⟩) ?_ ?_
 rotate_left
 ·intro w'
  go_simp
  with_reducible rfl
 rotate_left
 ·simp only [Act.put, List.setIfInBounds_toArray, List.set_cons_zero, List.set_cons_succ, i64_w, i32_w]
  rfl
 refine pure_ (i := 2) (N := some 20) (v := ?_) (a' := ?_) #[true, true, true, false, false, false, false, false, false, false, false, false, false, false, false, false] rfl rfl (by kernel_rfl) (fun _ _ _ h => hPQ.out _ _ _ _ _ h) (Or.inl ⟨by rfl, ?_⟩) ?_ ?_
 rotate_left
 ·intro w'
  go_simp
  with_reducible rfl
 rotate_left
 ·simp only [Act.put, List.setIfInBounds_toArray, List.set_cons_zero, List.set_cons_succ, i64_w, i32_w]
  rfl
 refine pure_ (i := 3) (N := some 21) (v := ?_) (a' := ?_) #[true, true, true, true, false, false, false, false, false, false, false, false, false, false, false, false] rfl rfl (by kernel_rfl) (fun _ _ _ h => hPQ.out _ _ _ _ _ h) (Or.inl ⟨by rfl, ?_⟩) ?_ ?_
 rotate_left
 ·intro w'
  go_simp
  with_reducible rfl
 rotate_left
 ·simp only [Act.put, List.setIfInBounds_toArray, List.set_cons_zero, List.set_cons_succ, i64_w, i32_w]
  rfl
 refine pure_ (i := 4) (N := some 22) (v := ?_) (a' := ?_) #[true, true, true, true, true, false, false, false, false, false, false, false, false, false, false, false] rfl rfl (by kernel_rfl) (fun _ _ _ h => hPQ.out _ _ _ _ _ h) (Or.inl ⟨by rfl, ?_⟩) ?_ ?_
 rotate_left
 ·intro w'
  go_simp
  with_reducible rfl
 rotate_left
 ·simp only [Act.put, List.setIfInBounds_toArray, List.set_cons_zero, List.set_cons_succ, i64_w, i32_w]
  rfl
 refine pure_ (i := 5) (N := some 23) (v := ?_) (a' := ?_) #[true, true, true, true, true, true, false, false, false, false, false, false, false, false, false, false] rfl rfl (by kernel_rfl) (fun _ _ _ h => hPQ.out _ _ _ _ _ h) (Or.inl ⟨by rfl, ?_⟩) ?_ ?_
 rotate_left
 ·intro w'
  go_simp
  with_reducible rfl
 rotate_left
 ·simp only [Act.put, List.setIfInBounds_toArray, List.set_cons_zero, List.set_cons_succ, i64_w, i32_w]
  rfl
 refine pure_ (i := 6) (N := some 24) (v := ?_) (a' := ?_) #[true, true, true, true, true, true, true, false, false, false, false, false, false, false, false, false] rfl rfl (by kernel_rfl) (fun _ _ _ h => hPQ.out _ _ _ _ _ h) (Or.inl ⟨by rfl, ?_⟩) ?_ ?_
 rotate_left
 ·intro w'
  go_simp
  with_reducible rfl
 rotate_left
 ·simp only [Act.put, List.setIfInBounds_toArray, List.set_cons_zero, List.set_cons_succ, i64_w, i32_w]
  rfl
 refine pure_ (i := 7) (N := some 25) (v := ?_) (a' := ?_) #[true, true, true, true, true, true, true, true, false, false, false, false, false, false, false, false] rfl rfl (by kernel_rfl) (fun _ _ _ h => hPQ.out _ _ _ _ _ h) (Or.inl ⟨by rfl, ?_⟩) ?_ ?_
 rotate_left
 ·intro w'
  refine (exec_indexAddr rfl (iindex (cap := capo) hk)).trans ?_
  with_reducible rfl
 rotate_left
 ·simp only [Act.put, List.setIfInBounds_toArray, List.set_cons_zero, List.set_cons_succ, i64_w, i32_w]
  rfl
 refine pure_ (i := 9) (N := some 27) (v := ?_) (a' := ?_) #[true, true, true, true, true, true, true, true, false, true, false, false, false, false, false, false] rfl rfl (by kernel_rfl) (fun _ _ _ h => hPQ.out _ _ _ _ _ h) (Or.inl ⟨by rfl, ?_⟩) ?_ ?_
 rotate_left
 ·intro w'
  go_simp
  with_reducible rfl
 rotate_left
 ·simp only [Act.put, List.setIfInBounds_toArray, List.set_cons_zero, List.set_cons_succ, i64_w, i32_w]
  rfl
 refine pure_ (i := 10) (N := some 28) (v := ?_) (a' := ?_) #[true, true, true, true, true, true, true, true, false, true, true, false, false, false, false, false] rfl rfl (by kernel_rfl) (fun _ _ _ h => hPQ.out _ _ _ _ _ h) (Or.inl ⟨by rfl, ?_⟩) ?_ ?_
 rotate_left
 ·intro w'
  go_simp
  with_reducible rfl
 rotate_left
 ·simp only [Act.put, List.setIfInBounds_toArray, List.set_cons_zero, List.set_cons_succ, i64_w, i32_w]
  rfl
 refine pure_ (i := 11) (N := some 29) (v := ?_) (a' := ?_) #[true, true, true, true, true, true, true, true, false, true, true, true, false, false, false, false] rfl rfl (by kernel_rfl) (fun _ _ _ h => hPQ.out _ _ _ _ _ h) (Or.inl ⟨by rfl, ?_⟩) ?_ ?_
 rotate_left
 ·intro w'
  refine (exec_indexAddr rfl (s_index (a := a) (cap := cap) hi)).trans ?_
  with_reducible rfl
 rotate_left
 ·simp only [Act.put, List.setIfInBounds_toArray, List.set_cons_zero, List.set_cons_succ, i64_w, i32_w]
  rfl
 refine pure_ (i := 12) (N := some 30) (v := ?_) (a' := ?_) #[true, true, true, true, true, true, true, true, false, true, true, true, true, false, false, false] rfl rfl (by kernel_rfl) (fun _ _ _ h => hPQ.out _ _ _ _ _ h) (Or.inl ⟨by rfl, ?_⟩) ?_ ?_
 rotate_left
 ·intro w'
  go_simp
  with_reducible rfl
 rotate_left
 ·simp only [Act.put, List.setIfInBounds_toArray, List.set_cons_zero, List.set_cons_succ, i64_w, i32_w]
  rfl
 refine take_ (i := 8) (N := some 26) (v := ?_) (a' := ?_) #[true, true, true, true, true, true, true, true, true, true, true, true, true, false, false, false] rfl rfl (by kernel_rfl) (fun _ _ _ h => hPQ.out _ _ _ _ _ h) (Or.inl ⟨by rfl, ?_⟩) hHeld ?_ ?_
 rotate_left
 ·rintro w' ⟨s0, s1⟩
  go_simp
  with_reducible rfl
 rotate_left
 ·simp only [Act.put, List.setIfInBounds_toArray, List.set_cons_zero, List.set_cons_succ, i64_w, i32_w]
  rfl
 refine take_ (i := 13) (N := some 31) (v := ?_) (a' := ?_) #[true, true, true, true, true, true, true, true, true, true, true, true, true, true, false, false] rfl rfl (by kernel_rfl) (fun _ _ _ h => hPQ.out _ _ _ _ _ h) (Or.inl ⟨by rfl, ?_⟩) hHeld ?_ ?_
 rotate_left
 ·rintro w' ⟨s0, s1⟩
  go_simp
  with_reducible rfl
 rotate_left
 ·simp only [Act.put, List.setIfInBounds_toArray, List.set_cons_zero, List.set_cons_succ, i64_w, i32_w]
  rfl
 refine pure_ (i := 14) (N := some 32) (v := ?_) (a' := ?_) #[true, true, true, true, true, true, true, true, true, true, true, true, true, true, true, false] rfl rfl (by kernel_rfl) (fun _ _ _ h => hPQ.out _ _ _ _ _ h) (Or.inl ⟨by rfl, ?_⟩) ?_ ?_
 rotate_left
 ·intro w'
  go_simp
  with_reducible rfl
 rotate_left
 ·simp only [Act.put, List.setIfInBounds_toArray, List.set_cons_zero, List.set_cons_succ, i64_w, i32_w]
  rfl
 refine pure_ (i := 15) (N := some 33) (v := ?_) (a' := ?_) #[true, true, true, true, true, true, true, true, true, true, true, true, true, true, true, true] rfl rfl (by kernel_rfl) (fun _ _ _ h => hPQ.out _ _ _ _ _ h) (Or.inl ⟨by rfl, ?_⟩) ?_ ?_
 rotate_left
 ·intro w'
  go_simp
  with_reducible rfl
 rotate_left
 ·simp only [Act.put, List.setIfInBounds_toArray, List.set_cons_zero, List.set_cons_succ, i64_w, i32_w]
  rfl
 refine done_ (by kernel_rfl) ?_

 exact hcont.out _ _ _ _ _ _ _ _ _ _ _ _ _ _ _
set_option maxRecDepth 100000 in
set_option maxHeartbeats 8000000 in
theorem ru7_stop {w : World} {a : Addr} {n cap i k NL capo g : Nat} {z x : Int} {Q : Exit → Act → World → Prop} {c0 c1 c2 c3 c4 c5 c6 c7 c8 c9 c10 body : Code} {z0 z1 z2 : Nat}  {x1 x2 x6 x7 x8 x9 x10 x11 x12 x13 x14 x15 x16 x17 x18 x19 x20 x21 x22 x23 x24 x25 x26 x27 x28 x29 x30 x31 x32 x33 x34 x35 x36 x37 x38 x39 x40 x41 x42 x43 x44 x45 x46 x47 x48 x49 x50 x51 x52 x53 x54 x55 x56 x57 x58 x59 x60 x61 x62 x63 x64 x65 x66 x67 : Value}
  (hB : Tryz.f15.body = some (.seq c0 (.seq c1 (.seq (.seq c2 (.block z0 (.loop (.seq c3 (.seq (.block z1 (.seq c4 (.seq c5 (.seq (.block z2 (.loop (.seq (.seq body c6) c7))) c8)))) c9))))) c10)))) (hPQ : Aside0 (∀ c a d v w, Q (.panic c) (a.put d v) w → Q (.panic c) a w)) (cg : Aside0 (w.cell? ⟨g, k, none⟩ = some (.int .i64 z))) (ct : Aside0 (w.cell? ⟨(a.add (i * 2)).block, (a.add (i * 2)).off + 1, none⟩ = some (.int .i64 x))) (hi : i < n) (hn : n ≤ 100) (hk : k < NL) (hNL : NL ≤ 100) (hz : ¬ z < x)
  (cont : ∀ (y18 y19 y20 y21 y22 y23 y24 y25 y26 y27 y28 y29 y30 y31 y32 : Value), Q .normal ⟨#[.slice (some a) n cap, x1, x2, .slice (some ⟨g, 0, none⟩) NL capo, .int .i64 i, .int .i64 k, x6, x7, x8, x9, x10, x11, x12, x13, x14, x15, x16, x17, y18, y19, y20, y21, y22, y23, y24, y25, y26, y27, y28, y29, y30, y31, y32, .bool false, x34, x35, x36, x37, x38, x39, x40, x41, x42, x43, x44, x45, x46, x47, x48, x49, x50, x51, x52, x53, x54, x55, x56, x57, x58, x59, x60, x61, x62, x63, x64, x65, x66, x67], []⟩ w.drew) : Code.wp Tryz.prog body Q ⟨#[.slice (some a) n cap, x1, x2, .slice (some ⟨g, 0, none⟩) NL capo, .int .i64 i, .int .i64 k, x6, x7, x8, x9, x10, x11, x12, x13, x14, x15, x16, x17, x18, x19, x20, x21, x22, x23, x24, x25, x26, x27, x28, x29, x30, x31, x32, x33, x34, x35, x36, x37, x38, x39, x40, x41, x42, x43, x44, x45, x46, x47, x48, x49, x50, x51, x52, x53, x54, x55, x56, x57, x58, x59, x60, x61, x62, x63, x64, x65, x66, x67], []⟩ w := by
 have hbody := ru7_body rfl hB
 clear hB
 subst hbody
 have hcont := Aside0.mk cont
 clear cont
 have hb0 : decide ((k : Int) < (NL : Int)) = true := decide_eq_true (by omega)
 have hb1 : decide (k < NL) = true := decide_eq_true hk
 have hb2 : decide (z < x) = false := decide_eq_false hz
 refine start_ (n := 16) (S := fun w' => w'.cell? ⟨g, k, none⟩ = some (.int .i64 z) ∧ w'.cell? ⟨(a.add (i * 2)).block, (a.add (i * 2)).off + 1, none⟩ = some (.int .i64 x)) (ds := []) #[false, false, false, false, false, false, false, false, false, false, false, false, false, false, false, false] (by kernel_rfl) rfl rfl ⟨cg.out, ct.out⟩ (fun hHeld => ?_)
 refine pure_ (i := 0) (N := some 18) (v := ?_) (a' := ?_) #[true, false, false, false, false, false, false, false, false, false, false, false, false, false, false, false] rfl rfl (by kernel_rfl) (fun _ _ _ h => hPQ.out _ _ _ _ _ h) (Or.inl ⟨by rfl, ?_⟩) ?_ ?_
 rotate_left
 ·intro w'
  go_simp
  with_reducible rfl
 rotate_left
 ·simp only [Act.put, List.setIfInBounds_toArray, List.set_cons_zero, List.set_cons_succ, i64_w, i32_w]
  rfl
 refine pure_ (i := 1) (N := some 19) (v := ?_) (a' := ?_) #[true, true, false, false, false, false, false, false, false, false, false, false, false, false, false, false] rfl rfl (by kernel_rfl) (fun _ _ _ h => hPQ.out _ _ _ _ _ h) (Or.inl ⟨by rfl, ?_⟩) ?_ ?_
 rotate_left
 ·intro w'
  go_simp
  with_reducible rfl
 rotate_left
 ·simp only [Act.put, List.setIfInBounds_toArray, List.set_cons_zero, List.set_cons_succ, i64_w, i32_w]
  rfl
 refine pure_ (i := 2) (N := some 20) (v := ?_) (a' := ?_) #[true, true, true, false, false, false, false, false, false, false, false, false, false, false, false, false] rfl rfl (by kernel_rfl) (fun _ _ _ h => hPQ.out _ _ _ _ _ h) (Or.inl ⟨by rfl, ?_⟩) ?_ ?_
 rotate_left
 ·intro w'
  go_simp
  with_reducible rfl
 rotate_left
 ·simp only [Act.put, List.setIfInBounds_toArray, List.set_cons_zero, List.set_cons_succ, i64_w, i32_w]
  rfl
 refine pure_ (i := 3) (N := some 21) (v := ?_) (a' := ?_) #[true, true, true, true, false, false, false, false, false, false, false, false, false, false, false, false] rfl rfl (by kernel_rfl) (fun _ _ _ h => hPQ.out _ _ _ _ _ h) (Or.inl ⟨by rfl, ?_⟩) ?_ ?_
 rotate_left
 ·intro w'
  go_simp
  with_reducible rfl
 rotate_left
 ·simp only [Act.put, List.setIfInBounds_toArray, List.set_cons_zero, List.set_cons_succ, i64_w, i32_w]
  rfl
 refine pure_ (i := 4) (N := some 22) (v := ?_) (a' := ?_) #[true, true, true, true, true, false, false, false, false, false, false, false, false, false, false, false] rfl rfl (by kernel_rfl) (fun _ _ _ h => hPQ.out _ _ _ _ _ h) (Or.inl ⟨by rfl, ?_⟩) ?_ ?_
 rotate_left
 ·intro w'
  go_simp
  with_reducible rfl
 rotate_left
 ·simp only [Act.put, List.setIfInBounds_toArray, List.set_cons_zero, List.set_cons_succ, i64_w, i32_w]
  rfl
 refine pure_ (i := 5) (N := some 23) (v := ?_) (a' := ?_) #[true, true, true, true, true, true, false, false, false, false, false, false, false, false, false, false] rfl rfl (by kernel_rfl) (fun _ _ _ h => hPQ.out _ _ _ _ _ h) (Or.inl ⟨by rfl, ?_⟩) ?_ ?_
 rotate_left
 ·intro w'
  go_simp
  with_reducible rfl
 rotate_left
 ·simp only [Act.put, List.setIfInBounds_toArray, List.set_cons_zero, List.set_cons_succ, i64_w, i32_w]
  rfl
 refine pure_ (i := 6) (N := some 24) (v := ?_) (a' := ?_) #[true, true, true, true, true, true, true, false, false, false, false, false, false, false, false, false] rfl rfl (by kernel_rfl) (fun _ _ _ h => hPQ.out _ _ _ _ _ h) (Or.inl ⟨by rfl, ?_⟩) ?_ ?_
 rotate_left
 ·intro w'
  go_simp
  with_reducible rfl
 rotate_left
 ·simp only [Act.put, List.setIfInBounds_toArray, List.set_cons_zero, List.set_cons_succ, i64_w, i32_w]
  rfl
 refine pure_ (i := 7) (N := some 25) (v := ?_) (a' := ?_) #[true, true, true, true, true, true, true, true, false, false, false, false, false, false, false, false] rfl rfl (by kernel_rfl) (fun _ _ _ h => hPQ.out _ _ _ _ _ h) (Or.inl ⟨by rfl, ?_⟩) ?_ ?_
 rotate_left
 ·intro w'
  refine (exec_indexAddr rfl (iindex (cap := capo) hk)).trans ?_
  with_reducible rfl
 rotate_left
 ·simp only [Act.put, List.setIfInBounds_toArray, List.set_cons_zero, List.set_cons_succ, i64_w, i32_w]
  rfl
 refine pure_ (i := 9) (N := some 27) (v := ?_) (a' := ?_) #[true, true, true, true, true, true, true, true, false, true, false, false, false, false, false, false] rfl rfl (by kernel_rfl) (fun _ _ _ h => hPQ.out _ _ _ _ _ h) (Or.inl ⟨by rfl, ?_⟩) ?_ ?_
 rotate_left
 ·intro w'
  go_simp
  with_reducible rfl
 rotate_left
 ·simp only [Act.put, List.setIfInBounds_toArray, List.set_cons_zero, List.set_cons_succ, i64_w, i32_w]
  rfl
 refine pure_ (i := 10) (N := some 28) (v := ?_) (a' := ?_) #[true, true, true, true, true, true, true, true, false, true, true, false, false, false, false, false] rfl rfl (by kernel_rfl) (fun _ _ _ h => hPQ.out _ _ _ _ _ h) (Or.inl ⟨by rfl, ?_⟩) ?_ ?_
 rotate_left
 ·intro w'
  go_simp
  with_reducible rfl
 rotate_left
 ·simp only [Act.put, List.setIfInBounds_toArray, List.set_cons_zero, List.set_cons_succ, i64_w, i32_w]
  rfl
 refine pure_ (i := 11) (N := some 29) (v := ?_) (a' := ?_) #[true, true, true, true, true, true, true, true, false, true, true, true, false, false, false, false] rfl rfl (by kernel_rfl) (fun _ _ _ h => hPQ.out _ _ _ _ _ h) (Or.inl ⟨by rfl, ?_⟩) ?_ ?_
 rotate_left
 ·intro w'
  refine (exec_indexAddr rfl (s_index (a := a) (cap := cap) hi)).trans ?_
  with_reducible rfl
 rotate_left
 ·simp only [Act.put, List.setIfInBounds_toArray, List.set_cons_zero, List.set_cons_succ, i64_w, i32_w]
  rfl
 refine pure_ (i := 12) (N := some 30) (v := ?_) (a' := ?_) #[true, true, true, true, true, true, true, true, false, true, true, true, true, false, false, false] rfl rfl (by kernel_rfl) (fun _ _ _ h => hPQ.out _ _ _ _ _ h) (Or.inl ⟨by rfl, ?_⟩) ?_ ?_
 rotate_left
 ·intro w'
  go_simp
  with_reducible rfl
 rotate_left
 ·simp only [Act.put, List.setIfInBounds_toArray, List.set_cons_zero, List.set_cons_succ, i64_w, i32_w]
  rfl
 refine take_ (i := 8) (N := some 26) (v := ?_) (a' := ?_) #[true, true, true, true, true, true, true, true, true, true, true, true, true, false, false, false] rfl rfl (by kernel_rfl) (fun _ _ _ h => hPQ.out _ _ _ _ _ h) (Or.inl ⟨by rfl, ?_⟩) hHeld ?_ ?_
 rotate_left
 ·rintro w' ⟨s0, s1⟩
  go_simp
  with_reducible rfl
 rotate_left
 ·simp only [Act.put, List.setIfInBounds_toArray, List.set_cons_zero, List.set_cons_succ, i64_w, i32_w]
  rfl
 refine take_ (i := 13) (N := some 31) (v := ?_) (a' := ?_) #[true, true, true, true, true, true, true, true, true, true, true, true, true, true, false, false] rfl rfl (by kernel_rfl) (fun _ _ _ h => hPQ.out _ _ _ _ _ h) (Or.inl ⟨by rfl, ?_⟩) hHeld ?_ ?_
 rotate_left
 ·rintro w' ⟨s0, s1⟩
  go_simp
  with_reducible rfl
 rotate_left
 ·simp only [Act.put, List.setIfInBounds_toArray, List.set_cons_zero, List.set_cons_succ, i64_w, i32_w]
  rfl
 refine pure_ (i := 14) (N := some 32) (v := ?_) (a' := ?_) #[true, true, true, true, true, true, true, true, true, true, true, true, true, true, true, false] rfl rfl (by kernel_rfl) (fun _ _ _ h => hPQ.out _ _ _ _ _ h) (Or.inl ⟨by rfl, ?_⟩) ?_ ?_
 rotate_left
 ·intro w'
  go_simp
  with_reducible rfl
 rotate_left
 ·simp only [Act.put, List.setIfInBounds_toArray, List.set_cons_zero, List.set_cons_succ, i64_w, i32_w]
  rfl
 refine pure_ (i := 15) (N := some 33) (v := ?_) (a' := ?_) #[true, true, true, true, true, true, true, true, true, true, true, true, true, true, true, true] rfl rfl (by kernel_rfl) (fun _ _ _ h => hPQ.out _ _ _ _ _ h) (Or.inl ⟨by rfl, ?_⟩) ?_ ?_
 rotate_left
 ·intro w'
  go_simp
  with_reducible rfl
 rotate_left
 ·simp only [Act.put, List.setIfInBounds_toArray, List.set_cons_zero, List.set_cons_succ, i64_w, i32_w]
  rfl
 refine done_ (by kernel_rfl) ?_

 exact hcont.out _ _ _ _ _ _ _ _ _ _ _ _ _ _ _
set_option maxRecDepth 100000 in
set_option maxHeartbeats 8000000 in
theorem ru7_end {w : World} {a : Addr} {n cap i NL capo : Nat} {A : Option Addr} {Q : Exit → Act → World → Prop} {c0 c1 c2 c3 c4 c5 c6 c7 c8 c9 c10 body : Code} {z0 z1 z2 : Nat}  {x1 x2 x6 x7 x8 x9 x10 x11 x12 x13 x14 x15 x16 x17 x18 x19 x20 x21 x22 x23 x24 x25 x26 x27 x28 x29 x30 x31 x32 x33 x34 x35 x36 x37 x38 x39 x40 x41 x42 x43 x44 x45 x46 x47 x48 x49 x50 x51 x52 x53 x54 x55 x56 x57 x58 x59 x60 x61 x62 x63 x64 x65 x66 x67 : Value}
  (hB : Tryz.f15.body = some (.seq c0 (.seq c1 (.seq (.seq c2 (.block z0 (.loop (.seq c3 (.seq (.block z1 (.seq c4 (.seq c5 (.seq (.block z2 (.loop (.seq (.seq body c6) c7))) c8)))) c9))))) c10)))) (hPQ : Aside0 (∀ c a d v w, Q (.panic c) (a.put d v) w → Q (.panic c) a w)) (hNL : NL ≤ 100)
  (cont : ∀ (y18 y19 y20 y21 y22 y23 y24 y25 y26 y27 y28 y29 y30 y31 y32 : Value), Q .normal ⟨#[.slice (some a) n cap, x1, x2, .slice A NL capo, .int .i64 i, .int .i64 NL, x6, x7, x8, x9, x10, x11, x12, x13, x14, x15, x16, x17, y18, y19, y20, y21, y22, y23, y24, y25, y26, y27, y28, y29, y30, y31, y32, .bool false, x34, x35, x36, x37, x38, x39, x40, x41, x42, x43, x44, x45, x46, x47, x48, x49, x50, x51, x52, x53, x54, x55, x56, x57, x58, x59, x60, x61, x62, x63, x64, x65, x66, x67], []⟩ w.drew) : Code.wp Tryz.prog body Q ⟨#[.slice (some a) n cap, x1, x2, .slice A NL capo, .int .i64 i, .int .i64 NL, x6, x7, x8, x9, x10, x11, x12, x13, x14, x15, x16, x17, x18, x19, x20, x21, x22, x23, x24, x25, x26, x27, x28, x29, x30, x31, x32, x33, x34, x35, x36, x37, x38, x39, x40, x41, x42, x43, x44, x45, x46, x47, x48, x49, x50, x51, x52, x53, x54, x55, x56, x57, x58, x59, x60, x61, x62, x63, x64, x65, x66, x67], []⟩ w := by
 have hbody := ru7_body rfl hB
 clear hB
 subst hbody
 have hcont := Aside0.mk cont
 clear cont
 have hb0 : decide ((NL : Int) < (NL : Int)) = false := decide_eq_false (by omega)
 have hb1 : decide (NL < NL) = false := decide_eq_false (by omega)
 refine start_ (n := 16) (S := fun w' => True) (ds := []) #[false, false, false, false, false, false, false, false, false, false, false, false, false, false, false, false] (by kernel_rfl) rfl rfl trivial (fun hHeld => ?_)
 refine pure_ (i := 0) (N := some 18) (v := ?_) (a' := ?_) #[true, false, false, false, false, false, false, false, false, false, false, false, false, false, false, false] rfl rfl (by kernel_rfl) (fun _ _ _ h => hPQ.out _ _ _ _ _ h) (Or.inl ⟨by rfl, ?_⟩) ?_ ?_
 rotate_left
 ·intro w'
  go_simp
  with_reducible rfl
 rotate_left
 ·simp only [Act.put, List.setIfInBounds_toArray, List.set_cons_zero, List.set_cons_succ, i64_w, i32_w]
  rfl
 refine pure_ (i := 1) (N := some 19) (v := ?_) (a' := ?_) #[true, true, false, false, false, false, false, false, false, false, false, false, false, false, false, false] rfl rfl (by kernel_rfl) (fun _ _ _ h => hPQ.out _ _ _ _ _ h) (Or.inl ⟨by rfl, ?_⟩) ?_ ?_
 rotate_left
 ·intro w'
  go_simp
  with_reducible rfl
 rotate_left
 ·simp only [Act.put, List.setIfInBounds_toArray, List.set_cons_zero, List.set_cons_succ, i64_w, i32_w]
  rfl
 refine pure_ (i := 2) (N := some 20) (v := ?_) (a' := ?_) #[true, true, true, false, false, false, false, false, false, false, false, false, false, false, false, false] rfl rfl (by kernel_rfl) (fun _ _ _ h => hPQ.out _ _ _ _ _ h) (Or.inl ⟨by rfl, ?_⟩) ?_ ?_
 rotate_left
 ·intro w'
  go_simp
  with_reducible rfl
 rotate_left
 ·simp only [Act.put, List.setIfInBounds_toArray, List.set_cons_zero, List.set_cons_succ, i64_w, i32_w]
  rfl
 refine pure_ (i := 3) (N := some 21) (v := ?_) (a' := ?_) #[true, true, true, true, false, false, false, false, false, false, false, false, false, false, false, false] rfl rfl (by kernel_rfl) (fun _ _ _ h => hPQ.out _ _ _ _ _ h) (Or.inl ⟨by rfl, ?_⟩) ?_ ?_
 rotate_left
 ·intro w'
  go_simp
  with_reducible rfl
 rotate_left
 ·simp only [Act.put, List.setIfInBounds_toArray, List.set_cons_zero, List.set_cons_succ, i64_w, i32_w]
  rfl
 refine pure_ (i := 4) (N := some 22) (v := ?_) (a' := ?_) #[true, true, true, true, true, false, false, false, false, false, false, false, false, false, false, false] rfl rfl (by kernel_rfl) (fun _ _ _ h => hPQ.out _ _ _ _ _ h) (Or.inl ⟨by rfl, ?_⟩) ?_ ?_
 rotate_left
 ·intro w'
  go_simp
  with_reducible rfl
 rotate_left
 ·simp only [Act.put, List.setIfInBounds_toArray, List.set_cons_zero, List.set_cons_succ, i64_w, i32_w]
  rfl
 refine pure_ (i := 5) (N := some 23) (v := undef) (a' := ?_) #[true, true, true, true, true, true, false, false, false, false, false, false, false, false, false, false] rfl rfl (by kernel_rfl) (fun _ _ _ h => hPQ.out _ _ _ _ _ h) (Or.inr ⟨by rfl, rfl⟩) ?_ ?_
 rotate_left
 ·simp only [Act.put, List.setIfInBounds_toArray, List.set_cons_zero, List.set_cons_succ, i64_w, i32_w]
  rfl
 refine pure_ (i := 6) (N := some 24) (v := undef) (a' := ?_) #[true, true, true, true, true, true, true, false, false, false, false, false, false, false, false, false] rfl rfl (by kernel_rfl) (fun _ _ _ h => hPQ.out _ _ _ _ _ h) (Or.inr ⟨by rfl, rfl⟩) ?_ ?_
 rotate_left
 ·simp only [Act.put, List.setIfInBounds_toArray, List.set_cons_zero, List.set_cons_succ, i64_w, i32_w]
  rfl
 refine pure_ (i := 7) (N := some 25) (v := undef) (a' := ?_) #[true, true, true, true, true, true, true, true, false, false, false, false, false, false, false, false] rfl rfl (by kernel_rfl) (fun _ _ _ h => hPQ.out _ _ _ _ _ h) (Or.inr ⟨by rfl, rfl⟩) ?_ ?_
 rotate_left
 ·simp only [Act.put, List.setIfInBounds_toArray, List.set_cons_zero, List.set_cons_succ, i64_w, i32_w]
  rfl
 refine pure_ (i := 8) (N := some 26) (v := undef) (a' := ?_) #[true, true, true, true, true, true, true, true, true, false, false, false, false, false, false, false] rfl rfl (by kernel_rfl) (fun _ _ _ h => hPQ.out _ _ _ _ _ h) (Or.inr ⟨by rfl, rfl⟩) ?_ ?_
 rotate_left
 ·simp only [Act.put, List.setIfInBounds_toArray, List.set_cons_zero, List.set_cons_succ, i64_w, i32_w]
  rfl
 refine pure_ (i := 9) (N := some 27) (v := undef) (a' := ?_) #[true, true, true, true, true, true, true, true, true, true, false, false, false, false, false, false] rfl rfl (by kernel_rfl) (fun _ _ _ h => hPQ.out _ _ _ _ _ h) (Or.inr ⟨by rfl, rfl⟩) ?_ ?_
 rotate_left
 ·simp only [Act.put, List.setIfInBounds_toArray, List.set_cons_zero, List.set_cons_succ, i64_w, i32_w]
  rfl
 refine pure_ (i := 10) (N := some 28) (v := undef) (a' := ?_) #[true, true, true, true, true, true, true, true, true, true, true, false, false, false, false, false] rfl rfl (by kernel_rfl) (fun _ _ _ h => hPQ.out _ _ _ _ _ h) (Or.inr ⟨by rfl, rfl⟩) ?_ ?_
 rotate_left
 ·simp only [Act.put, List.setIfInBounds_toArray, List.set_cons_zero, List.set_cons_succ, i64_w, i32_w]
  rfl
 refine pure_ (i := 11) (N := some 29) (v := undef) (a' := ?_) #[true, true, true, true, true, true, true, true, true, true, true, true, false, false, false, false] rfl rfl (by kernel_rfl) (fun _ _ _ h => hPQ.out _ _ _ _ _ h) (Or.inr ⟨by rfl, rfl⟩) ?_ ?_
 rotate_left
 ·simp only [Act.put, List.setIfInBounds_toArray, List.set_cons_zero, List.set_cons_succ, i64_w, i32_w]
  rfl
 refine pure_ (i := 12) (N := some 30) (v := undef) (a' := ?_) #[true, true, true, true, true, true, true, true, true, true, true, true, true, false, false, false] rfl rfl (by kernel_rfl) (fun _ _ _ h => hPQ.out _ _ _ _ _ h) (Or.inr ⟨by rfl, rfl⟩) ?_ ?_
 rotate_left
 ·simp only [Act.put, List.setIfInBounds_toArray, List.set_cons_zero, List.set_cons_succ, i64_w, i32_w]
  rfl
 refine pure_ (i := 13) (N := some 31) (v := undef) (a' := ?_) #[true, true, true, true, true, true, true, true, true, true, true, true, true, true, false, false] rfl rfl (by kernel_rfl) (fun _ _ _ h => hPQ.out _ _ _ _ _ h) (Or.inr ⟨by rfl, rfl⟩) ?_ ?_
 rotate_left
 ·simp only [Act.put, List.setIfInBounds_toArray, List.set_cons_zero, List.set_cons_succ, i64_w, i32_w]
  rfl
 refine pure_ (i := 14) (N := some 32) (v := undef) (a' := ?_) #[true, true, true, true, true, true, true, true, true, true, true, true, true, true, true, false] rfl rfl (by kernel_rfl) (fun _ _ _ h => hPQ.out _ _ _ _ _ h) (Or.inr ⟨by rfl, rfl⟩) ?_ ?_
 rotate_left
 ·simp only [Act.put, List.setIfInBounds_toArray, List.set_cons_zero, List.set_cons_succ, i64_w, i32_w]
  rfl
 refine pure_ (i := 15) (N := some 33) (v := ?_) (a' := ?_) #[true, true, true, true, true, true, true, true, true, true, true, true, true, true, true, true] rfl rfl (by kernel_rfl) (fun _ _ _ h => hPQ.out _ _ _ _ _ h) (Or.inl ⟨by rfl, ?_⟩) ?_ ?_
 rotate_left
 ·intro w'
  go_simp
  with_reducible rfl
 rotate_left
 ·simp only [Act.put, List.setIfInBounds_toArray, List.set_cons_zero, List.set_cons_succ, i64_w, i32_w]
  rfl
 refine done_ (by kernel_rfl) ?_

 exact hcont.out _ _ _ _ _ _ _ _ _ _ _ _ _ _ _
set_option maxRecDepth 100000 in
set_option maxHeartbeats 8000000 in
theorem ru9_new {w : World} {a : Addr} {n cap i k NL capo g : Nat} {z x : Int} {Q : Exit → Act → World → Prop} {c0 c1 c2 c3 c4 c5 c6 c7 c8 c9 body : Code} {z0 z1 : Nat}  {x1 x2 x6 x7 x8 x9 x10 x11 x12 x13 x14 x15 x16 x17 x18 x19 x20 x21 x22 x23 x24 x25 x26 x27 x28 x29 x30 x31 x32 x33 x34 x35 x36 x37 x38 x39 x40 x41 x42 x43 x44 x45 x46 x47 x48 x49 x50 x51 x52 x53 x54 x55 x56 x57 x58 x59 x60 x61 x62 x63 x64 x65 x66 x67 : Value}
  (hB : Tryz.f15.body = some (.seq c0 (.seq c1 (.seq (.seq c2 (.block z0 (.loop (.seq c3 (.seq (.block z1 (.seq c4 (.seq c5 (.seq c6 (.seq body c7))))) c8))))) c9)))) (hPQ : Aside0 (∀ c a d v w, Q (.panic c) (a.put d v) w → Q (.panic c) a w)) (cg : Aside0 (w.cell? ⟨g, k, none⟩ = some (.int .i64 z))) (ct : Aside0 (w.cell? ⟨(a.add (i * 2)).block, (a.add (i * 2)).off + 1, none⟩ = some (.int .i64 x))) (hi : i < n) (hn : n ≤ 100) (hk : k < NL) (hNL : NL ≤ 100) (hz : z ≠ x)
  (cont : ∀ (y36 y37 y38 y39 y40 y41 y42 y43 y44 y45 y46 y47 y48 y49 y50 : Value), Q .normal ⟨#[.slice (some a) n cap, x1, x2, .slice (some ⟨g, 0, none⟩) NL capo, .int .i64 i, .int .i64 k, x6, x7, x8, x9, x10, x11, x12, x13, x14, x15, x16, x17, x18, x19, x20, x21, x22, x23, x24, x25, x26, x27, x28, x29, x30, x31, x32, x33, x34, x35, y36, y37, y38, y39, y40, y41, y42, y43, y44, y45, y46, y47, y48, y49, y50, .bool true, x52, x53, x54, x55, x56, x57, x58, x59, x60, x61, x62, x63, x64, x65, x66, x67], []⟩ w.drew) : Code.wp Tryz.prog body Q ⟨#[.slice (some a) n cap, x1, x2, .slice (some ⟨g, 0, none⟩) NL capo, .int .i64 i, .int .i64 k, x6, x7, x8, x9, x10, x11, x12, x13, x14, x15, x16, x17, x18, x19, x20, x21, x22, x23, x24, x25, x26, x27, x28, x29, x30, x31, x32, x33, x34, x35, x36, x37, x38, x39, x40, x41, x42, x43, x44, x45, x46, x47, x48, x49, x50, x51, x52, x53, x54, x55, x56, x57, x58, x59, x60, x61, x62, x63, x64, x65, x66, x67], []⟩ w := by
 have hbody := ru9_body rfl hB
 clear hB
 subst hbody
 have hcont := Aside0.mk cont
 clear cont
 have hb0 : ((k : Int) == (NL : Int)) = false := by rw [beq_eq_false_iff_ne]; omega
 have hb1 : (k == NL) = false := by rw [beq_eq_false_iff_ne]; omega
 have hb2 : (z == x) = false := beq_eq_false_iff_ne.2 hz
 have hb3 : (z != x) = true := bne_iff_ne.2 hz
 clear hz
 refine start_ (n := 16) (S := fun w' => w'.cell? ⟨g, k, none⟩ = some (.int .i64 z) ∧ w'.cell? ⟨(a.add (i * 2)).block, (a.add (i * 2)).off + 1, none⟩ = some (.int .i64 x)) (ds := []) #[false, false, false, false, false, false, false, false, false, false, false, false, false, false, false, false] (by kernel_rfl) rfl rfl ⟨cg.out, ct.out⟩ (fun hHeld => ?_)
 refine pure_ (i := 0) (N := some 36) (v := ?_) (a' := ?_) #[true, false, false, false, false, false, false, false, false, false, false, false, false, false, false, false] rfl rfl (by kernel_rfl) (fun _ _ _ h => hPQ.out _ _ _ _ _ h) (Or.inl ⟨by rfl, ?_⟩) ?_ ?_
 rotate_left
 ·intro w'
  go_simp
  with_reducible rfl
 rotate_left
 ·simp only [Act.put, List.setIfInBounds_toArray, List.set_cons_zero, List.set_cons_succ, i64_w, i32_w]
  rfl
 refine pure_ (i := 1) (N := some 37) (v := ?_) (a' := ?_) #[true, true, false, false, false, false, false, false, false, false, false, false, false, false, false, false] rfl rfl (by kernel_rfl) (fun _ _ _ h => hPQ.out _ _ _ _ _ h) (Or.inl ⟨by rfl, ?_⟩) ?_ ?_
 rotate_left
 ·intro w'
  go_simp
  with_reducible rfl
 rotate_left
 ·simp only [Act.put, List.setIfInBounds_toArray, List.set_cons_zero, List.set_cons_succ, i64_w, i32_w]
  rfl
 refine pure_ (i := 2) (N := some 38) (v := ?_) (a' := ?_) #[true, true, true, false, false, false, false, false, false, false, false, false, false, false, false, false] rfl rfl (by kernel_rfl) (fun _ _ _ h => hPQ.out _ _ _ _ _ h) (Or.inl ⟨by rfl, ?_⟩) ?_ ?_
 rotate_left
 ·intro w'
  go_simp
  with_reducible rfl
 rotate_left
 ·simp only [Act.put, List.setIfInBounds_toArray, List.set_cons_zero, List.set_cons_succ, i64_w, i32_w]
  rfl
 refine pure_ (i := 3) (N := some 39) (v := ?_) (a' := ?_) #[true, true, true, true, false, false, false, false, false, false, false, false, false, false, false, false] rfl rfl (by kernel_rfl) (fun _ _ _ h => hPQ.out _ _ _ _ _ h) (Or.inl ⟨by rfl, ?_⟩) ?_ ?_
 rotate_left
 ·intro w'
  go_simp
  with_reducible rfl
 rotate_left
 ·simp only [Act.put, List.setIfInBounds_toArray, List.set_cons_zero, List.set_cons_succ, i64_w, i32_w]
  rfl
 refine pure_ (i := 4) (N := some 40) (v := ?_) (a' := ?_) #[true, true, true, true, true, false, false, false, false, false, false, false, false, false, false, false] rfl rfl (by kernel_rfl) (fun _ _ _ h => hPQ.out _ _ _ _ _ h) (Or.inl ⟨by rfl, ?_⟩) ?_ ?_
 rotate_left
 ·intro w'
  go_simp
  with_reducible rfl
 rotate_left
 ·simp only [Act.put, List.setIfInBounds_toArray, List.set_cons_zero, List.set_cons_succ, i64_w, i32_w]
  rfl
 refine pure_ (i := 5) (N := some 41) (v := ?_) (a' := ?_) #[true, true, true, true, true, true, false, false, false, false, false, false, false, false, false, false] rfl rfl (by kernel_rfl) (fun _ _ _ h => hPQ.out _ _ _ _ _ h) (Or.inl ⟨by rfl, ?_⟩) ?_ ?_
 rotate_left
 ·intro w'
  go_simp
  with_reducible rfl
 rotate_left
 ·simp only [Act.put, List.setIfInBounds_toArray, List.set_cons_zero, List.set_cons_succ, i64_w, i32_w]
  rfl
 refine pure_ (i := 6) (N := some 42) (v := ?_) (a' := ?_) #[true, true, true, true, true, true, true, false, false, false, false, false, false, false, false, false] rfl rfl (by kernel_rfl) (fun _ _ _ h => hPQ.out _ _ _ _ _ h) (Or.inl ⟨by rfl, ?_⟩) ?_ ?_
 rotate_left
 ·intro w'
  go_simp
  with_reducible rfl
 rotate_left
 ·simp only [Act.put, List.setIfInBounds_toArray, List.set_cons_zero, List.set_cons_succ, i64_w, i32_w]
  rfl
 refine pure_ (i := 7) (N := some 43) (v := ?_) (a' := ?_) #[true, true, true, true, true, true, true, true, false, false, false, false, false, false, false, false] rfl rfl (by kernel_rfl) (fun _ _ _ h => hPQ.out _ _ _ _ _ h) (Or.inl ⟨by rfl, ?_⟩) ?_ ?_
 rotate_left
 ·intro w'
  refine (exec_indexAddr rfl (iindex (cap := capo) hk)).trans ?_
  with_reducible rfl
 rotate_left
 ·simp only [Act.put, List.setIfInBounds_toArray, List.set_cons_zero, List.set_cons_succ, i64_w, i32_w]
  rfl
 refine pure_ (i := 9) (N := some 45) (v := ?_) (a' := ?_) #[true, true, true, true, true, true, true, true, false, true, false, false, false, false, false, false] rfl rfl (by kernel_rfl) (fun _ _ _ h => hPQ.out _ _ _ _ _ h) (Or.inl ⟨by rfl, ?_⟩) ?_ ?_
 rotate_left
 ·intro w'
  go_simp
  with_reducible rfl
 rotate_left
 ·simp only [Act.put, List.setIfInBounds_toArray, List.set_cons_zero, List.set_cons_succ, i64_w, i32_w]
  rfl
 refine pure_ (i := 10) (N := some 46) (v := ?_) (a' := ?_) #[true, true, true, true, true, true, true, true, false, true, true, false, false, false, false, false] rfl rfl (by kernel_rfl) (fun _ _ _ h => hPQ.out _ _ _ _ _ h) (Or.inl ⟨by rfl, ?_⟩) ?_ ?_
 rotate_left
 ·intro w'
  go_simp
  with_reducible rfl
 rotate_left
 ·simp only [Act.put, List.setIfInBounds_toArray, List.set_cons_zero, List.set_cons_succ, i64_w, i32_w]
  rfl
 refine pure_ (i := 11) (N := some 47) (v := ?_) (a' := ?_) #[true, true, true, true, true, true, true, true, false, true, true, true, false, false, false, false] rfl rfl (by kernel_rfl) (fun _ _ _ h => hPQ.out _ _ _ _ _ h) (Or.inl ⟨by rfl, ?_⟩) ?_ ?_
 rotate_left
 ·intro w'
  refine (exec_indexAddr rfl (s_index (a := a) (cap := cap) hi)).trans ?_
  with_reducible rfl
 rotate_left
 ·simp only [Act.put, List.setIfInBounds_toArray, List.set_cons_zero, List.set_cons_succ, i64_w, i32_w]
  rfl
 refine pure_ (i := 12) (N := some 48) (v := ?_) (a' := ?_) #[true, true, true, true, true, true, true, true, false, true, true, true, true, false, false, false] rfl rfl (by kernel_rfl) (fun _ _ _ h => hPQ.out _ _ _ _ _ h) (Or.inl ⟨by rfl, ?_⟩) ?_ ?_
 rotate_left
 ·intro w'
  go_simp
  with_reducible rfl
 rotate_left
 ·simp only [Act.put, List.setIfInBounds_toArray, List.set_cons_zero, List.set_cons_succ, i64_w, i32_w]
  rfl
 refine take_ (i := 8) (N := some 44) (v := ?_) (a' := ?_) #[true, true, true, true, true, true, true, true, true, true, true, true, true, false, false, false] rfl rfl (by kernel_rfl) (fun _ _ _ h => hPQ.out _ _ _ _ _ h) (Or.inl ⟨by rfl, ?_⟩) hHeld ?_ ?_
 rotate_left
 ·rintro w' ⟨s0, s1⟩
  go_simp
  with_reducible rfl
 rotate_left
 ·simp only [Act.put, List.setIfInBounds_toArray, List.set_cons_zero, List.set_cons_succ, i64_w, i32_w]
  rfl
 refine take_ (i := 13) (N := some 49) (v := ?_) (a' := ?_) #[true, true, true, true, true, true, true, true, true, true, true, true, true, true, false, false] rfl rfl (by kernel_rfl) (fun _ _ _ h => hPQ.out _ _ _ _ _ h) (Or.inl ⟨by rfl, ?_⟩) hHeld ?_ ?_
 rotate_left
 ·rintro w' ⟨s0, s1⟩
  go_simp
  with_reducible rfl
 rotate_left
 ·simp only [Act.put, List.setIfInBounds_toArray, List.set_cons_zero, List.set_cons_succ, i64_w, i32_w]
  rfl
 refine pure_ (i := 14) (N := some 50) (v := ?_) (a' := ?_) #[true, true, true, true, true, true, true, true, true, true, true, true, true, true, true, false] rfl rfl (by kernel_rfl) (fun _ _ _ h => hPQ.out _ _ _ _ _ h) (Or.inl ⟨by rfl, ?_⟩) ?_ ?_
 rotate_left
 ·intro w'
  go_simp
  with_reducible rfl
 rotate_left
 ·simp only [Act.put, List.setIfInBounds_toArray, List.set_cons_zero, List.set_cons_succ, i64_w, i32_w]
  rfl
 refine pure_ (i := 15) (N := some 51) (v := ?_) (a' := ?_) #[true, true, true, true, true, true, true, true, true, true, true, true, true, true, true, true] rfl rfl (by kernel_rfl) (fun _ _ _ h => hPQ.out _ _ _ _ _ h) (Or.inl ⟨by rfl, ?_⟩) ?_ ?_
 rotate_left
 ·intro w'
  go_simp
  with_reducible rfl
 rotate_left
 ·simp only [Act.put, List.setIfInBounds_toArray, List.set_cons_zero, List.set_cons_succ, i64_w, i32_w]
  rfl
 refine done_ (by kernel_rfl) ?_

 exact hcont.out _ _ _ _ _ _ _ _ _ _ _ _ _ _ _
set_option maxRecDepth 100000 in
set_option maxHeartbeats 8000000 in
theorem ru9_had {w : World} {a : Addr} {n cap i k NL capo g : Nat} {z x : Int} {Q : Exit → Act → World → Prop} {c0 c1 c2 c3 c4 c5 c6 c7 c8 c9 body : Code} {z0 z1 : Nat}  {x1 x2 x6 x7 x8 x9 x10 x11 x12 x13 x14 x15 x16 x17 x18 x19 x20 x21 x22 x23 x24 x25 x26 x27 x28 x29 x30 x31 x32 x33 x34 x35 x36 x37 x38 x39 x40 x41 x42 x43 x44 x45 x46 x47 x48 x49 x50 x51 x52 x53 x54 x55 x56 x57 x58 x59 x60 x61 x62 x63 x64 x65 x66 x67 : Value}
  (hB : Tryz.f15.body = some (.seq c0 (.seq c1 (.seq (.seq c2 (.block z0 (.loop (.seq c3 (.seq (.block z1 (.seq c4 (.seq c5 (.seq c6 (.seq body c7))))) c8))))) c9)))) (hPQ : Aside0 (∀ c a d v w, Q (.panic c) (a.put d v) w → Q (.panic c) a w)) (cg : Aside0 (w.cell? ⟨g, k, none⟩ = some (.int .i64 z))) (ct : Aside0 (w.cell? ⟨(a.add (i * 2)).block, (a.add (i * 2)).off + 1, none⟩ = some (.int .i64 x))) (hi : i < n) (hn : n ≤ 100) (hk : k < NL) (hNL : NL ≤ 100) (hz : z = x)
  (cont : ∀ (y36 y37 y38 y39 y40 y41 y42 y43 y44 y45 y46 y47 y48 y49 y50 : Value), Q .normal ⟨#[.slice (some a) n cap, x1, x2, .slice (some ⟨g, 0, none⟩) NL capo, .int .i64 i, .int .i64 k, x6, x7, x8, x9, x10, x11, x12, x13, x14, x15, x16, x17, x18, x19, x20, x21, x22, x23, x24, x25, x26, x27, x28, x29, x30, x31, x32, x33, x34, x35, y36, y37, y38, y39, y40, y41, y42, y43, y44, y45, y46, y47, y48, y49, y50, .bool false, x52, x53, x54, x55, x56, x57, x58, x59, x60, x61, x62, x63, x64, x65, x66, x67], []⟩ w.drew) : Code.wp Tryz.prog body Q ⟨#[.slice (some a) n cap, x1, x2, .slice (some ⟨g, 0, none⟩) NL capo, .int .i64 i, .int .i64 k, x6, x7, x8, x9, x10, x11, x12, x13, x14, x15, x16, x17, x18, x19, x20, x21, x22, x23, x24, x25, x26, x27, x28, x29, x30, x31, x32, x33, x34, x35, x36, x37, x38, x39, x40, x41, x42, x43, x44, x45, x46, x47, x48, x49, x50, x51, x52, x53, x54, x55, x56, x57, x58, x59, x60, x61, x62, x63, x64, x65, x66, x67], []⟩ w := by
 have hbody := ru9_body rfl hB
 clear hB
 subst hbody
 have hcont := Aside0.mk cont
 clear cont
 have hb0 : ((k : Int) == (NL : Int)) = false := by rw [beq_eq_false_iff_ne]; omega
 have hb1 : (k == NL) = false := by rw [beq_eq_false_iff_ne]; omega
 have hb2 : (z == x) = true := beq_iff_eq.2 hz
 have hb3 : (z != x) = false := bne_eq_false_iff_eq.2 hz
 clear hz
 refine start_ (n := 16) (S := fun w' => w'.cell? ⟨g, k, none⟩ = some (.int .i64 z) ∧ w'.cell? ⟨(a.add (i * 2)).block, (a.add (i * 2)).off + 1, none⟩ = some (.int .i64 x)) (ds := []) #[false, false, false, false, false, false, false, false, false, false, false, false, false, false, false, false] (by kernel_rfl) rfl rfl ⟨cg.out, ct.out⟩ (fun hHeld => ?_)
 refine pure_ (i := 0) (N := some 36) (v := ?_) (a' := ?_) #[true, false, false, false, false, false, false, false, false, false, false, false, false, false, false, false] rfl rfl (by kernel_rfl) (fun _ _ _ h => hPQ.out _ _ _ _ _ h) (Or.inl ⟨by rfl, ?_⟩) ?_ ?_
 rotate_left
 ·intro w'
  go_simp
  with_reducible rfl
 rotate_left
 ·simp only [Act.put, List.setIfInBounds_toArray, List.set_cons_zero, List.set_cons_succ, i64_w, i32_w]
  rfl
 refine pure_ (i := 1) (N := some 37) (v := ?_) (a' := ?_) #[true, true, false, false, false, false, false, false, false, false, false, false, false, false, false, false] rfl rfl (by kernel_rfl) (fun _ _ _ h => hPQ.out _ _ _ _ _ h) (Or.inl ⟨by rfl, ?_⟩) ?_ ?_
 rotate_left
 ·intro w'
  go_simp
  with_reducible rfl
 rotate_left
 ·simp only [Act.put, List.setIfInBounds_toArray, List.set_cons_zero, List.set_cons_succ, i64_w, i32_w]
  rfl
 refine pure_ (i := 2) (N := some 38) (v := ?_) (a' := ?_) #[true, true, true, false, false, false, false, false, false, false, false, false, false, false, false, false] rfl rfl (by kernel_rfl) (fun _ _ _ h => hPQ.out _ _ _ _ _ h) (Or.inl ⟨by rfl, ?_⟩) ?_ ?_
 rotate_left
 ·intro w'
  go_simp
  with_reducible rfl
 rotate_left
 ·simp only [Act.put, List.setIfInBounds_toArray, List.set_cons_zero, List.set_cons_succ, i64_w, i32_w]
  rfl
 refine pure_ (i := 3) (N := some 39) (v := ?_) (a' := ?_) #[true, true, true, true, false, false, false, false, false, false, false, false, false, false, false, false] rfl rfl (by kernel_rfl) (fun _ _ _ h => hPQ.out _ _ _ _ _ h) (Or.inl ⟨by rfl, ?_⟩) ?_ ?_
 rotate_left
 ·intro w'
  go_simp
  with_reducible rfl
 rotate_left
 ·simp only [Act.put, List.setIfInBounds_toArray, List.set_cons_zero, List.set_cons_succ, i64_w, i32_w]
  rfl
 refine pure_ (i := 4) (N := some 40) (v := ?_) (a' := ?_) #[true, true, true, true, true, false, false, false, false, false, false, false, false, false, false, false] rfl rfl (by kernel_rfl) (fun _ _ _ h => hPQ.out _ _ _ _ _ h) (Or.inl ⟨by rfl, ?_⟩) ?_ ?_
 rotate_left
 ·intro w'
  go_simp
  with_reducible rfl
 rotate_left
 ·simp only [Act.put, List.setIfInBounds_toArray, List.set_cons_zero, List.set_cons_succ, i64_w, i32_w]
  rfl
 refine pure_ (i := 5) (N := some 41) (v := ?_) (a' := ?_) #[true, true, true, true, true, true, false, false, false, false, false, false, false, false, false, false] rfl rfl (by kernel_rfl) (fun _ _ _ h => hPQ.out _ _ _ _ _ h) (Or.inl ⟨by rfl, ?_⟩) ?_ ?_
 rotate_left
 ·intro w'
  go_simp
  with_reducible rfl
 rotate_left
 ·simp only [Act.put, List.setIfInBounds_toArray, List.set_cons_zero, List.set_cons_succ, i64_w, i32_w]
  rfl
 refine pure_ (i := 6) (N := some 42) (v := ?_) (a' := ?_) #[true, true, true, true, true, true, true, false, false, false, false, false, false, false, false, false] rfl rfl (by kernel_rfl) (fun _ _ _ h => hPQ.out _ _ _ _ _ h) (Or.inl ⟨by rfl, ?_⟩) ?_ ?_
 rotate_left
 ·intro w'
  go_simp
  with_reducible rfl
 rotate_left
 ·simp only [Act.put, List.setIfInBounds_toArray, List.set_cons_zero, List.set_cons_succ, i64_w, i32_w]
  rfl
 refine pure_ (i := 7) (N := some 43) (v := ?_) (a' := ?_) #[true, true, true, true, true, true, true, true, false, false, false, false, false, false, false, false] rfl rfl (by kernel_rfl) (fun _ _ _ h => hPQ.out _ _ _ _ _ h) (Or.inl ⟨by rfl, ?_⟩) ?_ ?_
 rotate_left
 ·intro w'
  refine (exec_indexAddr rfl (iindex (cap := capo) hk)).trans ?_
  with_reducible rfl
 rotate_left
 ·simp only [Act.put, List.setIfInBounds_toArray, List.set_cons_zero, List.set_cons_succ, i64_w, i32_w]
  rfl
 refine pure_ (i := 9) (N := some 45) (v := ?_) (a' := ?_) #[true, true, true, true, true, true, true, true, false, true, false, false, false, false, false, false] rfl rfl (by kernel_rfl) (fun _ _ _ h => hPQ.out _ _ _ _ _ h) (Or.inl ⟨by rfl, ?_⟩) ?_ ?_
 rotate_left
 ·intro w'
  go_simp
  with_reducible rfl
 rotate_left
 ·simp only [Act.put, List.setIfInBounds_toArray, List.set_cons_zero, List.set_cons_succ, i64_w, i32_w]
  rfl
 refine pure_ (i := 10) (N := some 46) (v := ?_) (a' := ?_) #[true, true, true, true, true, true, true, true, false, true, true, false, false, false, false, false] rfl rfl (by kernel_rfl) (fun _ _ _ h => hPQ.out _ _ _ _ _ h) (Or.inl ⟨by rfl, ?_⟩) ?_ ?_
 rotate_left
 ·intro w'
  go_simp
  with_reducible rfl
 rotate_left
 ·simp only [Act.put, List.setIfInBounds_toArray, List.set_cons_zero, List.set_cons_succ, i64_w, i32_w]
  rfl
 refine pure_ (i := 11) (N := some 47) (v := ?_) (a' := ?_) #[true, true, true, true, true, true, true, true, false, true, true, true, false, false, false, false] rfl rfl (by kernel_rfl) (fun _ _ _ h => hPQ.out _ _ _ _ _ h) (Or.inl ⟨by rfl, ?_⟩) ?_ ?_
 rotate_left
 ·intro w'
  refine (exec_indexAddr rfl (s_index (a := a) (cap := cap) hi)).trans ?_
  with_reducible rfl
 rotate_left
 ·simp only [Act.put, List.setIfInBounds_toArray, List.set_cons_zero, List.set_cons_succ, i64_w, i32_w]
  rfl
 refine pure_ (i := 12) (N := some 48) (v := ?_) (a' := ?_) #[true, true, true, true, true, true, true, true, false, true, true, true, true, false, false, false] rfl rfl (by kernel_rfl) (fun _ _ _ h => hPQ.out _ _ _ _ _ h) (Or.inl ⟨by rfl, ?_⟩) ?_ ?_
 rotate_left
 ·intro w'
  go_simp
  with_reducible rfl
 rotate_left
 ·simp only [Act.put, List.setIfInBounds_toArray, List.set_cons_zero, List.set_cons_succ, i64_w, i32_w]
  rfl
 refine take_ (i := 8) (N := some 44) (v := ?_) (a' := ?_) #[true, true, true, true, true, true, true, true, true, true, true, true, true, false, false, false] rfl rfl (by kernel_rfl) (fun _ _ _ h => hPQ.out _ _ _ _ _ h) (Or.inl ⟨by rfl, ?_⟩) hHeld ?_ ?_
 rotate_left
 ·rintro w' ⟨s0, s1⟩
  go_simp
  with_reducible rfl
 rotate_left
 ·simp only [Act.put, List.setIfInBounds_toArray, List.set_cons_zero, List.set_cons_succ, i64_w, i32_w]
  rfl
 refine take_ (i := 13) (N := some 49) (v := ?_) (a' := ?_) #[true, true, true, true, true, true, true, true, true, true, true, true, true, true, false, false] rfl rfl (by kernel_rfl) (fun _ _ _ h => hPQ.out _ _ _ _ _ h) (Or.inl ⟨by rfl, ?_⟩) hHeld ?_ ?_
 rotate_left
 ·rintro w' ⟨s0, s1⟩
  go_simp
  with_reducible rfl
 rotate_left
 ·simp only [Act.put, List.setIfInBounds_toArray, List.set_cons_zero, List.set_cons_succ, i64_w, i32_w]
  rfl
 refine pure_ (i := 14) (N := some 50) (v := ?_) (a' := ?_) #[true, true, true, true, true, true, true, true, true, true, true, true, true, true, true, false] rfl rfl (by kernel_rfl) (fun _ _ _ h => hPQ.out _ _ _ _ _ h) (Or.inl ⟨by rfl, ?_⟩) ?_ ?_
 rotate_left
 ·intro w'
  go_simp
  with_reducible rfl
 rotate_left
 ·simp only [Act.put, List.setIfInBounds_toArray, List.set_cons_zero, List.set_cons_succ, i64_w, i32_w]
  rfl
 refine pure_ (i := 15) (N := some 51) (v := ?_) (a' := ?_) #[true, true, true, true, true, true, true, true, true, true, true, true, true, true, true, true] rfl rfl (by kernel_rfl) (fun _ _ _ h => hPQ.out _ _ _ _ _ h) (Or.inl ⟨by rfl, ?_⟩) ?_ ?_
 rotate_left
 ·intro w'
  go_simp
  with_reducible rfl
 rotate_left
 ·simp only [Act.put, List.setIfInBounds_toArray, List.set_cons_zero, List.set_cons_succ, i64_w, i32_w]
  rfl
 refine done_ (by kernel_rfl) ?_

 exact hcont.out _ _ _ _ _ _ _ _ _ _ _ _ _ _ _
set_option maxRecDepth 100000 in
set_option maxHeartbeats 8000000 in
theorem ru9_end {w : World} {a : Addr} {n cap i NL capo : Nat} {A : Option Addr} {Q : Exit → Act → World → Prop} {c0 c1 c2 c3 c4 c5 c6 c7 c8 c9 body : Code} {z0 z1 : Nat}  {x1 x2 x6 x7 x8 x9 x10 x11 x12 x13 x14 x15 x16 x17 x18 x19 x20 x21 x22 x23 x24 x25 x26 x27 x28 x29 x30 x31 x32 x33 x34 x35 x36 x37 x38 x39 x40 x41 x42 x43 x44 x45 x46 x47 x48 x49 x50 x51 x52 x53 x54 x55 x56 x57 x58 x59 x60 x61 x62 x63 x64 x65 x66 x67 : Value}
  (hB : Tryz.f15.body = some (.seq c0 (.seq c1 (.seq (.seq c2 (.block z0 (.loop (.seq c3 (.seq (.block z1 (.seq c4 (.seq c5 (.seq c6 (.seq body c7))))) c8))))) c9)))) (hPQ : Aside0 (∀ c a d v w, Q (.panic c) (a.put d v) w → Q (.panic c) a w)) (hNL : NL ≤ 100)
  (cont : ∀ (y36 y37 y38 y39 y40 y41 y42 y43 y44 y45 y46 y47 y48 y49 y50 : Value), Q .normal ⟨#[.slice (some a) n cap, x1, x2, .slice A NL capo, .int .i64 i, .int .i64 NL, x6, x7, x8, x9, x10, x11, x12, x13, x14, x15, x16, x17, x18, x19, x20, x21, x22, x23, x24, x25, x26, x27, x28, x29, x30, x31, x32, x33, x34, x35, y36, y37, y38, y39, y40, y41, y42, y43, y44, y45, y46, y47, y48, y49, y50, .bool true, x52, x53, x54, x55, x56, x57, x58, x59, x60, x61, x62, x63, x64, x65, x66, x67], []⟩ w.drew) : Code.wp Tryz.prog body Q ⟨#[.slice (some a) n cap, x1, x2, .slice A NL capo, .int .i64 i, .int .i64 NL, x6, x7, x8, x9, x10, x11, x12, x13, x14, x15, x16, x17, x18, x19, x20, x21, x22, x23, x24, x25, x26, x27, x28, x29, x30, x31, x32, x33, x34, x35, x36, x37, x38, x39, x40, x41, x42, x43, x44, x45, x46, x47, x48, x49, x50, x51, x52, x53, x54, x55, x56, x57, x58, x59, x60, x61, x62, x63, x64, x65, x66, x67], []⟩ w := by
 have hbody := ru9_body rfl hB
 clear hB
 subst hbody
 have hcont := Aside0.mk cont
 clear cont
 have hb0 : ((NL : Int) == (NL : Int)) = true := by simp
 refine start_ (n := 16) (S := fun w' => True) (ds := []) #[false, false, false, false, false, false, false, false, false, false, false, false, false, false, false, false] (by kernel_rfl) rfl rfl trivial (fun hHeld => ?_)
 refine pure_ (i := 0) (N := some 36) (v := ?_) (a' := ?_) #[true, false, false, false, false, false, false, false, false, false, false, false, false, false, false, false] rfl rfl (by kernel_rfl) (fun _ _ _ h => hPQ.out _ _ _ _ _ h) (Or.inl ⟨by rfl, ?_⟩) ?_ ?_
 rotate_left
 ·intro w'
  go_simp
  with_reducible rfl
 rotate_left
 ·simp only [Act.put, List.setIfInBounds_toArray, List.set_cons_zero, List.set_cons_succ, i64_w, i32_w]
  rfl
 refine pure_ (i := 1) (N := some 37) (v := ?_) (a' := ?_) #[true, true, false, false, false, false, false, false, false, false, false, false, false, false, false, false] rfl rfl (by kernel_rfl) (fun _ _ _ h => hPQ.out _ _ _ _ _ h) (Or.inl ⟨by rfl, ?_⟩) ?_ ?_
 rotate_left
 ·intro w'
  go_simp
  with_reducible rfl
 rotate_left
 ·simp only [Act.put, List.setIfInBounds_toArray, List.set_cons_zero, List.set_cons_succ, i64_w, i32_w]
  rfl
 refine pure_ (i := 2) (N := some 38) (v := ?_) (a' := ?_) #[true, true, true, false, false, false, false, false, false, false, false, false, false, false, false, false] rfl rfl (by kernel_rfl) (fun _ _ _ h => hPQ.out _ _ _ _ _ h) (Or.inl ⟨by rfl, ?_⟩) ?_ ?_
 rotate_left
 ·intro w'
  go_simp
  with_reducible rfl
 rotate_left
 ·simp only [Act.put, List.setIfInBounds_toArray, List.set_cons_zero, List.set_cons_succ, i64_w, i32_w]
  rfl
 refine pure_ (i := 3) (N := some 39) (v := ?_) (a' := ?_) #[true, true, true, true, false, false, false, false, false, false, false, false, false, false, false, false] rfl rfl (by kernel_rfl) (fun _ _ _ h => hPQ.out _ _ _ _ _ h) (Or.inl ⟨by rfl, ?_⟩) ?_ ?_
 rotate_left
 ·intro w'
  go_simp
  with_reducible rfl
 rotate_left
 ·simp only [Act.put, List.setIfInBounds_toArray, List.set_cons_zero, List.set_cons_succ, i64_w, i32_w]
  rfl
 refine pure_ (i := 4) (N := some 40) (v := ?_) (a' := ?_) #[true, true, true, true, true, false, false, false, false, false, false, false, false, false, false, false] rfl rfl (by kernel_rfl) (fun _ _ _ h => hPQ.out _ _ _ _ _ h) (Or.inl ⟨by rfl, ?_⟩) ?_ ?_
 rotate_left
 ·intro w'
  go_simp
  with_reducible rfl
 rotate_left
 ·simp only [Act.put, List.setIfInBounds_toArray, List.set_cons_zero, List.set_cons_succ, i64_w, i32_w]
  rfl
 refine pure_ (i := 5) (N := some 41) (v := undef) (a' := ?_) #[true, true, true, true, true, true, false, false, false, false, false, false, false, false, false, false] rfl rfl (by kernel_rfl) (fun _ _ _ h => hPQ.out _ _ _ _ _ h) (Or.inr ⟨by rfl, rfl⟩) ?_ ?_
 rotate_left
 ·simp only [Act.put, List.setIfInBounds_toArray, List.set_cons_zero, List.set_cons_succ, i64_w, i32_w]
  rfl
 refine pure_ (i := 6) (N := some 42) (v := undef) (a' := ?_) #[true, true, true, true, true, true, true, false, false, false, false, false, false, false, false, false] rfl rfl (by kernel_rfl) (fun _ _ _ h => hPQ.out _ _ _ _ _ h) (Or.inr ⟨by rfl, rfl⟩) ?_ ?_
 rotate_left
 ·simp only [Act.put, List.setIfInBounds_toArray, List.set_cons_zero, List.set_cons_succ, i64_w, i32_w]
  rfl
 refine pure_ (i := 7) (N := some 43) (v := undef) (a' := ?_) #[true, true, true, true, true, true, true, true, false, false, false, false, false, false, false, false] rfl rfl (by kernel_rfl) (fun _ _ _ h => hPQ.out _ _ _ _ _ h) (Or.inr ⟨by rfl, rfl⟩) ?_ ?_
 rotate_left
 ·simp only [Act.put, List.setIfInBounds_toArray, List.set_cons_zero, List.set_cons_succ, i64_w, i32_w]
  rfl
 refine pure_ (i := 8) (N := some 44) (v := undef) (a' := ?_) #[true, true, true, true, true, true, true, true, true, false, false, false, false, false, false, false] rfl rfl (by kernel_rfl) (fun _ _ _ h => hPQ.out _ _ _ _ _ h) (Or.inr ⟨by rfl, rfl⟩) ?_ ?_
 rotate_left
 ·simp only [Act.put, List.setIfInBounds_toArray, List.set_cons_zero, List.set_cons_succ, i64_w, i32_w]
  rfl
 refine pure_ (i := 9) (N := some 45) (v := undef) (a' := ?_) #[true, true, true, true, true, true, true, true, true, true, false, false, false, false, false, false] rfl rfl (by kernel_rfl) (fun _ _ _ h => hPQ.out _ _ _ _ _ h) (Or.inr ⟨by rfl, rfl⟩) ?_ ?_
 rotate_left
 ·simp only [Act.put, List.setIfInBounds_toArray, List.set_cons_zero, List.set_cons_succ, i64_w, i32_w]
  rfl
 refine pure_ (i := 10) (N := some 46) (v := undef) (a' := ?_) #[true, true, true, true, true, true, true, true, true, true, true, false, false, false, false, false] rfl rfl (by kernel_rfl) (fun _ _ _ h => hPQ.out _ _ _ _ _ h) (Or.inr ⟨by rfl, rfl⟩) ?_ ?_
 rotate_left
 ·simp only [Act.put, List.setIfInBounds_toArray, List.set_cons_zero, List.set_cons_succ, i64_w, i32_w]
  rfl
 refine pure_ (i := 11) (N := some 47) (v := undef) (a' := ?_) #[true, true, true, true, true, true, true, true, true, true, true, true, false, false, false, false] rfl rfl (by kernel_rfl) (fun _ _ _ h => hPQ.out _ _ _ _ _ h) (Or.inr ⟨by rfl, rfl⟩) ?_ ?_
 rotate_left
 ·simp only [Act.put, List.setIfInBounds_toArray, List.set_cons_zero, List.set_cons_succ, i64_w, i32_w]
  rfl
 refine pure_ (i := 12) (N := some 48) (v := undef) (a' := ?_) #[true, true, true, true, true, true, true, true, true, true, true, true, true, false, false, false] rfl rfl (by kernel_rfl) (fun _ _ _ h => hPQ.out _ _ _ _ _ h) (Or.inr ⟨by rfl, rfl⟩) ?_ ?_
 rotate_left
 ·simp only [Act.put, List.setIfInBounds_toArray, List.set_cons_zero, List.set_cons_succ, i64_w, i32_w]
  rfl
 refine pure_ (i := 13) (N := some 49) (v := undef) (a' := ?_) #[true, true, true, true, true, true, true, true, true, true, true, true, true, true, false, false] rfl rfl (by kernel_rfl) (fun _ _ _ h => hPQ.out _ _ _ _ _ h) (Or.inr ⟨by rfl, rfl⟩) ?_ ?_
 rotate_left
 ·simp only [Act.put, List.setIfInBounds_toArray, List.set_cons_zero, List.set_cons_succ, i64_w, i32_w]
  rfl
 refine pure_ (i := 14) (N := some 50) (v := undef) (a' := ?_) #[true, true, true, true, true, true, true, true, true, true, true, true, true, true, true, false] rfl rfl (by kernel_rfl) (fun _ _ _ h => hPQ.out _ _ _ _ _ h) (Or.inr ⟨by rfl, rfl⟩) ?_ ?_
 rotate_left
 ·simp only [Act.put, List.setIfInBounds_toArray, List.set_cons_zero, List.set_cons_succ, i64_w, i32_w]
  rfl
 refine pure_ (i := 15) (N := some 51) (v := ?_) (a' := ?_) #[true, true, true, true, true, true, true, true, true, true, true, true, true, true, true, true] rfl rfl (by kernel_rfl) (fun _ _ _ h => hPQ.out _ _ _ _ _ h) (Or.inl ⟨by rfl, ?_⟩) ?_ ?_
 rotate_left
 ·intro w'
  go_simp
  with_reducible rfl
 rotate_left
 ·simp only [Act.put, List.setIfInBounds_toArray, List.set_cons_zero, List.set_cons_succ, i64_w, i32_w]
  rfl
 refine done_ (by kernel_rfl) ?_

 exact hcont.out _ _ _ _ _ _ _ _ _ _ _ _ _ _ _
set_option maxRecDepth 100000 in
set_option maxHeartbeats 8000000 in
theorem ru_ins {w : World} {a : Addr} {n cap i k capo base : Nat} {A : Option Addr} {zs : List Int} {x : Int} {Q : Exit → Act → World → Prop} {c0 c1 c2 c3 c4 c5 c6 c7 c8 c9 c10 body : Code} {z0 z1 : Nat} {q0 : Operand} {x1 x2 x6 x7 x8 x9 x10 x11 x12 x13 x14 x15 x16 x17 x18 x19 x20 x21 x22 x23 x24 x25 x26 x27 x28 x29 x30 x31 x32 x33 x34 x35 x36 x37 x38 x39 x40 x41 x42 x43 x44 x45 x46 x47 x48 x49 x50 x51 x52 x53 x54 x55 x56 x57 x58 x59 x60 x61 x62 x63 x64 x65 x66 x67 : Value}
  (hB : Tryz.f15.body = some (.seq c0 (.seq c1 (.seq (.seq c2 (.block z0 (.loop (.seq c3 (.seq (.block z1 (.seq c4 (.seq c5 (.seq c6 (.seq c7 (.cond q0 body c8)))))) c9))))) c10)))) (hPQ : Aside0 (∀ c a d v w, Q (.panic c) (a.put d v) w → Q (.panic c) a w)) (hR : RwI w base (.slice A zs.length capo) zs) (ct : w.cell? ⟨(a.add (i * 2)).block, (a.add (i * 2)).off + 1, none⟩ = some (.int .i64 x)) (hi : i < n) (hn : n ≤ 100) (hk : k ≤ zs.length) (hl9 : zs.length ≤ 100) (hbase : base ≤ w.heap.size)
  (cont : ∀ (w' : World) (v' : Value) (y52 y53 y54 y55 y56 y57 y58 y59 y60 y61 y62 y63 y64 y65 y66 : Value), RwI w' base v' (zs.take k ++ x :: zs.drop k) → Below w.heap.size w w' → Q .normal ⟨#[.slice (some a) n cap, x1, x2, v', .int .i64 i, .int .i64 k, x6, x7, x8, x9, x10, x11, x12, x13, x14, x15, x16, x17, x18, x19, x20, x21, x22, x23, x24, x25, x26, x27, x28, x29, x30, x31, x32, x33, x34, x35, x36, x37, x38, x39, x40, x41, x42, x43, x44, x45, x46, x47, x48, x49, x50, x51, y52, y53, y54, y55, y56, y57, y58, y59, y60, y61, y62, y63, y64, y65, y66, x67], []⟩ w') : Code.wp Tryz.prog body Q ⟨#[.slice (some a) n cap, x1, x2, .slice A zs.length capo, .int .i64 i, .int .i64 k, x6, x7, x8, x9, x10, x11, x12, x13, x14, x15, x16, x17, x18, x19, x20, x21, x22, x23, x24, x25, x26, x27, x28, x29, x30, x31, x32, x33, x34, x35, x36, x37, x38, x39, x40, x41, x42, x43, x44, x45, x46, x47, x48, x49, x50, x51, x52, x53, x54, x55, x56, x57, x58, x59, x60, x61, x62, x63, x64, x65, x66, x67], []⟩ w := by
 have hbody := ru10_body rfl hB
 clear hB
 subst hbody
 have hcont := Aside0.mk cont
 clear cont
 have hkc : k ≤ capo := by
  rcases hR.2 with ⟨h, h2⟩ | ⟨g, cap', cur, h, _, _, hn, _⟩
  ·injection h with _ _ h3; omega
  ·injection h with _ _ h3; omega
 have hl : zs.length ≤ 1000 := by omega
 have H0 := Aside0.mk ct
 have R0 := Aside0.mk hR
 have HR := World.block_lt_of_cell? w _ ct
 have B0 := Aside0.mk ((Below.refl w.heap.size w).drew)
 clear hR ct
 refine start_ (n := 16) (S := fun w' => w'.cell? ⟨(a.add (i * 2)).block, (a.add (i * 2)).off + 1, none⟩ = some (.int .i64 x)) (ds := []) #[false, false, false, false, false, false, false, false, false, false, false, false, false, false, false, false] (by kernel_rfl) rfl rfl ((B0.out.cell HR).trans H0.out) (fun hHeld => ?_)
 refine pure_ (i := 0) (N := some 52) (v := ?_) (a' := ?_) #[true, false, false, false, false, false, false, false, false, false, false, false, false, false, false, false] rfl rfl (by kernel_rfl) (fun _ _ _ h => hPQ.out _ _ _ _ _ h) (Or.inl ⟨by rfl, ?_⟩) ?_ ?_
 rotate_left
 ·intro w'
  go_simp
  with_reducible rfl
 rotate_left
 ·simp only [Act.put, List.setIfInBounds_toArray, List.set_cons_zero, List.set_cons_succ, i64_w, i32_w]
  rfl
 refine pure_ (i := 1) (N := some 53) (v := ?_) (a' := ?_) #[true, true, false, false, false, false, false, false, false, false, false, false, false, false, false, false] rfl rfl (by kernel_rfl) (fun _ _ _ h => hPQ.out _ _ _ _ _ h) (Or.inl ⟨by rfl, ?_⟩) ?_ ?_
 rotate_left
 ·intro w'
  go_simp
  with_reducible rfl
 rotate_left
 ·simp only [Act.put, List.setIfInBounds_toArray, List.set_cons_zero, List.set_cons_succ, i64_w, i32_w]
  rfl
 refine pure_ (i := 2) (N := some 54) (v := ?_) (a' := ?_) #[true, true, true, false, false, false, false, false, false, false, false, false, false, false, false, false] rfl rfl (by kernel_rfl) (fun _ _ _ h => hPQ.out _ _ _ _ _ h) (Or.inl ⟨by rfl, ?_⟩) ?_ ?_
 rotate_left
 ·intro w'
  go_simp
  with_reducible rfl
 rotate_left
 ·simp only [Act.put, List.setIfInBounds_toArray, List.set_cons_zero, List.set_cons_succ, i64_w, i32_w]
  rfl
 refine pure_ (i := 3) (N := some 55) (v := ?_) (a' := ?_) #[true, true, true, true, false, false, false, false, false, false, false, false, false, false, false, false] rfl rfl (by kernel_rfl) (fun _ _ _ h => hPQ.out _ _ _ _ _ h) (Or.inl ⟨by rfl, ?_⟩) ?_ ?_
 rotate_left
 ·intro w'
  refine (exec_sliceHM rfl (islice_head hkc)).trans ?_
  with_reducible rfl
 rotate_left
 ·simp only [Act.put, List.setIfInBounds_toArray, List.set_cons_zero, List.set_cons_succ, i64_w, i32_w]
  rfl
 refine pure_ (i := 4) (N := some 56) (v := ?_) (a' := ?_) #[true, true, true, true, true, false, false, false, false, false, false, false, false, false, false, false] rfl rfl (by kernel_rfl) (fun _ _ _ h => hPQ.out _ _ _ _ _ h) (Or.inl ⟨by rfl, ?_⟩) ?_ ?_
 rotate_left
 ·intro w'
  go_simp
  with_reducible rfl
 rotate_left
 ·simp only [Act.put, List.setIfInBounds_toArray, List.set_cons_zero, List.set_cons_succ, i64_w, i32_w]
  rfl
 refine pure_ (i := 5) (N := some 57) (v := ?_) (a' := ?_) #[true, true, true, true, true, true, false, false, false, false, false, false, false, false, false, false] rfl rfl (by kernel_rfl) (fun _ _ _ h => hPQ.out _ _ _ _ _ h) (Or.inl ⟨by rfl, ?_⟩) ?_ ?_
 rotate_left
 ·intro w'
  go_simp
  with_reducible rfl
 rotate_left
 ·simp only [Act.put, List.setIfInBounds_toArray, List.set_cons_zero, List.set_cons_succ, i64_w, i32_w]
  rfl
 refine pure_ (i := 6) (N := some 58) (v := ?_) (a' := ?_) #[true, true, true, true, true, true, true, false, false, false, false, false, false, false, false, false] rfl rfl (by kernel_rfl) (fun _ _ _ h => hPQ.out _ _ _ _ _ h) (Or.inl ⟨by rfl, ?_⟩) ?_ ?_
 rotate_left
 ·intro w'
  refine (exec_indexAddr rfl (s_index (a := a) (cap := cap) hi)).trans ?_
  with_reducible rfl
 rotate_left
 ·simp only [Act.put, List.setIfInBounds_toArray, List.set_cons_zero, List.set_cons_succ, i64_w, i32_w]
  rfl
 refine pure_ (i := 7) (N := some 59) (v := ?_) (a' := ?_) #[true, true, true, true, true, true, true, true, false, false, false, false, false, false, false, false] rfl rfl (by kernel_rfl) (fun _ _ _ h => hPQ.out _ _ _ _ _ h) (Or.inl ⟨by rfl, ?_⟩) ?_ ?_
 rotate_left
 ·intro w'
  go_simp
  with_reducible rfl
 rotate_left
 ·simp only [Act.put, List.setIfInBounds_toArray, List.set_cons_zero, List.set_cons_succ, i64_w, i32_w]
  rfl
 refine pure_ (i := 10) (N := some 62) (v := ?_) (a' := ?_) #[true, true, true, true, true, true, true, true, false, false, true, false, false, false, false, false] rfl rfl (by kernel_rfl) (fun _ _ _ h => hPQ.out _ _ _ _ _ h) (Or.inl ⟨by rfl, ?_⟩) ?_ ?_
 rotate_left
 ·intro w'
  go_simp
  with_reducible rfl
 rotate_left
 ·simp only [Act.put, List.setIfInBounds_toArray, List.set_cons_zero, List.set_cons_succ, i64_w, i32_w]
  rfl
 refine pure_ (i := 11) (N := some 63) (v := ?_) (a' := ?_) #[true, true, true, true, true, true, true, true, false, false, true, true, false, false, false, false] rfl rfl (by kernel_rfl) (fun _ _ _ h => hPQ.out _ _ _ _ _ h) (Or.inl ⟨by rfl, ?_⟩) ?_ ?_
 rotate_left
 ·intro w'
  go_simp
  with_reducible rfl
 rotate_left
 ·simp only [Act.put, List.setIfInBounds_toArray, List.set_cons_zero, List.set_cons_succ, i64_w, i32_w]
  rfl
 refine pure_ (i := 12) (N := some 64) (v := ?_) (a' := ?_) #[true, true, true, true, true, true, true, true, false, false, true, true, true, false, false, false] rfl rfl (by kernel_rfl) (fun _ _ _ h => hPQ.out _ _ _ _ _ h) (Or.inl ⟨by rfl, ?_⟩) ?_ ?_
 rotate_left
 ·intro w'
  refine (exec_sliceL rfl (islice_tail hk)).trans ?_
  with_reducible rfl
 rotate_left
 ·simp only [Act.put, List.setIfInBounds_toArray, List.set_cons_zero, List.set_cons_succ, i64_w, i32_w]
  rfl
 refine take_ (i := 8) (N := some 60) (v := ?_) (a' := ?_) #[true, true, true, true, true, true, true, true, true, false, true, true, true, false, false, false] rfl rfl (by kernel_rfl) (fun _ _ _ h => hPQ.out _ _ _ _ _ h) (Or.inl ⟨by rfl, ?_⟩) hHeld ?_ ?_
 rotate_left
 ·intro w' s0
  go_simp
  with_reducible rfl
 rotate_left
 ·simp only [Act.put, List.setIfInBounds_toArray, List.set_cons_zero, List.set_cons_succ, i64_w, i32_w]
  rfl
 refine one_ (i := 9) (N := some 61) #[true, true, true, true, true, true, true, true, true, true, true, true, true, false, false, false] rfl rfl (by kernel_rfl) (by decide) (fun K hK => ?_)
 obtain ⟨w1, gx, hrun, e1, e2, e3⟩ := ilit1 w.drew x
 have X := Aside0.mk e1
 have hgx : w.heap.size ≤ gx := e2
 have B1 := Aside0.mk (B0.out.grown e3 B0.out.size (fun k e => by cases e))
 refine value_ (w1 := w1) (v := .slice (some ⟨gx, 0, none⟩) 1 1) (by rfl) rfl (exec_buildSlice rfl (by first | (simp only [List.map_toArray, List.map_cons, List.map_nil]; done) | (simp only [List.map_toArray, List.map_cons, List.map_nil]; rfl)) hrun) ?_
 clear hrun e1 e2 e3
 refine hK.out _ _ ((B1.out.cell HR).trans H0.out) (fun hHeld => ?_)
 clear hK K
 refine norm_ (a' := ?_) ?_ ?_
 rotate_left
 ·show Act.put _ (some 61) _ = _
  simp only [Act.put, List.setIfInBounds_toArray, List.set_cons_zero, List.set_cons_succ, i64_w, i32_w]
  rfl
 refine one_ (i := 13) (N := some 65) #[true, true, true, true, true, true, true, true, true, true, true, true, true, true, false, false] rfl rfl (by kernel_rfl) (by decide) (fun K hK => ?_)
 obtain ⟨y, w2, hrun, hY, hG, hO⟩ := ins_tailI (base := w.heap.size) (A := A) (cap := capo) (k := k) X.out hgx (RwI.move R0.out (fun z hz => B1.out.block z (RwI.lt R0.out z hz))) rfl hk hl
 have B2 := Aside0.mk (B1.out.grown hG B1.out.size (fun z e => by cases e; exact hgx))
 have Y2 := Aside0.mk hY
 refine value_ (w1 := w2) (v := y) (by rfl) rfl (exec_append rfl hrun) ?_
 clear hrun hY hG hO
 refine hK.out _ _ ((B2.out.cell HR).trans H0.out) (fun hHeld => ?_)
 clear hK K
 refine norm_ (a' := ?_) ?_ ?_
 rotate_left
 ·show Act.put _ (some 65) _ = _
  simp only [Act.put, List.setIfInBounds_toArray, List.set_cons_zero, List.set_cons_succ, i64_w, i32_w]
  rfl
 refine one_ (i := 14) (N := some 66) #[true, true, true, true, true, true, true, true, true, true, true, true, true, true, true, false] rfl rfl (by kernel_rfl) (by decide) (fun K hK => ?_)
 obtain ⟨r3, w3, hrun, hR3, hG, hO⟩ := ins_headI (base := base) (A := A) (cap := capo) (k := k) (RwI.move R0.out (fun z hz => B2.out.block z (RwI.lt R0.out z hz))) rfl hk Y2.out (by simp) hl (by simp; omega) (Nat.le_trans hbase B2.out.size)
 have B3 := Aside0.mk (B2.out.grown hG B2.out.size (fun z e => by cases e))
 have R3 := Aside0.mk hR3
 refine value_ (w1 := w3) (v := r3) (by rfl) rfl (exec_append rfl hrun) ?_
 clear hrun hR3 hG hO
 refine hK.out _ _ ((B3.out.cell HR).trans H0.out) (fun hHeld => ?_)
 clear hK K
 refine norm_ (a' := ?_) ?_ ?_
 rotate_left
 ·show Act.put _ (some 66) _ = _
  simp only [Act.put, List.setIfInBounds_toArray, List.set_cons_zero, List.set_cons_succ, i64_w, i32_w]
  rfl
 refine pure_ (i := 15) (N := some 3) (v := ?_) (a' := ?_) #[true, true, true, true, true, true, true, true, true, true, true, true, true, true, true, true] rfl rfl (by kernel_rfl) (fun _ _ _ h => hPQ.out _ _ _ _ _ h) (Or.inl ⟨by rfl, ?_⟩) ?_ ?_
 rotate_left
 ·intro w'
  go_simp
  with_reducible rfl
 rotate_left
 ·simp only [Act.put, List.setIfInBounds_toArray, List.set_cons_zero, List.set_cons_succ, i64_w, i32_w]
  rfl
 refine done_ (by kernel_rfl) ?_

 exact hcont.out _ _ _ _ _ _ _ _ _ _ _ _ _ _ _ _ _ R3.out B3.out
set_option maxRecDepth 100000 in
set_option maxHeartbeats 8000000 in
theorem ru2_more {w : World} {a : Addr} {n cap i k NL capo g : Nat} {z x : Int} {Q : Exit → Act → World → Prop} {N : Nat} {c0 c1 c2 c3 c4 c5 c6 c7 c8 body : Code} {z0 z1 z2 : Nat}  {x1 x2 x6 x7 x8 x9 x10 x11 x12 x13 x14 x15 x16 x17 x18 x19 x20 x21 x22 x23 x24 x25 x26 x27 x28 x29 x30 x31 x32 x33 x34 x35 x36 x37 x38 x39 x40 x41 x42 x43 x44 x45 x46 x47 x48 x49 x50 x51 x52 x53 x54 x55 x56 x57 x58 x59 x60 x61 x62 x63 x64 x65 x66 x67 : Value} (hB : Tryz.f15.body = some (.seq c0 (.seq c1 (.seq (.seq c2 (.block z0 (.loop (.seq c3 (.seq (.block z1 (.seq c4 (.seq c5 (.seq (.block z2 (.loop body)) c6)))) c7))))) c8)))) (hPQ : Aside0 (∀ c a d v w, Q (.panic c) (a.put d v) w → Q (.panic c) a w)) (cg : Aside0 (w.cell? ⟨g, k, none⟩ = some (.int .i64 z))) (ct : Aside0 (w.cell? ⟨(a.add (i * 2)).block, (a.add (i * 2)).off + 1, none⟩ = some (.int .i64 x))) (hi : i < n) (hn : n ≤ 100) (hk : k < NL) (hNL : NL ≤ 100) (hz : z < x)
    (cont : ∀ (y1 y2 y6 y7 y8 y9 y10 y11 y12 y13 y14 y15 y16 y17 y18 y19 y20 y21 y22 y23 y24 y25 y26 y27 y28 y29 y30 y31 y32 y33 y34 y35 y36 y37 y38 y39 y40 y41 y42 y43 y44 y45 y46 y47 y48 y49 y50 y51 y52 y53 y54 y55 y56 y57 y58 y59 y60 y61 y62 y63 y64 y65 y66 y67 : Value), Code.rounds Tryz.prog body Q N ⟨#[.slice (some a) n cap, y1, y2, .slice (some ⟨g, 0, none⟩) NL capo, .int .i64 i, .int .i64 (k + 1), y6, y7, y8, y9, y10, y11, y12, y13, y14, y15, y16, y17, y18, y19, y20, y21, y22, y23, y24, y25, y26, y27, y28, y29, y30, y31, y32, y33, y34, y35, y36, y37, y38, y39, y40, y41, y42, y43, y44, y45, y46, y47, y48, y49, y50, y51, y52, y53, y54, y55, y56, y57, y58, y59, y60, y61, y62, y63, y64, y65, y66, y67], []⟩ w.drew) : Code.rounds Tryz.prog body Q (N + 1) ⟨#[.slice (some a) n cap, x1, x2, .slice (some ⟨g, 0, none⟩) NL capo, .int .i64 i, .int .i64 k, x6, x7, x8, x9, x10, x11, x12, x13, x14, x15, x16, x17, x18, x19, x20, x21, x22, x23, x24, x25, x26, x27, x28, x29, x30, x31, x32, x33, x34, x35, x36, x37, x38, x39, x40, x41, x42, x43, x44, x45, x46, x47, x48, x49, x50, x51, x52, x53, x54, x55, x56, x57, x58, x59, x60, x61, x62, x63, x64, x65, x66, x67], []⟩ w := by
  have hbody := ru2_body rfl hB
  clear hB
  subst hbody
  have hcont := Aside0.mk cont
  clear cont
  rw [rounds_succ]
  go_upto_region 7 with fail
  refine ru7_more (z := z) (x := x) rfl ⟨fun _ _ _ _ _ h => hPQ.out _ _ _ _ _ h⟩ cg ct hi hn hk hNL hz ?_
  intro y18 y19 y20 y21 y22 y23 y24 y25 y26 y27 y28 y29 y30 y31 y32
  go_wp2
  exact hcont.out _ _ _ _ _ _ _ _ _ _ _ _ _ _ _ _ _ _ _ _ _ _ _ _ _ _ _ _ _ _ _ _ _ _ _ _ _ _ _ _ _ _ _ _ _ _ _ _ _ _ _ _ _ _ _ _ _ _ _ _ _ _ _ _
set_option maxRecDepth 100000 in
set_option maxHeartbeats 8000000 in
theorem ru2_stop {w : World} {a : Addr} {n cap i k NL capo g : Nat} {z x : Int} {Q : Exit → Act → World → Prop} {N : Nat} {c0 c1 c2 c3 c4 c5 c6 c7 c8 body : Code} {z0 z1 z2 : Nat}  {x1 x2 x6 x7 x8 x9 x10 x11 x12 x13 x14 x15 x16 x17 x18 x19 x20 x21 x22 x23 x24 x25 x26 x27 x28 x29 x30 x31 x32 x33 x34 x35 x36 x37 x38 x39 x40 x41 x42 x43 x44 x45 x46 x47 x48 x49 x50 x51 x52 x53 x54 x55 x56 x57 x58 x59 x60 x61 x62 x63 x64 x65 x66 x67 : Value} (hB : Tryz.f15.body = some (.seq c0 (.seq c1 (.seq (.seq c2 (.block z0 (.loop (.seq c3 (.seq (.block z1 (.seq c4 (.seq c5 (.seq (.block z2 (.loop body)) c6)))) c7))))) c8)))) (hPQ : Aside0 (∀ c a d v w, Q (.panic c) (a.put d v) w → Q (.panic c) a w)) (cg : Aside0 (w.cell? ⟨g, k, none⟩ = some (.int .i64 z))) (ct : Aside0 (w.cell? ⟨(a.add (i * 2)).block, (a.add (i * 2)).off + 1, none⟩ = some (.int .i64 x))) (hi : i < n) (hn : n ≤ 100) (hk : k < NL) (hNL : NL ≤ 100) (hz : ¬ z < x)
    (cont : ∀ (y1 y2 y6 y7 y8 y9 y10 y11 y12 y13 y14 y15 y16 y17 y18 y19 y20 y21 y22 y23 y24 y25 y26 y27 y28 y29 y30 y31 y32 y33 y34 y35 y36 y37 y38 y39 y40 y41 y42 y43 y44 y45 y46 y47 y48 y49 y50 y51 y52 y53 y54 y55 y56 y57 y58 y59 y60 y61 y62 y63 y64 y65 y66 y67 : Value), Q (.exit 2) ⟨#[.slice (some a) n cap, y1, y2, .slice (some ⟨g, 0, none⟩) NL capo, .int .i64 i, .int .i64 k, y6, y7, y8, y9, y10, y11, y12, y13, y14, y15, y16, y17, y18, y19, y20, y21, y22, y23, y24, y25, y26, y27, y28, y29, y30, y31, y32, y33, y34, y35, y36, y37, y38, y39, y40, y41, y42, y43, y44, y45, y46, y47, y48, y49, y50, y51, y52, y53, y54, y55, y56, y57, y58, y59, y60, y61, y62, y63, y64, y65, y66, y67], []⟩ w.drew) : Code.rounds Tryz.prog body Q (N + 1) ⟨#[.slice (some a) n cap, x1, x2, .slice (some ⟨g, 0, none⟩) NL capo, .int .i64 i, .int .i64 k, x6, x7, x8, x9, x10, x11, x12, x13, x14, x15, x16, x17, x18, x19, x20, x21, x22, x23, x24, x25, x26, x27, x28, x29, x30, x31, x32, x33, x34, x35, x36, x37, x38, x39, x40, x41, x42, x43, x44, x45, x46, x47, x48, x49, x50, x51, x52, x53, x54, x55, x56, x57, x58, x59, x60, x61, x62, x63, x64, x65, x66, x67], []⟩ w := by
  have hbody := ru2_body rfl hB
  clear hB
  subst hbody
  have hcont := Aside0.mk cont
  clear cont
  rw [rounds_succ]
  go_upto_region 7 with fail
  refine ru7_stop (z := z) (x := x) rfl ⟨fun _ _ _ _ _ h => hPQ.out _ _ _ _ _ h⟩ cg ct hi hn hk hNL hz ?_
  intro y18 y19 y20 y21 y22 y23 y24 y25 y26 y27 y28 y29 y30 y31 y32
  go_wp2
  exact hcont.out _ _ _ _ _ _ _ _ _ _ _ _ _ _ _ _ _ _ _ _ _ _ _ _ _ _ _ _ _ _ _ _ _ _ _ _ _ _ _ _ _ _ _ _ _ _ _ _ _ _ _ _ _ _ _ _ _ _ _ _ _ _ _ _
set_option maxRecDepth 100000 in
set_option maxHeartbeats 8000000 in
theorem ru2_end {w : World} {a : Addr} {n cap i NL capo : Nat} {A : Option Addr} {Q : Exit → Act → World → Prop} {N : Nat} {c0 c1 c2 c3 c4 c5 c6 c7 c8 body : Code} {z0 z1 z2 : Nat}  {x1 x2 x6 x7 x8 x9 x10 x11 x12 x13 x14 x15 x16 x17 x18 x19 x20 x21 x22 x23 x24 x25 x26 x27 x28 x29 x30 x31 x32 x33 x34 x35 x36 x37 x38 x39 x40 x41 x42 x43 x44 x45 x46 x47 x48 x49 x50 x51 x52 x53 x54 x55 x56 x57 x58 x59 x60 x61 x62 x63 x64 x65 x66 x67 : Value} (hB : Tryz.f15.body = some (.seq c0 (.seq c1 (.seq (.seq c2 (.block z0 (.loop (.seq c3 (.seq (.block z1 (.seq c4 (.seq c5 (.seq (.block z2 (.loop body)) c6)))) c7))))) c8)))) (hPQ : Aside0 (∀ c a d v w, Q (.panic c) (a.put d v) w → Q (.panic c) a w)) (hNL : NL ≤ 100)
    (cont : ∀ (y1 y2 y6 y7 y8 y9 y10 y11 y12 y13 y14 y15 y16 y17 y18 y19 y20 y21 y22 y23 y24 y25 y26 y27 y28 y29 y30 y31 y32 y33 y34 y35 y36 y37 y38 y39 y40 y41 y42 y43 y44 y45 y46 y47 y48 y49 y50 y51 y52 y53 y54 y55 y56 y57 y58 y59 y60 y61 y62 y63 y64 y65 y66 y67 : Value), Q (.exit 2) ⟨#[.slice (some a) n cap, y1, y2, .slice A NL capo, .int .i64 i, .int .i64 NL, y6, y7, y8, y9, y10, y11, y12, y13, y14, y15, y16, y17, y18, y19, y20, y21, y22, y23, y24, y25, y26, y27, y28, y29, y30, y31, y32, y33, y34, y35, y36, y37, y38, y39, y40, y41, y42, y43, y44, y45, y46, y47, y48, y49, y50, y51, y52, y53, y54, y55, y56, y57, y58, y59, y60, y61, y62, y63, y64, y65, y66, y67], []⟩ w.drew) : Code.rounds Tryz.prog body Q (N + 1) ⟨#[.slice (some a) n cap, x1, x2, .slice A NL capo, .int .i64 i, .int .i64 NL, x6, x7, x8, x9, x10, x11, x12, x13, x14, x15, x16, x17, x18, x19, x20, x21, x22, x23, x24, x25, x26, x27, x28, x29, x30, x31, x32, x33, x34, x35, x36, x37, x38, x39, x40, x41, x42, x43, x44, x45, x46, x47, x48, x49, x50, x51, x52, x53, x54, x55, x56, x57, x58, x59, x60, x61, x62, x63, x64, x65, x66, x67], []⟩ w := by
  have hbody := ru2_body rfl hB
  clear hB
  subst hbody
  have hcont := Aside0.mk cont
  clear cont
  rw [rounds_succ]
  go_upto_region 7 with fail
  refine ru7_end rfl ⟨fun _ _ _ _ _ h => hPQ.out _ _ _ _ _ h⟩ hNL ?_
  intro y18 y19 y20 y21 y22 y23 y24 y25 y26 y27 y28 y29 y30 y31 y32
  go_wp2
  exact hcont.out _ _ _ _ _ _ _ _ _ _ _ _ _ _ _ _ _ _ _ _ _ _ _ _ _ _ _ _ _ _ _ _ _ _ _ _ _ _ _ _ _ _ _ _ _ _ _ _ _ _ _ _ _ _ _ _ _ _ _ _ _ _ _ _
set_option maxRecDepth 100000 in
set_option maxHeartbeats 8000000 in
theorem ru2_loop {w0 : World} {a : Addr} {n cap i capo base : Nat} {A : Option Addr} {zs : List Int} {x : Int} {Q : Exit → Act → World → Prop} {c0 c1 c2 c3 c4 c5 c6 c7 c8 body : Code} {z0 z1 z2 : Nat}  (hB : Tryz.f15.body = some (.seq c0 (.seq c1 (.seq (.seq c2 (.block z0 (.loop (.seq c3 (.seq (.block z1 (.seq c4 (.seq c5 (.seq (.block z2 (.loop body)) c6)))) c7))))) c8)))) (hPQ : Aside0 (∀ c a d v w, Q (.panic c) (a.put d v) w → Q (.panic c) a w)) (hct : w0.cell? ⟨(a.add (i * 2)).block, (a.add (i * 2)).off + 1, none⟩ = some (.int .i64 x)) (hi : i < n) (hn : n ≤ 100) (hl : zs.length ≤ 100)
  (hK : ∀ (w' : World) (y1 y2 y6 y7 y8 y9 y10 y11 y12 y13 y14 y15 y16 y17 y18 y19 y20 y21 y22 y23 y24 y25 y26 y27 y28 y29 y30 y31 y32 y33 y34 y35 y36 y37 y38 y39 y40 y41 y42 y43 y44 y45 y46 y47 y48 y49 y50 y51 y52 y53 y54 y55 y56 y57 y58 y59 y60 y61 y62 y63 y64 y65 y66 y67 : Value), RwI w' base (.slice A zs.length capo) zs → Below w0.heap.size w0 w' → Q (.exit 2) ⟨#[.slice (some a) n cap, y1, y2, .slice A zs.length capo, .int .i64 i, .int .i64 (insK x zs), y6, y7, y8, y9, y10, y11, y12, y13, y14, y15, y16, y17, y18, y19, y20, y21, y22, y23, y24, y25, y26, y27, y28, y29, y30, y31, y32, y33, y34, y35, y36, y37, y38, y39, y40, y41, y42, y43, y44, y45, y46, y47, y48, y49, y50, y51, y52, y53, y54, y55, y56, y57, y58, y59, y60, y61, y62, y63, y64, y65, y66, y67], []⟩ w') :
  ∀ (d k : Nat) (w : World) {y1 y2 y6 y7 y8 y9 y10 y11 y12 y13 y14 y15 y16 y17 y18 y19 y20 y21 y22 y23 y24 y25 y26 y27 y28 y29 y30 y31 y32 y33 y34 y35 y36 y37 y38 y39 y40 y41 y42 y43 y44 y45 y46 y47 y48 y49 y50 y51 y52 y53 y54 y55 y56 y57 y58 y59 y60 y61 y62 y63 y64 y65 y66 y67 : Value}, k + d = insK x zs → RwI w base (.slice A zs.length capo) zs → Below w0.heap.size w0 w → Code.rounds Tryz.prog body Q (d + 1) ⟨#[.slice (some a) n cap, y1, y2, .slice A zs.length capo, .int .i64 i, .int .i64 k, y6, y7, y8, y9, y10, y11, y12, y13, y14, y15, y16, y17, y18, y19, y20, y21, y22, y23, y24, y25, y26, y27, y28, y29, y30, y31, y32, y33, y34, y35, y36, y37, y38, y39, y40, y41, y42, y43, y44, y45, y46, y47, y48, y49, y50, y51, y52, y53, y54, y55, y56, y57, y58, y59, y60, y61, y62, y63, y64, y65, y66, y67], []⟩ w := by
 intro d
 have hle := insK_le x zs
 induction d with
 | zero =>
  intro k w y1 y2 y6 y7 y8 y9 y10 y11 y12 y13 y14 y15 y16 y17 y18 y19 y20 y21 y22 y23 y24 y25 y26 y27 y28 y29 y30 y31 y32 y33 y34 y35 y36 y37 y38 y39 y40 y41 y42 y43 y44 y45 y46 y47 y48 y49 y50 y51 y52 y53 y54 y55 y56 y57 y58 y59 y60 y61 y62 y63 y64 y65 y66 y67 hd HR HB
  have hcb := (HB.cell (World.block_lt_of_cell? w0 _ hct)).trans hct
  obtain rfl : k = insK x zs := by omega
  rcases insK_end x zs with ⟨h1, _⟩ | ⟨h1, h2, _⟩
  ·rw [h1] at hK ⊢
   exact ru2_end hB hPQ hl (fun y1 y2 y6 y7 y8 y9 y10 y11 y12 y13 y14 y15 y16 y17 y18 y19 y20 y21 y22 y23 y24 y25 y26 y27 y28 y29 y30 y31 y32 y33 y34 y35 y36 y37 y38 y39 y40 y41 y42 y43 y44 y45 y46 y47 y48 y49 y50 y51 y52 y53 y54 y55 y56 y57 y58 y59 y60 y61 y62 y63 y64 y65 y66 y67 => hK _ y1 y2 y6 y7 y8 y9 y10 y11 y12 y13 y14 y15 y16 y17 y18 y19 y20 y21 y22 y23 y24 y25 y26 y27 y28 y29 y30 y31 y32 y33 y34 y35 y36 y37 y38 y39 y40 y41 y42 y43 y44 y45 y46 y47 y48 y49 y50 y51 y52 y53 y54 y55 y56 y57 y58 y59 y60 y61 y62 y63 y64 y65 y66 y67 (HR.move (fun _ _ => rfl)) HB.drew)
  ·rcases HR.fn with ⟨_, e⟩ | ⟨g, cap', e, _⟩
   ·subst e; simp at h1
   ·injection e with e1 e2 e3
    subst e1
    exact ru2_stop hB hPQ ⟨HR.cell h1⟩ ⟨hcb⟩ hi hn h1 hl h2 (fun y1 y2 y6 y7 y8 y9 y10 y11 y12 y13 y14 y15 y16 y17 y18 y19 y20 y21 y22 y23 y24 y25 y26 y27 y28 y29 y30 y31 y32 y33 y34 y35 y36 y37 y38 y39 y40 y41 y42 y43 y44 y45 y46 y47 y48 y49 y50 y51 y52 y53 y54 y55 y56 y57 y58 y59 y60 y61 y62 y63 y64 y65 y66 y67 => hK _ y1 y2 y6 y7 y8 y9 y10 y11 y12 y13 y14 y15 y16 y17 y18 y19 y20 y21 y22 y23 y24 y25 y26 y27 y28 y29 y30 y31 y32 y33 y34 y35 y36 y37 y38 y39 y40 y41 y42 y43 y44 y45 y46 y47 y48 y49 y50 y51 y52 y53 y54 y55 y56 y57 y58 y59 y60 y61 y62 y63 y64 y65 y66 y67 (HR.move (fun _ _ => rfl)) HB.drew)
 | succ d ih =>
  intro k w y1 y2 y6 y7 y8 y9 y10 y11 y12 y13 y14 y15 y16 y17 y18 y19 y20 y21 y22 y23 y24 y25 y26 y27 y28 y29 y30 y31 y32 y33 y34 y35 y36 y37 y38 y39 y40 y41 y42 y43 y44 y45 y46 y47 y48 y49 y50 y51 y52 y53 y54 y55 y56 y57 y58 y59 y60 y61 y62 y63 y64 y65 y66 y67 hd HR HB
  have hcb := (HB.cell (World.block_lt_of_cell? w0 _ hct)).trans hct
  obtain ⟨h1, h2⟩ := insK_go x zs k (by omega)
  rcases HR.fn with ⟨_, e⟩ | ⟨g, cap', e, _⟩
  ·subst e; simp at h1
  ·injection e with e1 e2 e3
   subst e1
   exact ru2_more hB hPQ ⟨HR.cell h1⟩ ⟨hcb⟩ hi hn h1 hl h2 (fun y1 y2 y6 y7 y8 y9 y10 y11 y12 y13 y14 y15 y16 y17 y18 y19 y20 y21 y22 y23 y24 y25 y26 y27 y28 y29 y30 y31 y32 y33 y34 y35 y36 y37 y38 y39 y40 y41 y42 y43 y44 y45 y46 y47 y48 y49 y50 y51 y52 y53 y54 y55 y56 y57 y58 y59 y60 y61 y62 y63 y64 y65 y66 y67 => ih (k + 1) _ (by omega) (HR.move (fun _ _ => rfl)) HB.drew)
set_option maxRecDepth 100000 in
set_option maxHeartbeats 8000000 in
theorem ru0_skip {w0 w : World} {a : Addr} {n cap i base : Nat} {kd : Int} {u : Value} {zs : List Int} {Q : Exit → Act → World → Prop} {N : Nat} {c0 c1 c2 c3 body : Code} {z0 : Nat}  {x1 x2 x5 x6 x7 x8 x9 x10 x11 x12 x13 x14 x15 x16 x17 x18 x19 x20 x21 x22 x23 x24 x25 x26 x27 x28 x29 x30 x31 x32 x33 x34 x35 x36 x37 x38 x39 x40 x41 x42 x43 x44 x45 x46 x47 x48 x49 x50 x51 x52 x53 x54 x55 x56 x57 x58 x59 x60 x61 x62 x63 x64 x65 x66 x67 : Value} (hB : Tryz.f15.body = some (.seq c0 (.seq c1 (.seq (.seq c2 (.block z0 (.loop body))) c3)))) (hPQ : Aside0 (∀ c a d v w, Q (.panic c) (a.put d v) w → Q (.panic c) a w)) (e0 : w.cell? (a.add (i * 2)) = some (.int .i64 kd)) (hi : i < n) (hn : n ≤ 100)
    (hkd : kd ≠ 2) (HR : RwI w base u zs) (HB : Below w0.heap.size w0 w)
    (cont : ∀ (w' : World) (y1 y2 y5 y6 y7 y8 y9 y10 y11 y12 y13 y14 y15 y16 y17 y18 y19 y20 y21 y22 y23 y24 y25 y26 y27 y28 y29 y30 y31 y32 y33 y34 y35 y36 y37 y38 y39 y40 y41 y42 y43 y44 y45 y46 y47 y48 y49 y50 y51 y52 y53 y54 y55 y56 y57 y58 y59 y60 y61 y62 y63 y64 y65 y66 y67 : Value), RwI w' base u zs → Below w0.heap.size w0 w' → Code.rounds Tryz.prog body Q N ⟨#[.slice (some a) n cap, y1, y2, u, .int .i64 (i + 1), y5, y6, y7, y8, y9, y10, y11, y12, y13, y14, y15, y16, y17, y18, y19, y20, y21, y22, y23, y24, y25, y26, y27, y28, y29, y30, y31, y32, y33, y34, y35, y36, y37, y38, y39, y40, y41, y42, y43, y44, y45, y46, y47, y48, y49, y50, y51, y52, y53, y54, y55, y56, y57, y58, y59, y60, y61, y62, y63, y64, y65, y66, y67], []⟩ w') : Code.rounds Tryz.prog body Q (N + 1) ⟨#[.slice (some a) n cap, x1, x2, u, .int .i64 i, x5, x6, x7, x8, x9, x10, x11, x12, x13, x14, x15, x16, x17, x18, x19, x20, x21, x22, x23, x24, x25, x26, x27, x28, x29, x30, x31, x32, x33, x34, x35, x36, x37, x38, x39, x40, x41, x42, x43, x44, x45, x46, x47, x48, x49, x50, x51, x52, x53, x54, x55, x56, x57, x58, x59, x60, x61, x62, x63, x64, x65, x66, x67], []⟩ w := by
  have hbody := ru0_body rfl hB
  clear hB
  subst hbody
  have hcont := Aside0.mk cont
  clear cont
  have IJ := Aside0.mk (fun (v : World) => s_index (w := v) (a := a) (cap := cap) hi)
  have R0 := Aside0.mk HR
  have B0 := Aside0.mk HB
  clear HR HB
  rw [rounds_succ]
  have hb1 : (kd == 2) = false := beq_eq_false_iff_ne.2 hkd
  have hb2 : (kd != 2) = true := bne_iff_ne.2 hkd
  clear hkd
  go_wp2_with (first | (refine Great.wpList_readTo rfl (some 14) rfl (.pointer (some (a.add (i * 2)))) (exec_indexAddr rfl (IJ.out _)) ?_))
  exact hcont.out _ _ _ _ _ _ _ _ _ _ _ _ _ _ _ _ _ _ _ _ _ _ _ _ _ _ _ _ _ _ _ _ _ _ _ _ _ _ _ _ _ _ _ _ _ _ _ _ _ _ _ _ _ _ _ _ _ _ _ _ _ _ _ _ _ _ R0.out B0.out
set_option maxRecDepth 100000 in
set_option maxHeartbeats 8000000 in
theorem ru0_work {w0 w : World} {a : Addr} {n cap i base capo : Nat} {A : Option Addr} {x : Int} {zs : List Int} {Q : Exit → Act → World → Prop} {N : Nat} {c0 c1 c2 c3 body : Code} {z0 : Nat}  {x1 x2 x5 x6 x7 x8 x9 x10 x11 x12 x13 x14 x15 x16 x17 x18 x19 x20 x21 x22 x23 x24 x25 x26 x27 x28 x29 x30 x31 x32 x33 x34 x35 x36 x37 x38 x39 x40 x41 x42 x43 x44 x45 x46 x47 x48 x49 x50 x51 x52 x53 x54 x55 x56 x57 x58 x59 x60 x61 x62 x63 x64 x65 x66 x67 : Value} (hB : Tryz.f15.body = some (.seq c0 (.seq c1 (.seq (.seq c2 (.block z0 (.loop body))) c3)))) (hPQ : Aside0 (∀ c a d v w, Q (.panic c) (a.put d v) w → Q (.panic c) a w)) (e0 : w.cell? (a.add (i * 2)) = some (.int .i64 2)) (ct : w.cell? ⟨(a.add (i * 2)).block, (a.add (i * 2)).off + 1, none⟩ = some (.int .i64 x)) (hi : i < n) (hn : n ≤ 100) (hl : zs.length ≤ 100) (hbase : base ≤ w.heap.size)
  (HR : RwI w base (.slice A zs.length capo) zs) (HB : Below w0.heap.size w0 w)
  (cont : ∀ (w' : World) (v' : Value) (y1 y2 y5 y6 y7 y8 y9 y10 y11 y12 y13 y14 y15 y16 y17 y18 y19 y20 y21 y22 y23 y24 y25 y26 y27 y28 y29 y30 y31 y32 y33 y34 y35 y36 y37 y38 y39 y40 y41 y42 y43 y44 y45 y46 y47 y48 y49 y50 y51 y52 y53 y54 y55 y56 y57 y58 y59 y60 y61 y62 y63 y64 y65 y66 y67 : Value), RwI w' base v' (insJ x zs) → Below w0.heap.size w0 w' → Code.rounds Tryz.prog body Q N ⟨#[.slice (some a) n cap, y1, y2, v', .int .i64 (i + 1), y5, y6, y7, y8, y9, y10, y11, y12, y13, y14, y15, y16, y17, y18, y19, y20, y21, y22, y23, y24, y25, y26, y27, y28, y29, y30, y31, y32, y33, y34, y35, y36, y37, y38, y39, y40, y41, y42, y43, y44, y45, y46, y47, y48, y49, y50, y51, y52, y53, y54, y55, y56, y57, y58, y59, y60, y61, y62, y63, y64, y65, y66, y67], []⟩ w') : Code.rounds Tryz.prog body Q (N + 1) ⟨#[.slice (some a) n cap, x1, x2, .slice A zs.length capo, .int .i64 i, x5, x6, x7, x8, x9, x10, x11, x12, x13, x14, x15, x16, x17, x18, x19, x20, x21, x22, x23, x24, x25, x26, x27, x28, x29, x30, x31, x32, x33, x34, x35, x36, x37, x38, x39, x40, x41, x42, x43, x44, x45, x46, x47, x48, x49, x50, x51, x52, x53, x54, x55, x56, x57, x58, x59, x60, x61, x62, x63, x64, x65, x66, x67], []⟩ w := by
 have hbody := ru0_body rfl hB
 clear hB
 subst hbody
 have hcont := Aside0.mk cont
 clear cont
 have IJ := Aside0.mk (fun (v : World) => s_index (w := v) (a := a) (cap := cap) hi)
 have R0 := Aside0.mk HR
 have B0 := Aside0.mk HB
 have C0 := Aside0.mk ct
 have hle := insK_le x zs
 clear HR HB ct
 rw [rounds_succ]
 go_wp2_with (first | (refine Great.wpList_readTo rfl (some 14) rfl (.pointer (some (a.add (i * 2)))) (exec_indexAddr rfl (IJ.out _)) ?_))
 have DB := Aside0.mk (Below.refl w.heap.size w)
 refine wp_loop_rounds (insK x zs + 1) ?_
 refine ru2_loop (x := x) (zs := zs) (base := base) (w0 := w) rfl ?hp C0.out hi hn hl ?_ (insK x zs) 0 w (by omega) R0.out (Below.refl _ _)
 case hp => exact ⟨fun _ _ _ _ _ h => hPQ.out _ _ _ _ _ h⟩
 intro w2 q1 q2 q6 q7 q8 q9 q10 q11 q12 q13 q14 q15 q16 q17 q18 q19 q20 q21 q22 q23 q24 q25 q26 q27 q28 q29 q30 q31 q32 q33 q34 q35 q36 q37 q38 q39 q40 q41 q42 q43 q44 q45 q46 q47 q48 q49 q50 q51 q52 q53 q54 q55 q56 q57 q58 q59 q60 q61 q62 q63 q64 q65 q66 q67 hr2 hb2
 have R2 := Aside0.mk hr2
 have B2 := Aside0.mk hb2
 have C2 := Aside0.mk ((hb2.cell (World.block_lt_of_cell? w _ C0.out)).trans C0.out)
 have BB := Aside0.mk (B0.out.trans ((DB.out.trans (hb2.mono DB.out.size)).mono B0.out.size))
 have hbs : base ≤ w2.heap.size := Nat.le_trans hbase (DB.out.trans (hb2.mono DB.out.size)).size
 clear hr2 hb2
 rcases insK_end x zs with ⟨h1, h2⟩ | ⟨h1, _, h3, h4⟩
 ·have hJ := Aside0.mk h2
  rw [h1]
  clear h2
  go_upto_region 9 with fail
  refine ru9_end rfl ?hp hl ?_
  case hp => exact ⟨fun _ _ _ _ _ h => hPQ.out _ _ _ _ _ h⟩
  intro r36 r37 r38 r39 r40 r41 r42 r43 r44 r45 r46 r47 r48 r49 r50
  go_upto_region 10 with fail
  refine ru_ins (base := base) (k := zs.length) rfl ?hp (R2.out.move (fun _ _ => rfl)) C2.out hi hn (Nat.le_refl _) hl hbs ?_
  case hp => exact ⟨fun _ _ _ _ _ h => hPQ.out _ _ _ _ _ h⟩
  intro w3 v3 y52 y53 y54 y55 y56 y57 y58 y59 y60 y61 y62 y63 y64 y65 y66 hr3 hb3
  have R3 := Aside0.mk (show RwI w3 base v3 (insJ x zs) by rw [hJ.out]; rw [List.take_length, List.drop_length] at hr3; exact hr3)
  have B3 := Aside0.mk (BB.out.trans ((Below.drew (Below.refl w2.heap.size w2)).mono BB.out.size |>.trans (hb3.mono (by have := BB.out.size; exact this))))
  clear hr3 hb3
  go_wp2
  exact hcont.out _ _ _ _ _ _ _ _ _ _ _ _ _ _ _ _ _ _ _ _ _ _ _ _ _ _ _ _ _ _ _ _ _ _ _ _ _ _ _ _ _ _ _ _ _ _ _ _ _ _ _ _ _ _ _ _ _ _ _ _ _ _ _ _ _ _ _ R3.out B3.out
 ·rcases R2.out.fn with ⟨_, e⟩ | ⟨g, cap', e, _⟩
  ·subst e; simp at h1
  ·injection e with ea eb ec
   subst ea ec
   clear eb
   have CG := Aside0.mk (R2.out.cell h1)
   by_cases hz : zs.getD (insK x zs) 0 = x
   ·have hJ := Aside0.mk (h3 hz)
    clear h3 h4
    go_upto_region 9 with fail
    refine ru9_had (z := zs.getD (insK x zs) 0) (x := x) rfl ?hp CG C2 hi hn h1 hl hz ?_
    case hp => exact ⟨fun _ _ _ _ _ h => hPQ.out _ _ _ _ _ h⟩
    intro r36 r37 r38 r39 r40 r41 r42 r43 r44 r45 r46 r47 r48 r49 r50
    go_wp2
    exact hcont.out _ _ _ _ _ _ _ _ _ _ _ _ _ _ _ _ _ _ _ _ _ _ _ _ _ _ _ _ _ _ _ _ _ _ _ _ _ _ _ _ _ _ _ _ _ _ _ _ _ _ _ _ _ _ _ _ _ _ _ _ _ _ _ _ _ _ _ (by rw [hJ.out]; exact R2.out.move (fun _ _ => rfl)) BB.out.drew
   ·have hJ := Aside0.mk (h4 hz)
    clear h3 h4
    go_upto_region 9 with fail
    refine ru9_new (z := zs.getD (insK x zs) 0) (x := x) rfl ?hp CG C2 hi hn h1 hl hz ?_
    case hp => exact ⟨fun _ _ _ _ _ h => hPQ.out _ _ _ _ _ h⟩
    intro r36 r37 r38 r39 r40 r41 r42 r43 r44 r45 r46 r47 r48 r49 r50
    go_upto_region 10 with fail
    refine ru_ins (base := base) (k := insK x zs) rfl ?hp (R2.out.move (fun _ _ => rfl)) C2.out hi hn hle hl hbs ?_
    case hp => exact ⟨fun _ _ _ _ _ h => hPQ.out _ _ _ _ _ h⟩
    intro w3 v3 y52 y53 y54 y55 y56 y57 y58 y59 y60 y61 y62 y63 y64 y65 y66 hr3 hb3
    have R3 := Aside0.mk (show RwI w3 base v3 (insJ x zs) by rw [hJ.out]; exact hr3)
    have B3 := Aside0.mk (BB.out.trans ((Below.drew (Below.refl w2.heap.size w2)).mono BB.out.size |>.trans (hb3.mono (by have := BB.out.size; exact this))))
    clear hr3 hb3
    go_wp2
    exact hcont.out _ _ _ _ _ _ _ _ _ _ _ _ _ _ _ _ _ _ _ _ _ _ _ _ _ _ _ _ _ _ _ _ _ _ _ _ _ _ _ _ _ _ _ _ _ _ _ _ _ _ _ _ _ _ _ _ _ _ _ _ _ _ _ _ _ _ _ R3.out B3.out
end Go.Proofs.YtikbgoppmailjaaGreatDoor.H
/- The document's Uses. -/
namespace Go.Proofs.YtikbgoppmailjaaGreatDoor.H
open Go.RowKit Go.HK Go.Lib Go.WideShapes Go.ChangeShapes Go.Proofs.YtikbgoppmailjaaGreatDoorW.PrintWords Go.Proofs.YtikbgoppmailjaaGreatDoorW.PrintLast Go.Proofs.YtikbgoppmailjaaGreatDoorW.PrintMore
set_option linter.unusedVariables false
set_option linter.unusedSimpArgs false
set_option maxRecDepth 100000 in
set_option maxHeartbeats 8000000 in
theorem ru0_end {w : World} {n cap : Nat} {A0 : Option Addr} {u : Value} {Q : Exit → Act → World → Prop} {N : Nat} {c0 c1 c2 c3 body : Code} {z0 : Nat}  {x1 x2 x5 x6 x7 x8 x9 x10 x11 x12 x13 x14 x15 x16 x17 x18 x19 x20 x21 x22 x23 x24 x25 x26 x27 x28 x29 x30 x31 x32 x33 x34 x35 x36 x37 x38 x39 x40 x41 x42 x43 x44 x45 x46 x47 x48 x49 x50 x51 x52 x53 x54 x55 x56 x57 x58 x59 x60 x61 x62 x63 x64 x65 x66 x67 : Value} (hB : Tryz.f15.body = some (.seq c0 (.seq c1 (.seq (.seq c2 (.block z0 (.loop body))) c3)))) (hn : n ≤ 100)
    (cont : ∀ (y1 y2 y5 y6 y7 y8 y9 y10 y11 y12 y13 y14 y15 y16 y17 y18 y19 y20 y21 y22 y23 y24 y25 y26 y27 y28 y29 y30 y31 y32 y33 y34 y35 y36 y37 y38 y39 y40 y41 y42 y43 y44 y45 y46 y47 y48 y49 y50 y51 y52 y53 y54 y55 y56 y57 y58 y59 y60 y61 y62 y63 y64 y65 y66 y67 : Value), Q (.exit 0) ⟨#[.slice A0 n cap, y1, y2, u, .int .i64 n, y5, y6, y7, y8, y9, y10, y11, y12, y13, y14, y15, y16, y17, y18, y19, y20, y21, y22, y23, y24, y25, y26, y27, y28, y29, y30, y31, y32, y33, y34, y35, y36, y37, y38, y39, y40, y41, y42, y43, y44, y45, y46, y47, y48, y49, y50, y51, y52, y53, y54, y55, y56, y57, y58, y59, y60, y61, y62, y63, y64, y65, y66, y67], []⟩ w) : Code.rounds Tryz.prog body Q (N + 1) ⟨#[.slice A0 n cap, x1, x2, u, .int .i64 n, x5, x6, x7, x8, x9, x10, x11, x12, x13, x14, x15, x16, x17, x18, x19, x20, x21, x22, x23, x24, x25, x26, x27, x28, x29, x30, x31, x32, x33, x34, x35, x36, x37, x38, x39, x40, x41, x42, x43, x44, x45, x46, x47, x48, x49, x50, x51, x52, x53, x54, x55, x56, x57, x58, x59, x60, x61, x62, x63, x64, x65, x66, x67], []⟩ w := by
  have hbody := ru0_body rfl hB
  clear hB
  subst hbody
  have hcont := Aside0.mk cont
  clear cont
  rw [rounds_succ]
  go_wp2
  exact hcont.out _ _ _ _ _ _ _ _ _ _ _ _ _ _ _ _ _ _ _ _ _ _ _ _ _ _ _ _ _ _ _ _ _ _ _ _ _ _ _ _ _ _ _ _ _ _ _ _ _ _ _ _ _ _ _ _ _ _ _ _ _ _ _ _ _
theorem names_two {x : S39} {l : List S39} (h : x.f0 = 2) : names (x :: l) = x.f1 :: names l := by
  simp only [names]
  exact if_pos h
theorem names_not {x : S39} {l : List S39} (h : x.f0 ≠ 2) : names (x :: l) = names l := by
  simp only [names]
  exact if_neg h
theorem ins_len (x : Int) : ∀ l : List Int, (insJ x l).length ≤ l.length + 1
  | [] => by simp [insJ]
  | y :: l => by
    unfold insJ
    have := ins_len x l
    split
    · simp only [List.length_cons]; omega
    · split <;> simp
set_option maxRecDepth 100000 in
set_option maxHeartbeats 8000000 in
theorem ru0_loop {w0 : World} {A0 : Option Addr} {cp base : Nat} {l : List S39} {T : List Int} {Q : Exit → Act → World → Prop} {c0 c1 c2 c3 body : Code} {z0 : Nat}  (hB : Tryz.f15.body = some (.seq c0 (.seq c1 (.seq (.seq c2 (.block z0 (.loop body))) c3)))) (hPQ : Aside0 (∀ c a d v w, Q (.panic c) (a.put d v) w → Q (.panic c) a w)) (HC : Kd.C k39 w0 A0 l.length l) (hc : l.length ≤ cp) (hl : l.length ≤ 100) (hbase : base ≤ w0.heap.size)
  (hK : ∀ (w' : World) (u : Value) (y1 y2 y5 y6 y7 y8 y9 y10 y11 y12 y13 y14 y15 y16 y17 y18 y19 y20 y21 y22 y23 y24 y25 y26 y27 y28 y29 y30 y31 y32 y33 y34 y35 y36 y37 y38 y39 y40 y41 y42 y43 y44 y45 y46 y47 y48 y49 y50 y51 y52 y53 y54 y55 y56 y57 y58 y59 y60 y61 y62 y63 y64 y65 y66 y67 : Value), RwI w' base u T → Below w0.heap.size w0 w' → Q (.exit 0) ⟨#[.slice A0 l.length cp, y1, y2, u, .int .i64 l.length, y5, y6, y7, y8, y9, y10, y11, y12, y13, y14, y15, y16, y17, y18, y19, y20, y21, y22, y23, y24, y25, y26, y27, y28, y29, y30, y31, y32, y33, y34, y35, y36, y37, y38, y39, y40, y41, y42, y43, y44, y45, y46, y47, y48, y49, y50, y51, y52, y53, y54, y55, y56, y57, y58, y59, y60, y61, y62, y63, y64, y65, y66, y67], []⟩ w') :
  ∀ (d i : Nat) (w : World) (u : Value) (zs : List Int) {y1 y2 y5 y6 y7 y8 y9 y10 y11 y12 y13 y14 y15 y16 y17 y18 y19 y20 y21 y22 y23 y24 y25 y26 y27 y28 y29 y30 y31 y32 y33 y34 y35 y36 y37 y38 y39 y40 y41 y42 y43 y44 y45 y46 y47 y48 y49 y50 y51 y52 y53 y54 y55 y56 y57 y58 y59 y60 y61 y62 y63 y64 y65 y66 y67 : Value}, i + d = l.length → zs.length ≤ i → T = (names (l.drop i)).foldl (fun a x => insJ x a) zs → RwI w base u zs → Below w0.heap.size w0 w → Code.rounds Tryz.prog body Q (d + 1) ⟨#[.slice A0 l.length cp, y1, y2, u, .int .i64 i, y5, y6, y7, y8, y9, y10, y11, y12, y13, y14, y15, y16, y17, y18, y19, y20, y21, y22, y23, y24, y25, y26, y27, y28, y29, y30, y31, y32, y33, y34, y35, y36, y37, y38, y39, y40, y41, y42, y43, y44, y45, y46, y47, y48, y49, y50, y51, y52, y53, y54, y55, y56, y57, y58, y59, y60, y61, y62, y63, y64, y65, y66, y67], []⟩ w := by
 intro d
 induction d with
 | zero =>
  intro i w u zs y1 y2 y5 y6 y7 y8 y9 y10 y11 y12 y13 y14 y15 y16 y17 y18 y19 y20 y21 y22 y23 y24 y25 y26 y27 y28 y29 y30 y31 y32 y33 y34 y35 y36 y37 y38 y39 y40 y41 y42 y43 y44 y45 y46 y47 y48 y49 y50 y51 y52 y53 y54 y55 y56 y57 y58 y59 y60 y61 y62 y63 y64 y65 y66 y67 hd hz hT HR HB
  obtain rfl : i = l.length := by omega
  rw [List.drop_of_length_le (Nat.le_refl _)] at hT
  have hT' : T = zs := hT
  subst hT'
  exact ru0_end hB hl (fun y1 y2 y5 y6 y7 y8 y9 y10 y11 y12 y13 y14 y15 y16 y17 y18 y19 y20 y21 y22 y23 y24 y25 y26 y27 y28 y29 y30 y31 y32 y33 y34 y35 y36 y37 y38 y39 y40 y41 y42 y43 y44 y45 y46 y47 y48 y49 y50 y51 y52 y53 y54 y55 y56 y57 y58 y59 y60 y61 y62 y63 y64 y65 y66 y67 => hK w u y1 y2 y5 y6 y7 y8 y9 y10 y11 y12 y13 y14 y15 y16 y17 y18 y19 y20 y21 y22 y23 y24 y25 y26 y27 y28 y29 y30 y31 y32 y33 y34 y35 y36 y37 y38 y39 y40 y41 y42 y43 y44 y45 y46 y47 y48 y49 y50 y51 y52 y53 y54 y55 y56 y57 y58 y59 y60 y61 y62 y63 y64 y65 y66 y67 HR HB)
 | succ d ih =>
  intro i w u zs y1 y2 y5 y6 y7 y8 y9 y10 y11 y12 y13 y14 y15 y16 y17 y18 y19 y20 y21 y22 y23 y24 y25 y26 y27 y28 y29 y30 y31 y32 y33 y34 y35 y36 y37 y38 y39 y40 y41 y42 y43 y44 y45 y46 y47 y48 y49 y50 y51 y52 y53 y54 y55 y56 y57 y58 y59 y60 y61 y62 y63 y64 y65 y66 y67 hd hz hT HR HB
  have hi : i < l.length := by omega
  have HCw := Kd.C_below HC HB
  obtain ⟨ad, eA, e0, e1⟩ := at_T39 HCw (i : Int) (by omega) (by omega)
  subst eA
  have hrd : rd_T39 l (i : Int) = l[i] := by
   unfold rd_T39
   rw [Int.toNat_natCast, List.getD_eq_getElem?_getD, List.getElem?_eq_getElem hi]
   rfl
  rw [hrd, Int.toNat_natCast] at e0 e1
  rw [List.drop_eq_getElem_cons hi] at hT
  generalize l[i] = x at *
  have hb := Nat.le_trans hbase HB.size
  by_cases ck : x.f0 = 2
  ·have hT2 : T = (names (l.drop (i + 1))).foldl (fun a x => insJ x a) (insJ x.f1 zs) := by
    rw [hT, names_two ck]
    rfl
   rw [ck] at e0
   rcases HR.fn with ⟨rfl, rfl⟩ | ⟨g, cap, rfl, _⟩
   ·exact ru0_work (A := none) (capo := 0) (zs := []) (x := x.f1) hB hPQ e0 e1 hi hl (by simp) hb HR HB (fun w' v' y1 y2 y5 y6 y7 y8 y9 y10 y11 y12 y13 y14 y15 y16 y17 y18 y19 y20 y21 y22 y23 y24 y25 y26 y27 y28 y29 y30 y31 y32 y33 y34 y35 y36 y37 y38 y39 y40 y41 y42 y43 y44 y45 y46 y47 y48 y49 y50 y51 y52 y53 y54 y55 y56 y57 y58 y59 y60 y61 y62 y63 y64 y65 y66 y67 hr hb' => ih (i + 1) w' v' _ (by omega) (by have := ins_len x.f1 []; simp at this; omega) hT2 hr hb')
   ·exact ru0_work (A := some ⟨g, 0, none⟩) (capo := cap) (zs := zs) (x := x.f1) hB hPQ e0 e1 hi hl (by omega) hb HR HB (fun w' v' y1 y2 y5 y6 y7 y8 y9 y10 y11 y12 y13 y14 y15 y16 y17 y18 y19 y20 y21 y22 y23 y24 y25 y26 y27 y28 y29 y30 y31 y32 y33 y34 y35 y36 y37 y38 y39 y40 y41 y42 y43 y44 y45 y46 y47 y48 y49 y50 y51 y52 y53 y54 y55 y56 y57 y58 y59 y60 y61 y62 y63 y64 y65 y66 y67 hr hb' => ih (i + 1) w' v' _ (by omega) (by have := ins_len x.f1 zs; omega) hT2 hr hb')
  ·have hT2 : T = (names (l.drop (i + 1))).foldl (fun a x => insJ x a) zs := by
    rw [hT, names_not ck]
   exact ru0_skip (kd := x.f0) hB hPQ e0 hi hl ck HR HB (fun w' y1 y2 y5 y6 y7 y8 y9 y10 y11 y12 y13 y14 y15 y16 y17 y18 y19 y20 y21 y22 y23 y24 y25 y26 y27 y28 y29 y30 y31 y32 y33 y34 y35 y36 y37 y38 y39 y40 y41 y42 y43 y44 y45 y46 y47 y48 y49 y50 y51 y52 y53 y54 y55 y56 y57 y58 y59 y60 y61 y62 y63 y64 y65 y66 y67 hr hb' => ih (i + 1) w' u zs (by omega) (by omega) hT2 hr hb')
set_option maxRecDepth 100000 in
set_option maxHeartbeats 8000000 in
theorem ruses_calls {w : World} {A0 : Option Addr} {cp : Nat} {l : List S39} (hr0 : Kd.C k39 w A0 l.length l) (hc0 : l.length ≤ cp) (hl : l.length ≤ 100) :
    Calls Tryz.prog 15 #[.slice A0 l.length cp] w fun e w' => ∃ v, e = .returned v ∧ RwI w' w.heap.size v (jset (names l)) ∧ Below w.heap.size w w' := by
  obtain ⟨T, hT⟩ : ∃ T, T = (names l).foldl (fun a x => insJ x a) [] := ⟨_, rfl⟩
  rw [← insJ_fold, ← hT]
  have H := Aside0.mk hr0
  have HT := Aside0.mk hT
  clear hr0 hT
  go_enter Tryz.func15, Tryz.ntmps15
  go_wp2
  refine wp_loop_rounds (l.length + 1) ?_
  refine ru0_loop (l := l) (T := T) (w0 := w) (base := w.heap.size) rfl ?hp H.out hc0 hl (Nat.le_refl _) ?hk l.length 0 w (.slice none 0 0) [] (by omega) (Nat.le_refl _) HT.out (RwI.nil _ _) (Below.refl _ _)
  case hp => exact ⟨fun c a d v w h => by cases d <;> exact h⟩
  case hk =>
    intro w' u y1 y2 y5 y6 y7 y8 y9 y10 y11 y12 y13 y14 y15 y16 y17 y18 y19 y20 y21 y22 y23 y24 y25 y26 y27 y28 y29 y30 y31 y32 y33 y34 y35 y36 y37 y38 y39 y40 y41 y42 y43 y44 y45 y46 y47 y48 y49 y50 y51 y52 y53 y54 y55 y56 y57 y58 y59 y60 y61 y62 y63 y64 y65 y66 y67 hr hb
    have R1 := Aside0.mk hr
    have B1 := Aside0.mk hb
    clear hr hb
    go_wp2
    go_ret
    exact ⟨_, rfl, R1.out, B1.out⟩
end Go.Proofs.YtikbgoppmailjaaGreatDoor.H
-- Written by hp.py (a program of this session, over the kit's print.py), with hand-made contracts beside it.
namespace Go.Proofs.YtikbgoppmailjaaGreatDoor.H
open Go.RowKit Go.Proofs.YtikbgoppmailjaaGreatDoorW.PrintWords Go.Proofs.YtikbgoppmailjaaGreatDoorW.PrintLast Go.Proofs.YtikbgoppmailjaaGreatDoorW.PrintMore
attribute [local go_sem] max2_int min2_int max_two min_two max_three min_three max_four min_four   -- for this text's walks alone
set_option linter.unusedVariables false
set_option linter.unusedSimpArgs false

-- HANDMADE remontoir/remontoirref14.Uses
/-! ### remontoirref14_Uses: function 15 -/
def remontoirref14_Uses.f (l0 : List S39) : Option (List Int) := if l0.length ≤ 60 then some (jset (names l0)) else none
theorem remontoirref14_Uses.calls (A0 : Option Addr) (c0 : Nat) (l0 : List S39) (r : List Int) (w : World) (hr0 : Kd.C k39 w A0 l0.length l0) (hc0 : l0.length ≤ c0) (h : remontoirref14_Uses.f l0 = some r) :
    Calls Tryz.prog 15 #[.slice A0 l0.length c0] w fun e w' => ∃ v0_ : Value, e = .returned (v0_) ∧ Kd.R (Kd.int .i64) 3 w' w.heap.size (fun _ => True) v0_ r ∧ Below w.heap.size w w' := by
  unfold remontoirref14_Uses.f at h
  by_cases hl : l0.length ≤ 60
  · rw [if_pos hl] at h
    obtain rfl := Option.some.inj h
    refine (ruses_calls hr0 hc0 (by omega)).mono ?_
    rintro e w' ⟨v, rfl, h1, h2⟩
    exact ⟨v, rfl, rwI_R h1, h2⟩
  · rw [if_neg hl] at h
    cases h


end Go.Proofs.YtikbgoppmailjaaGreatDoor.H
-- Written by hp.py (a program of this session, over the kit's print.py), with hand-made contracts beside it.
namespace Go.Proofs.YtikbgoppmailjaaGreatDoor.H
open Go.RowKit Go.Proofs.YtikbgoppmailjaaGreatDoorW.PrintWords Go.Proofs.YtikbgoppmailjaaGreatDoorW.PrintLast Go.Proofs.YtikbgoppmailjaaGreatDoorW.PrintMore
attribute [local go_sem] max2_int min2_int max_two min_two max_three min_three max_four min_four   -- for this text's walks alone
set_option linter.unusedVariables false
set_option linter.unusedSimpArgs false

/-! ### remontoirlaw14_GuardPrints: function 4 -/
def remontoirlaw14_GuardPrints.f (k : Nat) (l0 : List (S39)) : Option (Bool) := if (l0.length : Int) > 60 then ((remontoirlaw14_wakes.f k).bind fun t242 => (some t242)) else ((guard_Print.f k l0).bind fun bt243 => ((remontoirref14_Print.f k l0).bind fun bt245 => ((guard_Good.f k l0).bind fun t248 => ((remontoirref14_Good.f k l0).bind fun t249 => (if (t248 == t249) = true then (if bt243.1.toList = bt245.1.toList then (if (bt243.2 == bt245.2) = true then ((guard_Uses.f l0).bind fun t250 => ((remontoirref14_Uses.f l0).bind fun t253 => ((remontoirkeep_Ints.f k t250 t253).bind fun t256 => (if t256 = true then ((remontoirlaw14_wakes.f k).bind fun t257 => (some t257)) else (some false))))) else (some false)) else (some false)) else (some false))))))
theorem remontoirlaw14_GuardPrints.mono : ∀ a0 k, LeO (remontoirlaw14_GuardPrints.f k a0) (remontoirlaw14_GuardPrints.f (k + 1) a0) := by
  intro a0 k
  unfold remontoirlaw14_GuardPrints.f
  repeat' first
      | (with_reducible exact guard_Good.mono _ _)
      | (with_reducible exact guard_Print.mono _ _)
      | (with_reducible exact remontoirkeep_Ints.mono _ _ _)
      | (with_reducible exact remontoirlaw14_wakes.mono _)
      | (with_reducible exact remontoirref14_Good.mono _ _)
      | (with_reducible exact remontoirref14_Print.mono _ _)
      | (with_reducible exact LeO.refl _)
      | (with_reducible exact LeO.none _)
      | (with_reducible refine LeO.ite ?_ ?_)
      | (with_reducible refine LeO.bind ?_ (fun _ => ?_))
      | exact guard_Good.mono _ _
      | exact guard_Print.mono _ _
      | exact remontoirkeep_Ints.mono _ _ _
      | exact remontoirlaw14_wakes.mono _
      | exact remontoirref14_Good.mono _ _
      | exact remontoirref14_Print.mono _ _
      | exact LeO.none _
      | refine LeO.ite ?_ ?_
      | refine LeO.bind ?_ (fun _ => ?_)
set_option maxHeartbeats 8000000 in
set_option maxRecDepth 100000 in
theorem remontoirlaw14_GuardPrints.calls (k : Nat) (A0 : Option Addr) (c0 : Nat) (l0 : List (S39)) (w : World) (hr0 : Kd.C k39 w A0 l0.length l0) (hc0 : l0.length ≤ c0) (hT : Tabs2 w) (h : remontoirlaw14_GuardPrints.f k l0 = some true) :
  Calls Tryz.prog 4 #[.slice A0 l0.length c0] w fun e w' => e = .returned (.bool true) ∧ Below w.heap.size w w' := by
 have hu32 := Tryz.underlying32
 have HR0 := Aside0.mk hr0
 have HC0 := Aside0.mk hc0
 clear hr0 hc0
 have HB := Aside0.mk (Below.refl w.heap.size w)
 have H : (if (l0.length : Int) > 60 then ((remontoirlaw14_wakes.f k).bind fun t242 => (some t242)) else ((guard_Print.f k l0).bind fun bt243 => ((remontoirref14_Print.f k l0).bind fun bt245 => ((guard_Good.f k l0).bind fun t248 => ((remontoirref14_Good.f k l0).bind fun t249 => (if (t248 == t249) = true then (if bt243.1.toList = bt245.1.toList then (if (bt243.2 == bt245.2) = true then ((guard_Uses.f l0).bind fun t250 => ((remontoirref14_Uses.f l0).bind fun t253 => ((remontoirkeep_Ints.f k t250 t253).bind fun t256 => (if t256 = true then ((remontoirlaw14_wakes.f k).bind fun t257 => (some t257)) else (some false))))) else (some false)) else (some false)) else (some false))))))) = some true := h
 clear h
 by_cases c2 : (l0.length : Int) > 60
 ·rw [if_pos c2] at H
  have c2b0 : decide (60 < (l0.length : Int)) = true := decide_eq_true c2
  have c2b1 : decide (60 < l0.length) = true := decide_eq_true (by omega)
  clear c2
  replace H := Option.bind_eq_some_iff.mp H
  obtain ⟨t242, A30, H⟩ := H
  replace H : (some t242) = some true := H
  have A3 := Aside0.mk A30
  clear A30
  obtain rfl := Option.some.inj H
  go_enter Tryz.func4, Tryz.ntmps4
  go_wp2_with (first | ((with_reducible refine gate_callee (f := 5) rfl ?_); refine goesL_ (some 9) rfl rfl Tryz.func5 (by kernel_rfl) rfl #[] rfl (by (try simp only [List.map_toArray, List.map_cons, List.map_nil]); first | done | rfl | (simp only [List.length_drop, List.length_take]; rfl)) ?_; (with_reducible refine (remontoirlaw14_wakes.calls k  _ (Tabs2.below hT (by repeat (first | (with_reducible first | exact HB.out | apply bal | apply pbN | apply bd1) | exact HB.out))) A3.out).mono ?_); rintro e w4 ⟨rfl, hb⟩; refine ⟨_, rfl, ?_⟩; have n0_ := Aside0.mk (bsp (by repeat (first | (with_reducible first | exact HB.out | apply bal | apply pbN | apply bd1) | exact HB.out)) hb); clear HB; have HB := n0_; clear n0_; (try clear hb); (try clear hb2); (try clear hk); (try clear hi)))
  go_ret
  exact ⟨by first | rfl | (simp [errW_none, errW_some] <;> rfl) | (simp [*, errW_none, errW_some] <;> rfl), by repeat (first | (with_reducible first | exact HB.out | apply bal | apply pbN | apply bd1) | exact HB.out)⟩
 ·rw [if_neg c2] at H
  have c2b0 : decide (60 < (l0.length : Int)) = false := decide_eq_false c2
  have c2b1 : decide (60 < l0.length) = false := decide_eq_false (by omega)
  clear c2
  replace H := Option.bind_eq_some_iff.mp H
  obtain ⟨⟨t243, t244⟩, A50, H⟩ := H
  replace H : ((remontoirref14_Print.f k l0).bind fun bt245 => ((guard_Good.f k l0).bind fun t248 => ((remontoirref14_Good.f k l0).bind fun t249 => (if (t248 == t249) = true then (if t243.toList = bt245.1.toList then (if (t244 == bt245.2) = true then ((guard_Uses.f l0).bind fun t250 => ((remontoirref14_Uses.f l0).bind fun t253 => ((remontoirkeep_Ints.f k t250 t253).bind fun t256 => (if t256 = true then ((remontoirlaw14_wakes.f k).bind fun t257 => (some t257)) else (some false))))) else (some false)) else (some false)) else (some false))))) = some true := H
  have A5 := Aside0.mk A50
  clear A50
  replace H := Option.bind_eq_some_iff.mp H
  obtain ⟨⟨t245, t246⟩, A60, H⟩ := H
  replace H : ((guard_Good.f k l0).bind fun t248 => ((remontoirref14_Good.f k l0).bind fun t249 => (if (t248 == t249) = true then (if t243.toList = t245.toList then (if (t244 == t246) = true then ((guard_Uses.f l0).bind fun t250 => ((remontoirref14_Uses.f l0).bind fun t253 => ((remontoirkeep_Ints.f k t250 t253).bind fun t256 => (if t256 = true then ((remontoirlaw14_wakes.f k).bind fun t257 => (some t257)) else (some false))))) else (some false)) else (some false)) else (some false)))) = some true := H
  have A6 := Aside0.mk A60
  clear A60
  replace H := Option.bind_eq_some_iff.mp H
  obtain ⟨t248, A70, H⟩ := H
  replace H : ((remontoirref14_Good.f k l0).bind fun t249 => (if (t248 == t249) = true then (if t243.toList = t245.toList then (if (t244 == t246) = true then ((guard_Uses.f l0).bind fun t250 => ((remontoirref14_Uses.f l0).bind fun t253 => ((remontoirkeep_Ints.f k t250 t253).bind fun t256 => (if t256 = true then ((remontoirlaw14_wakes.f k).bind fun t257 => (some t257)) else (some false))))) else (some false)) else (some false)) else (some false))) = some true := H
  have A7 := Aside0.mk A70
  clear A70
  replace H := Option.bind_eq_some_iff.mp H
  obtain ⟨t249, A80, H⟩ := H
  replace H : (if (t248 == t249) = true then (if t243.toList = t245.toList then (if (t244 == t246) = true then ((guard_Uses.f l0).bind fun t250 => ((remontoirref14_Uses.f l0).bind fun t253 => ((remontoirkeep_Ints.f k t250 t253).bind fun t256 => (if t256 = true then ((remontoirlaw14_wakes.f k).bind fun t257 => (some t257)) else (some false))))) else (some false)) else (some false)) else (some false)) = some true := H
  have A8 := Aside0.mk A80
  clear A80
  by_cases c9 : (t248 == t249) = true
  ·rw [if_pos c9] at H
   have c9b0 : (t248 == t249) = true := c9
   (try (have c9b1 : decide (t248 = t249) = true := by simpa using c9))
   (try (have c9b2 : (t248 == t249) = true := by simpa using c9))
   clear c9
   by_cases c10 : t243.toList = t245.toList
   ·rw [if_pos c10] at H
    have c10b0 : (t243.toList == t245.toList) = true := beq_iff_eq.mpr c10
    have c10b1 : (t243.toList != t245.toList) = false := bne_eq_false_iff_eq.mpr c10
    clear c10
    by_cases c11 : (t244 == t246) = true
    ·rw [if_pos c11] at H
     have c11b0 : (t244 == t246) = true := c11
     (try (have c11b1 : decide (t244 = t246) = true := by simpa using c11))
     (try (have c11b2 : (t244 == t246) = true := by simpa using c11))
     clear c11
     replace H := Option.bind_eq_some_iff.mp H
     obtain ⟨t250, A120, H⟩ := H
     replace H : ((remontoirref14_Uses.f l0).bind fun t253 => ((remontoirkeep_Ints.f k t250 t253).bind fun t256 => (if t256 = true then ((remontoirlaw14_wakes.f k).bind fun t257 => (some t257)) else (some false)))) = some true := H
     have A12 := Aside0.mk A120
     clear A120
     replace H := Option.bind_eq_some_iff.mp H
     obtain ⟨t253, A130, H⟩ := H
     replace H : ((remontoirkeep_Ints.f k t250 t253).bind fun t256 => (if t256 = true then ((remontoirlaw14_wakes.f k).bind fun t257 => (some t257)) else (some false))) = some true := H
     have A13 := Aside0.mk A130
     clear A130
     replace H := Option.bind_eq_some_iff.mp H
     obtain ⟨t256, A140, H⟩ := H
     replace H : (if t256 = true then ((remontoirlaw14_wakes.f k).bind fun t257 => (some t257)) else (some false)) = some true := H
     have A14 := Aside0.mk A140
     clear A140
     by_cases c15 : t256 = true
     ·subst c15
      have H1 : ((remontoirlaw14_wakes.f k).bind fun t257 => (some t257)) = some true := by rw [if_pos rfl] at H; exact H
      clear H
      have H := H1
      clear H1
      replace H := Option.bind_eq_some_iff.mp H
      obtain ⟨t257, A160, H⟩ := H
      replace H : (some t257) = some true := H
      have A16 := Aside0.mk A160
      clear A160
      obtain rfl := Option.some.inj H
      go_enter Tryz.func4, Tryz.ntmps4
      go_wp2_with (first | ((with_reducible refine gate_callee (f := 9) rfl ?_); refine goesL_ (some 12) rfl rfl Tryz.func9 (by kernel_rfl) rfl #[.slice A0 l0.length c0] rfl (by (try simp only [List.map_toArray, List.map_cons, List.map_nil]); first | done | rfl | (simp only [List.length_drop, List.length_take]; rfl)) ?_; (with_reducible refine (guard_Print.calls k _ _ l0 t243 t244 _ ?side1 ?side2 (Tabs.below hT.toTabs (by repeat (first | (with_reducible first | exact HB.out | apply bal | apply pbN | apply bd1) | exact HB.out))) A5.out).mono ?_); (case side1 => repeat (first | exact HR0.out | (with_reducible refine Kd.C_alloc ?_ _) | (with_reducible refine Kd.C_drewN ?_ _) | (with_reducible refine Kd.C_drew ?_))); (case side2 => exact HC0.out); rintro e w17 ⟨rfl, hb⟩; refine ⟨_, rfl, ?_⟩; have n0_ := Aside0.mk (bsp (by repeat (first | (with_reducible first | exact HB.out | apply bal | apply pbN | apply bd1) | exact HB.out)) hb); clear HB; have HB := n0_; clear n0_; (try clear hb); (try clear hb2); (try clear hk); (try clear hi)) | ((with_reducible refine gate_callee (f := 10) rfl ?_); refine goesL_ (some 16) rfl rfl Tryz.func10 (by kernel_rfl) rfl #[.slice A0 l0.length c0] rfl (by (try simp only [List.map_toArray, List.map_cons, List.map_nil]); first | done | rfl | (simp only [List.length_drop, List.length_take]; rfl)) ?_; (with_reducible refine (remontoirref14_Print.calls k _ _ l0 t245 t246 _ ?side1 ?side2 A6.out).mono ?_); (case side1 => repeat (first | exact (Kd.C_below HR0.out HB.out) | (with_reducible refine Kd.C_alloc ?_ _) | (with_reducible refine Kd.C_drewN ?_ _) | (with_reducible refine Kd.C_drew ?_))); (case side2 => exact HC0.out); rintro e w18 ⟨rfl, hb⟩; refine ⟨_, rfl, ?_⟩; have n0_ := Aside0.mk (bsp (by repeat (first | (with_reducible first | exact HB.out | apply bal | apply pbN | apply bd1) | exact HB.out)) hb); clear HB; have HB := n0_; clear n0_; (try clear hb); (try clear hb2); (try clear hk); (try clear hi)) | ((with_reducible refine gate_dst (N := 5) rfl ?_); refine box_event ?hg (N := 5) ?hd (cs := #[.string (⟨#[]⟩ : ByteArray), .bool false]) (t := 32) ?hr ?_; (case hd => rfl); (case hg => rfl); (case hr => first | (go_simp; done) | (go_simp; rfl)); intro gb247 hg w19 hbox hb; have n0_ := Aside0.mk (bsp (by repeat (first | (with_reducible first | exact HB.out | apply bal | apply pbN | apply bd1) | exact HB.out)) hb); have n1_ := Aside0.mk (hbox); have n2_ := Aside0.mk ((by rw [hg]; exact (bsz (by repeat (first | (with_reducible first | exact HB.out | apply bal | apply pbN | apply bd1) | exact HB.out))) : w.heap.size ≤ gb247)); have n3_ := Aside0.mk ((by rw [hg]; exact (bsz (by repeat (first | (with_reducible first | exact HB.out | apply bal | apply pbN | apply bd1) | exact HB.out))) : w.heap.size ≤ gb247)); clear HB; have HB := n0_; have BK247 := n1_; have GW247 := n2_; have GE247 := n3_; clear n0_ n1_ n2_ n3_; clear hb hbox hg; have hcz20_0 : w19.cell? ⟨gb247, 0, none⟩ = some (.string (⟨#[]⟩ : ByteArray)) := (bce BK247.out 0).trans rfl; have hcz20_1 : w19.cell? ⟨gb247, 1, none⟩ = some (.bool false) := (bce BK247.out 1).trans rfl; have hfz20_0 := bfz BK247.out 0; have hfz20_1 := bfz BK247.out 1) | ((with_reducible refine gate_callee (f := 11) rfl ?_); refine goesL_ (some 18) rfl rfl Tryz.func11 (by kernel_rfl) rfl #[.slice A0 l0.length c0] rfl (by (try simp only [List.map_toArray, List.map_cons, List.map_nil]); first | done | rfl | (simp only [List.length_drop, List.length_take]; rfl)) ?_; (with_reducible refine (guard_Good.calls k _ _ l0 t248 _ ?side1 ?side2 A7.out).mono ?_); (case side1 => exact Kd.C_below HR0.out (by repeat (first | (with_reducible first | exact HB.out | apply bal | apply pbN | apply bd1 | refine bst ?_ GE247.out) | exact HB.out))); (case side2 => exact HC0.out); rintro e w21 ⟨rfl, hb⟩; refine ⟨_, rfl, ?_⟩; have n0_ := Aside0.mk (bbe (g := gb247) (o := .cells #[.string t245, .bool t246] 32 (0, 0)) (by (with_reducible repeat (first | refine bkn ?_ _ | refine bkd ?_ | refine bka ?_ _)); refine blk_put (cs := #[.string t245, .bool false]) ?_ 1 _ rfl; (with_reducible repeat (first | refine bkn ?_ _ | refine bkd ?_ | refine bka ?_ _)); refine blk_put (cs := #[.string (⟨#[]⟩ : ByteArray), .bool false]) ?_ 0 _ rfl; (with_reducible repeat (first | refine bkn ?_ _ | refine bkd ?_ | refine bka ?_ _)); exact BK247.out) hb); have n1_ := Aside0.mk (bsp (by repeat (first | (with_reducible first | exact HB.out | apply bal | apply pbN | apply bd1 | refine bst ?_ GE247.out) | exact HB.out)) hb); clear BK247; clear HB; have BK247 := n0_; have HB := n1_; clear n0_ n1_; (try clear hb); (try clear hb2); (try clear hk); (try clear hi)) | ((with_reducible refine gate_callee (f := 12) rfl ?_); refine goesL_ (some 20) rfl rfl Tryz.func12 (by kernel_rfl) rfl #[.slice A0 l0.length c0] rfl (by (try simp only [List.map_toArray, List.map_cons, List.map_nil]); first | done | rfl | (simp only [List.length_drop, List.length_take]; rfl)) ?_; (with_reducible refine (remontoirref14_Good.calls k _ _ l0 t249 _ ?side1 ?side2 A8.out).mono ?_); (case side1 => repeat (first | exact (Kd.C_below HR0.out HB.out) | (with_reducible refine Kd.C_alloc ?_ _) | (with_reducible refine Kd.C_drewN ?_ _) | (with_reducible refine Kd.C_drew ?_))); (case side2 => exact HC0.out); rintro e w22 ⟨rfl, hb⟩; refine ⟨_, rfl, ?_⟩; have n0_ := Aside0.mk (bbe (g := gb247) (o := .cells #[.string t245, .bool t246] 32 (0, 0)) (by (with_reducible repeat (first | refine bkn ?_ _ | refine bkd ?_ | refine bka ?_ _)); exact BK247.out) hb); have n1_ := Aside0.mk (bsp (by repeat (first | (with_reducible first | exact HB.out | apply bal | apply pbN | apply bd1 | refine bst ?_ GE247.out) | exact HB.out)) hb); clear BK247; clear HB; have BK247 := n0_; have HB := n1_; clear n0_ n1_; (try clear hb); (try clear hb2); (try clear hk); (try clear hi); have hcz23_0 : w22.cell? ⟨gb247, 0, none⟩ = some (.string t245) := (bce BK247.out 0).trans rfl; have hcz23_1 : w22.cell? ⟨gb247, 1, none⟩ = some (.bool t246) := (bce BK247.out 1).trans rfl; have hfz23_0 := bfz BK247.out 0; have hfz23_1 := bfz BK247.out 1) | (go_at_call 14; (with_reducible refine (guard_Uses.calls _ _ l0 t250 _ ?side1 ?side2 A12.out).mono ?_); (case side1 => repeat (first | exact (Kd.C_below HR0.out HB.out) | (with_reducible refine Kd.C_alloc ?_ _) | (with_reducible refine Kd.C_drewN ?_ _) | (with_reducible refine Kd.C_drew ?_))); (case side2 => exact HC0.out); rintro e w24 ⟨v251, rfl, ho0, hb⟩; have n0_ := Aside0.mk (Kd.R_lower ho0 (bsz (by repeat (first | (with_reducible first | exact HB.out | apply bal | apply pbN | apply bd1 | refine bst ?_ GE247.out) | exact HB.out)))); have n1_ := Aside0.mk (bbe (g := gb247) (o := .cells #[.string t245, .bool t246] 32 (0, 0)) (by (with_reducible repeat (first | refine bkn ?_ _ | refine bkd ?_ | refine bka ?_ _)); exact BK247.out) hb); have n2_ := Aside0.mk (bsp (by repeat (first | (with_reducible first | exact HB.out | apply bal | apply pbN | apply bd1 | refine bst ?_ GE247.out) | exact HB.out)) hb); clear BK247; clear HB; have HO252 := n0_; have BK247 := n1_; have HB := n2_; clear n0_ n1_ n2_; (try clear hb); (try clear hb2); (try clear hk); (try clear hi); (try clear ho0)) | (go_at_call 15; (with_reducible refine (remontoirref14_Uses.calls _ _ l0 t253 _ ?side1 ?side2 A13.out).mono ?_); (case side1 => repeat (first | exact (Kd.C_below HR0.out HB.out) | (with_reducible refine Kd.C_alloc ?_ _) | (with_reducible refine Kd.C_drewN ?_ _) | (with_reducible refine Kd.C_drew ?_))); (case side2 => exact HC0.out); rintro e w25 ⟨v254, rfl, ho0, hb⟩; have n0_ := Aside0.mk (Kd.R_elder' (by (with_reducible repeat (first | apply Kd.R_alloc | apply Kd.R_drewN | apply Kd.R_drew)); exact HO252.out) (Kd.R_base ho0) hb); have n1_ := Aside0.mk (Kd.R_lower (Kd.R_new' ho0 (Kd.R_lt (by (with_reducible repeat (first | apply Kd.R_alloc | apply Kd.R_drewN | apply Kd.R_drew)); exact HO252.out))) (bsz (by repeat (first | (with_reducible first | exact HB.out | apply bal | apply pbN | apply bd1 | refine bst ?_ GE247.out) | exact HB.out)))); have n2_ := Aside0.mk (bbe (g := gb247) (o := .cells #[.string t245, .bool t246] 32 (0, 0)) (by (with_reducible repeat (first | refine bkn ?_ _ | refine bkd ?_ | refine bka ?_ _)); exact BK247.out) hb); have n3_ := Aside0.mk (bsp (by repeat (first | (with_reducible first | exact HB.out | apply bal | apply pbN | apply bd1 | refine bst ?_ GE247.out) | exact HB.out)) hb); clear HO252; clear BK247; clear HB; have HO252 := n0_; have HO255 := n1_; have BK247 := n2_; have HB := n3_; clear n0_ n1_ n2_ n3_; (try clear hb); (try clear hb2); (try clear hk); (try clear hi); (try clear ho0); obtain ⟨Ao26, co26, eo26⟩ := Kd.R_slice HO252.out; subst eo26; obtain ⟨Ao27, co27, eo27⟩ := Kd.R_slice HO255.out; subst eo27) | (go_at_call 13; (with_reducible refine (remontoirkeep_Ints.calls k _ _ t250 _ _ t253 true _ ?side1 ?side2 ?side3 ?side4 A14.out).mono ?_); (case side1 => repeat (first | exact (Kd.R_reads' HO252.out).2.2 | (with_reducible refine Kd.C_alloc ?_ _) | (with_reducible refine Kd.C_drewN ?_ _) | (with_reducible refine Kd.C_drew ?_))); (case side2 => exact (Kd.R_reads' HO252.out).2.1); (case side3 => repeat (first | exact (Kd.R_reads' HO255.out).2.2 | (with_reducible refine Kd.C_alloc ?_ _) | (with_reducible refine Kd.C_drewN ?_ _) | (with_reducible refine Kd.C_drew ?_))); (case side4 => exact (Kd.R_reads' HO255.out).2.1); rintro e w' ⟨rfl, ⟨nd, rfl⟩⟩) | (go_at_call 5; (with_reducible refine (remontoirlaw14_wakes.calls k  _ (Tabs2.below hT (by repeat (first | (with_reducible first | exact HB.out | apply bal | apply pbN | apply bd1 | refine bst ?_ GE247.out) | exact HB.out))) A16.out).mono ?_); rintro e w28 ⟨rfl, hb⟩; have n0_ := Aside0.mk (Kd.R_below (by (with_reducible repeat (first | apply Kd.R_alloc | apply Kd.R_drewN | apply Kd.R_drew)); exact HO252.out) hb); have n1_ := Aside0.mk (Kd.R_below (by (with_reducible repeat (first | apply Kd.R_alloc | apply Kd.R_drewN | apply Kd.R_drew)); exact HO255.out) hb); have n2_ := Aside0.mk (bbe (g := gb247) (o := .cells #[.string t245, .bool t246] 32 (0, 0)) (by (with_reducible repeat (first | refine bkn ?_ _ | refine bkd ?_ | refine bka ?_ _)); exact BK247.out) hb); have n3_ := Aside0.mk (bsp (by repeat (first | (with_reducible first | exact HB.out | apply bal | apply pbN | apply bd1 | refine bst ?_ GE247.out) | exact HB.out)) hb); clear HO252; clear HO255; clear BK247; clear HB; have HO252 := n0_; have HO255 := n1_; have BK247 := n2_; have HB := n3_; clear n0_ n1_ n2_ n3_; (try clear hb); (try clear hb2); (try clear hk); (try clear hi)))
      go_ret
      exact ⟨by first | rfl | (simp [errW_none, errW_some] <;> rfl) | (simp [*, errW_none, errW_some] <;> rfl), by repeat (first | (with_reducible first | exact HB.out | apply bal | apply pbN | apply bd1 | refine bst ?_ GE247.out) | exact HB.out)⟩
     ·replace c15 := Bool.eq_false_iff.mpr c15
      subst c15
      have H1 : (some false) = some true := by rw [if_neg (show ¬ (false = true) by decide)] at H; exact H
      clear H
      have H := H1
      clear H1
      exact absurd (Option.some.inj H) (by decide)
    ·rw [if_neg c11] at H
     have c11b0 : (t244 == t246) = false := by simpa using c11
     (try (have c11b1 : decide (t244 = t246) = false := by simpa using c11))
     (try (have c11b2 : (t244 == t246) = false := by simpa using c11))
     (try (have c11b3 : ¬ (t244 = t246) := by simpa using c11))
     clear c11
     exact absurd (Option.some.inj H) (by decide)
   ·rw [if_neg c10] at H
    have c10b0 : (t243.toList == t245.toList) = false := beq_eq_false_iff_ne.mpr c10
    have c10b1 : (t243.toList != t245.toList) = true := bne_iff_ne.mpr c10
    exact absurd (Option.some.inj H) (by decide)
  ·rw [if_neg c9] at H
   have c9b0 : (t248 == t249) = false := by simpa using c9
   (try (have c9b1 : decide (t248 = t249) = false := by simpa using c9))
   (try (have c9b2 : (t248 == t249) = false := by simpa using c9))
   (try (have c9b3 : ¬ (t248 = t249) := by simpa using c9))
   clear c9
   exact absurd (Option.some.inj H) (by decide)
end Go.Proofs.YtikbgoppmailjaaGreatDoor.H
/- A sign's text; signs' texts, joined. -/
namespace Go.Proofs.YtikbgoppmailjaaGreatDoor.Pure
open Go.RowKit Go.Proofs.YtikbgoppmailjaaGreatDoor.H Go.Proofs.YtikbgoppmailjaaGreatDoorW.PrintWords Go.Proofs.YtikbgoppmailjaaGreatDoorW.PrintLast Go.Proofs.YtikbgoppmailjaaGreatDoorW.PrintMore
set_option linter.unusedVariables false
set_option linter.unusedSimpArgs false
theorem digS_len : ∀ (f u : Nat), (digS f u).length ≤ f
  | 0, u => by simp [digS]
  | f + 1, u => by
    unfold digS
    split
    · simp
    · rw [List.length_append]
      have := digS_len f (u / 10)
      simp; omega
theorem text_size (k n : Int) : (lex_Text.t k n).size ≤ 20 := by
  unfold lex_Text.t
  split
  · rw [← data_len]
    exact digS_len 20 _
  · split
    · show 1 ≤ 20; omega
    · have := lexT_size k.toNat
      omega
/-- What signs are written as. -/
def txts (l : List S39) : List (List UInt8) := l.map fun s => (lex_Text.t s.f0 s.f1).data.toList
def goodAll (l : List S39) : Bool := l.all fun s => goodB s.f0 s.f1
def prL (l : List S39) : List UInt8 := Lib.join (txts l) [32]
def prS (l : List S39) : ByteArray × Bool := if goodAll l = true then (⟨(prL l).toArray⟩, true) else (⟨#[]⟩, false)
theorem join_snoc (sep t : List UInt8) : ∀ xs : List (List UInt8), Lib.join (xs ++ [t]) sep = if xs = [] then t else Lib.join xs sep ++ sep ++ t
  | [] => by simp [Lib.join, List.intercalate]
  | [a] => by simp [Lib.join, List.intercalate, List.intersperse]
  | a :: b :: r => by
    have ih := join_snoc sep t (b :: r)
    rw [if_neg (by simp)] at ih ⊢
    have e1 : ∀ q : List (List UInt8), Lib.join (a :: b :: q) sep = a ++ sep ++ Lib.join (b :: q) sep := fun q => by
      simp [Lib.join, List.intercalate, List.intersperse]
    show Lib.join (a :: b :: (r ++ [t])) sep = _
    rw [e1, e1]
    have ih' : Lib.join (b :: (r ++ [t])) sep = Lib.join (b :: r) sep ++ sep ++ t := ih
    rw [ih']
    simp [List.append_assoc]
theorem txts_snoc (l : List S39) (s : S39) : txts (l ++ [s]) = txts l ++ [(lex_Text.t s.f0 s.f1).data.toList] := by simp [txts]
theorem txts_nil (l : List S39) : txts l = [] ↔ l = [] := by simp [txts]
theorem prL_snoc (l : List S39) (s : S39) : prL (l ++ [s]) = if l = [] then (lex_Text.t s.f0 s.f1).data.toList else prL l ++ [32] ++ (lex_Text.t s.f0 s.f1).data.toList := by
  unfold prL
  rw [txts_snoc, join_snoc]
  by_cases h : l = []
  · rw [if_pos h, if_pos ((txts_nil l).2 h)]
  · rw [if_neg h, if_neg (fun h' => h ((txts_nil l).1 h'))]
theorem take_snoc (l : List S39) (i : Nat) (h : i < l.length) : l.take (i + 1) = l.take i ++ [l[i]] := by
  rw [List.take_add_one, List.getElem?_eq_getElem h]
  rfl
theorem prL_len (l : List S39) : ∀ i, i ≤ l.length → (prL (l.take i)).length ≤ 21 * i
  | 0, _ => by simp [prL, txts, Lib.join, List.intercalate]
  | i + 1, h => by
    rw [take_snoc l i (by omega), prL_snoc]
    have ih := prL_len l i (by omega)
    have ht := text_size l[i].f0 l[i].f1
    rw [← data_len] at ht
    split
    · omega
    · simp only [List.length_append, List.length_cons, List.length_nil]
      omega
end Go.Proofs.YtikbgoppmailjaaGreatDoor.Pure
