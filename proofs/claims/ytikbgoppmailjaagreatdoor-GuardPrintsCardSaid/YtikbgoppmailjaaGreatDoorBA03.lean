/- Parts of the proof of LawGuardPrints: words, contracts of the functions, plain laws. -/
import Derived.Test.YtikbgoppmailjaaGreatDoorBA02
import Derived.WalkSmall
import Derived.Sort.Grow
import Derived.Recover
import Derived.Test.YtikbgoppmailjaaGreatDoorProg
import Derived.Laws.Bits64
/- What a call asks of the package-level tables that it reads: 'Tabs w'. -/
namespace Go.Proofs.YtikbgoppmailjaaGreatDoor.H
open Go.RowKit Go.Sort
set_option linter.unusedVariables false
structure Tabs (w : World) : Prop where
  pow : Lib.TabIs Tryz.prog w "internal/strconv.uint64pow10" .u64 Lib.pow10Tab
theorem tabs_glob : Tryz.prog.globalNamed "internal/strconv.uint64pow10" = some 6 := by kernel_rfl
theorem Tabs.below {w w' : World} (h : Tabs w) (hb : Below w.heap.size w w') : Tabs w' := by
  have hlt : 6 < w.heap.size := World.block_lt_of_cell? w _ (h.pow.cell tabs_glob 0 (by decide))
  exact ⟨var?_below hb tabs_glob hlt h.pow⟩
theorem below_grow (w : World) (k : Nat) (os : Array Obj) : Below w.heap.size w (grow (w.drewN k) os) :=
  ⟨rfl, rfl, rfl, by show w.heap.size ≤ (w.heap ++ os).size; simp, fun j hj => by show (w.heap ++ os)[j]? = w.heap[j]?; rw [Array.getElem?_append_left hj]⟩
theorem itoa_calls (n : Int) (h0 : -9223372036854775808 ≤ n) (h1 : n ≤ 9223372036854775807) (w : World) (hT : Tabs w) :
    Calls Tryz.prog 66 #[.int .i64 n] w fun e w' => e = .returned (.string ⟨(Lib.itoa n).toArray⟩) ∧ Below w.heap.size w w' :=
  (Tryz.strconv_Itoa n h0 h1 w hT.pow).mono fun e w' ⟨he, k, os, hw⟩ => ⟨he, hw ▸ below_grow w k os⟩
/-- The decimal digits of u, by so many steps (what the kernel can reckon). -/
def digS : Nat → Nat → List UInt8
  | 0, _ => []
  | f + 1, u => if u < 10 then [UInt8.ofNat (48 + u)] else digS f (u / 10) ++ [UInt8.ofNat (48 + u % 10)]
theorem digS_eq : ∀ (f u : Nat), u < 10 ^ f → 0 < f → digS f u = Lib.decDigits u
  | 0, _, _, h => by omega
  | f + 1, u, h, _ => by
    rw [Lib.decDigits]
    unfold digS
    by_cases hu : u < 10
    · rw [if_pos hu, dif_pos hu]
    · rw [if_neg hu, dif_neg hu]
      have hf : 0 < f := by
        rcases Nat.eq_zero_or_pos f with rfl | h1
        · omega
        · exact h1
      rw [digS_eq f (u / 10) (by rw [Nat.pow_succ] at h; omega) hf]
def itoaS (n : Int) : List UInt8 := digS 20 n.toNat
theorem itoaS_eq (n : Int) (h0 : 0 ≤ n) (h1 : n ≤ 9223372036854775807) : Lib.itoa n = itoaS n := by
  unfold Lib.itoa itoaS
  have e : (10 : Nat) ^ 20 = 100000000000000000000 := by decide
  have hlt : n.toNat < 10 ^ 20 := by rw [e]; omega
  rw [if_neg (by omega), digS_eq 20 _ hlt (by decide)]
theorem itoaS_calls (n : Int) (h0 : 0 ≤ n) (h1 : n ≤ 2147483647) (w : World) (hT : Tabs w) :
    Calls Tryz.prog 66 #[.int .i64 n] w fun e w' => e = .returned (.string ⟨(itoaS n).toArray⟩) ∧ Below w.heap.size w w' := by
  rw [← itoaS_eq n h0 (by omega)]
  exact itoa_calls n (by omega) (by omega) w hT
end Go.Proofs.YtikbgoppmailjaaGreatDoor.H
/- What a call asks of the package-level tables and of guard's own error: 'Tabs2 w'. -/
namespace Go.Proofs.YtikbgoppmailjaaGreatDoor.H
open Go.RowKit
structure Tabs2 (w : World) : Prop extends Tabs w where
  wrong : ∃ T pv, w.cell? ⟨0, 0, none⟩ = some (.iface T pv)
theorem Tabs2.below {w w' : World} (h : Tabs2 w) (hb : Below w.heap.size w w') : Tabs2 w' := by
  obtain ⟨T, pv, hc⟩ := h.wrong
  have hlt : 0 < w.heap.size := World.block_lt_of_cell? w _ hc
  exact ⟨h.toTabs.below hb, T, pv, (hb.cell (p := ⟨0, 0, none⟩) hlt).trans hc⟩
end Go.Proofs.YtikbgoppmailjaaGreatDoor.H
/- guard's reader: what each of its methods does to the signs that are left and to those that are laid behind; or it gives up. -/
namespace Go.Proofs.YtikbgoppmailjaaGreatDoor.H
open Go.RowKit Go.HK Go.Proofs.YtikbgoppmailjaaGreatDoorW.PrintWords Go.Proofs.YtikbgoppmailjaaGreatDoorW.PrintLast Go.Proofs.YtikbgoppmailjaaGreatDoorW.PrintMore
set_option linter.unusedVariables false
set_option linter.unusedSimpArgs false
def RS (b g : Nat) (v : Value) (w : World) (st : ST) : Prop :=
  ∃ A c, w.heap[g]? = some (.cells #[.slice A st.1.length c, v] 42 (0, 0)) ∧ st.1.length ≤ c ∧ (∀ W', KeepBut w W' g v.ownBlock → Kd.C k39 W' A st.1.length st.1) ∧ Kd.R k39 39 w b (fun _ => True) v st.2 ∧ b ≤ g
def Mv (b g : Nat) (v : Value) (w : World) (v' : Value) (w' : World) : Prop := Below b w w' ∧ KeepBut w w' g v.ownBlock ∧ (v'.ownBlock = v.ownBlock ∨ ∃ q, v'.ownBlock = some q ∧ w.heap.size ≤ q)
def Wr (b : Nat) (w : World) : Prop := ∃ T pv, w.cell? ⟨0, 0, none⟩ = some (.iface T pv) ∧ 0 < b
def Gone (e : Ending) : Prop := ∃ T pv, e = .panicked [{ v := .iface T pv, recovered := false }]
def Post (b g : Nat) (v : Value) (w : World) (res : Option ST) (e : Ending) (w' : World) : Prop :=
  ∃ v', Mv b g v w v' w' ∧ (match res with | none => Gone e | some st => e = .returned (.tuple #[]) ∧ RS b g v' w' st)
section
variable {b g : Nat} {v v1 v2 : Value} {w w1 w2 : World} {st : ST}
theorem Mv.refl : Mv b g v w v w := ⟨Below.refl _ _, KeepBut.refl _ _ _, .inl rfl⟩
theorem Mv.trans (h : Mv b g v w v1 w1) (k : Mv b g v1 w1 v2 w2) : Mv b g v w v2 w2 := by
  refine ⟨h.1.trans k.1, h.2.1.trans k.2.1 h.2.2, ?_⟩
  rcases k.2.2 with e | ⟨q, e, hq⟩
  · rw [e]; exact h.2.2
  · exact .inr ⟨q, e, Nat.le_trans h.2.1.1 hq⟩
theorem RS.lt (h : RS b g v w st) : g < w.heap.size := by obtain ⟨A, c, h1, _⟩ := h; exact blk_lt h1
theorem RS.base (h : RS b g v w st) : b ≤ w.heap.size := by have := h.lt; obtain ⟨A, c, _, _, _, _, h5⟩ := h; omega
theorem Mv.of_below (h : Below w.heap.size w w1) (hb : b ≤ w.heap.size) : Mv b g v w v w1 := ⟨h.mono hb, KeepBut.of_below h _ _, .inl rfl⟩
theorem RS.below (h : RS b g v w st) (hb : Below w.heap.size w w1) : RS b g v w1 st := by
  obtain ⟨A, c, h1, h2, h3, h4, h5⟩ := h
  exact ⟨A, c, (hb.block g (blk_lt h1)).trans h1, h2, fun W' hk => h3 W' ((KeepBut.of_below hb g _).trans hk (.inl rfl)), Kd.R_below h4 hb, h5⟩
theorem Wr.mv (h : Wr b w) (k : Mv b g v w v1 w1) : Wr b w1 := by
  obtain ⟨T, pv, hc, hlt⟩ := h
  exact ⟨T, pv, (k.1.cell (p := ⟨0, 0, none⟩) hlt).trans hc, hlt⟩
theorem RS.ne (h : RS b g v w st) : some g ≠ v.ownBlock := by
  obtain ⟨A, c, h1, h2, h3, h4, h5⟩ := h
  exact Kd.R_ne h4 h1 (by decide)
end
theorem RS.stored {b g : Nat} {v v1 : Value} {w w1 : World} {st : ST} {out1 : List S39} (h : RS b g v w st) (HO1 : Kd.R k39 39 w1 b (fun _ => True) v1 out1) (HB1 : Below b w w1) (HG1 : w.grownBy w1 v.ownBlock)
    (HA1 : v1.ownBlock = v.ownBlock ∨ ∃ q, v1.ownBlock = some q ∧ w.heap.size ≤ q) : Mv b g v w v1 (w1.setCell ⟨g, 1, none⟩ v1) ∧ RS b g v1 (w1.setCell ⟨g, 1, none⟩ v1) (st.1, out1) := by
  have hne := h.ne
  obtain ⟨A, c, h1, h2, h3, h4, h5⟩ := h
  have hb1 := blk_grown h1 HG1 hne
  have hk : KeepBut w (w1.setCell ⟨g, 1, none⟩ v1) g v.ownBlock := (KeepBut.of_grown HG1 g).set_ 1 v1
  refine ⟨⟨HB1.setCell h5 v1, hk, HA1⟩, A, c, blk_set hb1 1 v1, h2, fun W' q => h3 W' (hk.trans q HA1), Kd.R_set HO1 hb1 (by decide) 1 v1, h5⟩
theorem RS.cut {b g : Nat} {v : Value} {w : World} {a : S39} {l o : List S39} {A : Option Addr} {c : Nat} (h : RS b g v w (a :: l, o)) (h1 : w.heap[g]? = some (.cells #[.slice A (a :: l).length c, v] 42 (0, 0))) :
    Mv b g v w v (w.setCell ⟨g, 0, none⟩ (.slice (if c = 1 then A else A.map (·.add 2)) l.length (c - 1))) ∧ RS b g v (w.setCell ⟨g, 0, none⟩ (.slice (if c = 1 then A else A.map (·.add 2)) l.length (c - 1))) (l, o) := by
  obtain ⟨A', c', h1', h2, h3, h4, h5⟩ := h
  rw [h1] at h1'
  injection h1' with h1'
  injection h1' with h1' _
  injection h1' with h1'
  injection h1' with h1' _
  injection h1' with e1 _ e2
  subst e1; subst e2
  have hk : KeepBut w (w.setCell ⟨g, 0, none⟩ (.slice (if c = 1 then A else A.map (·.add 2)) l.length (c - 1))) g v.ownBlock := (KeepBut.refl w g _).set_ 0 _
  refine ⟨⟨(Below.refl b w).setCell h5 _, hk, .inl rfl⟩, _, _, blk_set h1 0 _, ?_, fun W' q => ?_, Kd.R_set h4 h1 (by decide) 0 _, h5⟩
  · simp only [List.length_cons] at h2 ⊢; omega
  · exact Kd.C_drop (m := 1) (h3 W' (hk.trans q (.inl rfl))) (by simp) h2
/-! ### the walks -/
theorem sees_calls {b g : Nat} {v : Value} {w : World} {st : ST} (kind : Int) (r : Bool) (h : RS b g v w st) (hr : seesF kind st = r) :
    Calls Tryz.prog 92 #[.pointer (some ⟨g, 0, none⟩), .int .i64 kind] w fun e w' => e = .returned (.bool r) ∧ Below w.heap.size w w' := by
  obtain ⟨A, c, h1, h2, h3, h4, h5⟩ := h
  have hc0 := bce h1 0
  have hC := h3 w (KeepBut.refl _ _ _)
  obtain ⟨rest, out⟩ := st
  cases rest with
  | nil =>
    subst hr
    have hc0 : w.cell? ⟨g, 0, none⟩ = some (.slice A 0 c) := hc0
    clear h1 h2 h3 h4 h5 hC
    go_enter Tryz.func92, Tryz.ntmps92
    go_wp2
    go_ret
    exact ⟨rfl, Below.refl _ _⟩
  | cons a r1 =>
    obtain ⟨ad, rfl, e0, e1⟩ := at_T39 hC 0 (by omega) (by simp)
    have e0 : w.cell? ad = some (.int .i64 a.f0) := by simpa [Addr.add, rd_T39] using e0
    have hc0 : w.cell? ⟨g, 0, none⟩ = some (.slice (some ad) (r1.length + 1) c) := hc0
    have hr : (a.f0 == kind) = r := hr
    have HR := Lib.hid hr
    clear h1 h2 h3 h4 h5 hC e1 hr
    go_enter Tryz.func92, Tryz.ntmps92
    go_wp2
    go_ret
    exact ⟨by first | rfl | (rw [← HR.out]; rfl), Below.refl _ _⟩
theorem put_calls {b g : Nat} {v : Value} {w : World} {st : ST} (kind : Int) (h : RS b g v w st) (hl : st.2.length < 8796093022208) :
    Calls Tryz.prog 62 #[.pointer (some ⟨g, 0, none⟩), .int .i64 kind] w (Post b g v w (some (st.1, st.2 ++ [(⟨kind, 0⟩ : S39)]))) := by
  have HH := Aside0.mk h
  have hbs := h.base
  have hne := h.ne
  obtain ⟨A, c, h1, h2, h3, h4, h5⟩ := h
  have hc1 : w.cell? ⟨g, 1, none⟩ = some v := bce h1 1
  have HO := Aside0.mk h4
  have HB := Aside0.mk (Below.refl b w)
  have HS := Aside0.mk hbs
  have H1 := Aside0.mk h1
  have H3 := Aside0.mk h3
  have HN := Aside0.mk hne
  clear h4 h1 h3 hne
  go_enter Tryz.func62, Tryz.ntmps62
  go_wp2_with (first | (at_builtin; refine Kd.R_append k39 (w0 := w) b rfl (.tmp 8) (.tmp 11) 23 39 (.agg #[(.int .i64 0), (.int .i64 0)]) 16 rfl Tryz.underlying23 info39 rfl (by decide) (by omega) v st.2 (⟨kind, 0⟩ : S39) [.int .i64 kind, .int .i64 0] (fun _ => True) (fun _ => False) rfl rfl ?aP (fun _ hk => hk.elim) ?aF ?aO ?aB ?aS ?aL ?_; (case aP => exact k39_mkM _ _ _ (⟨kind, 0⟩ : S39)); (case aB => exact (by repeat (first | (with_reducible first | exact HB.out | apply bal | apply pbN | apply bd1) | exact HB.out))); (case aF => exact (fun _ _ => trivial)); (case aO => exact (by (with_reducible repeat (first | apply Kd.R_alloc | apply Kd.R_drewN | apply Kd.R_drew)); exact HO.out)); (case aS => exact HS.out); (case aL => omega); intro v1 w1 ho hb hg hat; obtain ⟨A1, c1, e1, _, _⟩ := Kd.R_reads ho; subst e1; have hb1 := blk_grown H1.out hg HN.out; have hcell : w1.cell? ⟨g, 1, none⟩ = some v := bce hb1 1; have hfr : w1.frozen? ⟨g, 1, none⟩ = false := bfz hb1 1; have H1b := Aside0.mk hb1; have HO1 := Aside0.mk ho; have HB1 := Aside0.mk hb; have HG1 := Aside0.mk hg; have HA1 := Aside0.mk hat; clear ho hb hg hat hb1))
  go_end0
  obtain ⟨q1, q2⟩ := RS.stored HH.out HO1.out HB1.out HG1.out HA1.out
  have e : st.2.length + 1 = (st.2 ++ [(⟨kind, 0⟩ : S39)]).length := by simp
  rw [e]
  exact ⟨_, q1, rfl, q2⟩
theorem take_calls {b g : Nat} {v : Value} {w : World} {st : ST} (kind : Int) (h : RS b g v w st) (hW : Wr b w) (res : Option ST) (hres : takeF kind st = some res) :
    Calls Tryz.prog 61 #[.pointer (some ⟨g, 0, none⟩), .int .i64 kind] w (Post b g v w res) := by
  have HH := Aside0.mk h
  cases hs : seesF kind st
  · have HS := Lib.hid hs
    unfold takeF at hres
    rw [if_neg (by rw [hs]; decide)] at hres
    obtain rfl := Option.some.inj hres
    have HW := Aside0.mk hW
    clear h hs hW
    go_enter Tryz.func61, Tryz.ntmps61
    go_wp2_with (first | (go_at_call 92; refine (sees_calls _ _ HH.out HS.out).mono ?_; rintro e w1 ⟨rfl, hb⟩; have HM := Aside0.mk (Mv.of_below (v := v) (g := g) hb HH.out.base); clear hb; obtain ⟨T, pv, hwr, _⟩ := Wr.mv HW.out HM.out))
    exact ⟨rfl, v, HM.out, T, pv, rfl⟩
  · have HS := Lib.hid hs
    unfold takeF at hres
    rw [if_pos hs] at hres
    obtain rfl := Option.some.inj hres
    obtain ⟨rest, out⟩ := st
    cases rest with
    | nil => cases hs
    | cons a l =>
      clear h hs hW
      go_enter Tryz.func61, Tryz.ntmps61
      go_wp2_with (first | (go_at_call 92; refine (sees_calls _ _ HH.out HS.out).mono ?_; rintro e w1 ⟨rfl, hb⟩; have HM := Aside0.mk (Mv.of_below (v := v) (g := g) hb HH.out.base); have hr1 := RS.below HH.out hb; clear hb; have HR1 := Aside0.mk hr1; obtain ⟨A, c, h1, h2, h3, h4, h5⟩ := hr1; have hc0 : w1.cell? ⟨g, 0, none⟩ = some (.slice A (l.length + 1) c) := bce h1 0; have hfr := bfz h1 0; have H1 := Aside0.mk h1; clear h1 h3 h4))
      all_goals
        go_end0
        obtain ⟨q1, q2⟩ := RS.cut HR1.out H1.out
        have q3 := HM.out.trans q1
        refine ⟨v, ?_, rfl, ?_⟩
        · simpa [h, Addr.add] using q3
        · simpa [h, Addr.add] using q2
def fnOf : Nat → Nat
  | 0 => 18
  | 1 => 35
  | 2 => 63
  | 3 => 93
  | 4 => 110
  | _ => 122
def Can (R : Nat → ST → Rz) (lev : Nat) : Prop := ∀ (b g : Nat) (v : Value) (w : World) (st : ST) (res : Option ST), Wr b w → RS b g v w st → st.2.length + st.1.length ≤ 100000 → R lev st = some res → Calls Tryz.prog (fnOf lev) #[.pointer (some ⟨g, 0, none⟩)] w (Post b g v w res)
def Fine (R : Nat → ST → Rz) (lev : Nat) : Prop := ∀ (st s : ST), R lev st = some (some s) → s.2.length + s.1.length ≤ st.2.length + st.1.length
def Kinds (w : World) (g : Nat) (v : Value) (A : Option Addr) (ks : List Int) : Prop := ∀ W', KeepBut w W' g v.ownBlock → Kd.C (Kd.int .i64) W' A ks.length ks
def RowI (th : ST → Rz) (ks : List Int) (res : Option ST) (b g : Nat) (v : Value) (w : World) (kq : Nat) (wr : World) : Prop :=
  ∃ s v', rowL th ks kq s = some res ∧ s.2.length + s.1.length ≤ 100000 ∧ Mv b g v w v' wr ∧ RS b g v' wr s
theorem rowL_stop' {th : ST → Rz} {ks : List Int} {k : Nat} {a : S39} {l o : List S39} (hc : ks.contains a.f0 = false) : rowL th ks (k + 1) (a :: l, o) = some (some (a :: l, o)) := by
  simp only [rowL]
  rw [if_neg (by rw [hc]; decide)]
theorem rowL_go' {th : ST → Rz} {ks : List Int} {k : Nat} {a : S39} {l o : List S39} (hc : ks.contains a.f0 = true) {l1 o1 : List S39} (h : th (l, o) = some (some (l1, o1))) : rowL th ks (k + 1) (a :: l, o) = rowL th ks k (l1, o1 ++ [(⟨a.f0, 0⟩ : S39)]) := by
  simp only [rowL]
  rw [if_pos hc, h]
  rfl
theorem con1 (x y : Int) {r : Bool} (h : List.contains [x] y = r) : slices_Contains_int_int.f 5 [x] y = some r := by
  subst h
  by_cases c : y = x
  · simp [slices_Contains_int_int.f, slices_Index_int_int.f, slices_Index_int_int.l0, rd, rdOf, c]
  · simp [slices_Contains_int_int.f, slices_Index_int_int.f, slices_Index_int_int.l0, rd, rdOf, c, wrap64]
theorem con2 (x z y : Int) {r : Bool} (h : List.contains [x, z] y = r) : slices_Contains_int_int.f 5 [x, z] y = some r := by
  subst h
  by_cases c : y = x
  · simp [slices_Contains_int_int.f, slices_Index_int_int.f, slices_Index_int_int.l0, rd, rdOf, c]
  · by_cases d : y = z
    · have c' : ¬ z = x := by rw [← d]; exact c
      simp [slices_Contains_int_int.f, slices_Index_int_int.f, slices_Index_int_int.l0, rd, rdOf, c', d, wrap64]
    · simp [slices_Contains_int_int.f, slices_Index_int_int.f, slices_Index_int_int.l0, rd, rdOf, c, d, wrap64]
set_option maxRecDepth 100000 in
theorem row_some {R : Nat → ST → Rz} (hC : Can R 1) (hF : Fine R 1) {b g : Nat} {v : Value} {w : World} {st : ST} (A : Option Addr) (c n : Nat) (res : Option ST) (hW : Wr b w) (h : RS b g v w st) (hl : st.2.length + st.1.length ≤ 100000) (hk : Kinds w g v A [13]) (hc : 1 ≤ c)
  (hr : rowF (R 1) [13] n st = some res) : Calls Tryz.prog 34 #[.pointer (some ⟨g, 0, none⟩), .func (.func 35) #[.pointer (some ⟨g, 0, none⟩)] #[], .slice A 1 c] w (Post b g v w res) := by
 have HW := Aside0.mk hW
 have HR := Aside0.mk h
 have HL := Aside0.mk hl
 have HC := Aside0.mk hC
 have HK := Aside0.mk hk
 have HX := Aside0.mk hF
 unfold rowF at hr
 cases ht : R 1 st with
 | none => rw [ht] at hr; cases hr
 | some r1 =>
  have HT := Aside0.mk ht
  rw [ht] at hr
  cases r1 with
  | none =>
   obtain rfl := Option.some.inj hr
   clear hr ht hC hF hW h hl hk
   go_enter Tryz.func34, Tryz.ntmps34
   go_wp2_with (first | (go_at_call 35; refine (HC.out _ _ _ _ _ _ HW.out HR.out HL.out HT.out).mono ?_; rintro e w2 ⟨v2, hm2, T, pv, rfl⟩; have HM := Aside0.mk hm2; clear hm2))
   exact ⟨rfl, v2, HM.out, T, pv, rfl⟩
  | some s1 =>
   have HN := Aside0.mk (show rowL (R 1) [13] n s1 = some res from hr)
   have HS := Aside0.mk (Nat.le_trans (hF st s1 ht) hl)
   clear hr ht hC hF hW h hl hk
   go_enter Tryz.func34, Tryz.ntmps34
   go_wp2_with (first | (go_at_call 35; refine (HC.out _ _ _ _ _ _ HW.out HR.out HL.out HT.out).mono ?_; rintro e w2 ⟨v2, hm2, rfl, hr2⟩; have HM2 := Aside0.mk hm2; have HR2 := Aside0.mk hr2; clear hm2 hr2))
   go_loopg [6] n (fun kq v6 wr => RowI (R 1) [13] res b g v w kq wr)
   case atStart => exact ⟨s1, v2, HN.out, HS.out, HM2.out, HR2.out⟩
   case round =>
    obtain ⟨⟨l, o⟩, v3, hn, hs, hm, hrs⟩ := hrel
    clear HM2 HR2 HN HS HT HR HL
    have HM3 := Aside0.mk hm
    have HR3 := Aside0.mk hrs
    have HL3 := Aside0.mk hs
    obtain ⟨A0, c0, h1, h2, h3, h4, h5⟩ := hrs
    have hc0 := bce h1 0
    have hC0 := h3 wr (KeepBut.refl _ _ _)
    clear h1 h2 h3 h4 h5 hm hs
    cases gk with
    | zero => exact absurd hn (by simp [rowL])
    | succ gk =>
     cases l with
     | nil =>
      obtain rfl := Option.some.inj hn
      have hc0 : wr.cell? ⟨g, 0, none⟩ = some (.slice A0 0 c0) := hc0
      clear hC0 hn
      go_wp2
      go_end0
      exact ⟨v3, HM3.out, rfl, HR3.out⟩
     | cons a l =>
      obtain ⟨ad, rfl, e0, e1⟩ := at_T39 hC0 0 (by omega) (by simp)
      have e0 : wr.cell? ad = some (.int .i64 a.f0) := by simpa [Addr.add, rd_T39] using e0
      have hc0 : wr.cell? ⟨g, 0, none⟩ = some (.slice (some ad) (l.length + 1) c0) := hc0
      clear hC0 e1
      cases hcc : List.contains [13] a.f0
      ·have HCN := Aside0.mk (con1 13 a.f0 hcc)
       rw [rowL_stop' hcc] at hn
       obtain rfl := Option.some.inj hn
       clear hn hcc
       go_wp2_with (first | (go_at_call 60; refine (slices_Contains_int_int.calls 5 _ _ [13] _ _ _ (HK.out _ HM3.out.2.1) hc HCN.out).mono ?_; rintro e w3 ⟨rfl, hd⟩; have HD := Aside0.mk hd.below; clear hd))
       go_end0
       exact ⟨v3, HM3.out.trans (Mv.of_below HD.out HR3.out.base), rfl, HR3.out.below HD.out⟩
      ·have HCN := Aside0.mk (con1 13 a.f0 hcc)
       have hl1 : o.length + l.length ≤ 100000 := by have := HL3.out; simp only [List.length_cons] at this; omega
       have HL4 := Aside0.mk hl1
       cases ht : R 1 (l, o) with
       | none => simp only [rowL, hcc, if_true, ht, bnd] at hn; cases hn
       | some r1 =>
        have HT := Aside0.mk ht
        cases r1 with
        | none =>
         simp only [rowL, hcc, if_true, ht, bnd] at hn
         obtain rfl := Option.some.inj hn
         clear hn hcc hl1 ht
         go_wp2_with (first | (go_at_call 60; refine (slices_Contains_int_int.calls 5 _ _ [13] _ _ _ (HK.out _ HM3.out.2.1) hc HCN.out).mono ?_; rintro e w3 ⟨rfl, hd⟩; have hb3 := hd.below; have hc3 : w3.cell? ⟨g, 0, none⟩ = some (.slice (some ad) (l.length + 1) c0) := (hb3.cell (p := ⟨g, 0, none⟩) HR3.out.lt).trans hc0; have e3 : w3.cell? ad = some (.int .i64 a.f0) := (hb3.cell (World.block_lt_of_cell? wr _ e0)).trans e0; have HR4 := Aside0.mk (HR3.out.below hb3); have HM4 := Aside0.mk (HM3.out.trans (Mv.of_below hb3 HR3.out.base)); have HW4 := Aside0.mk (HW.out.mv HM4.out); clear hd hb3) | (go_at_call 61; refine (take_calls a.f0 HR4.out HW4.out (some (l, o)) (by simp [takeF, seesF])).mono ?_; rintro e w5 ⟨v5, hm5, rfl, hr5⟩; have HM5 := Aside0.mk (HM4.out.trans hm5); have HR5 := Aside0.mk hr5; have HW5 := Aside0.mk (HW.out.mv HM5.out); clear hm5 hr5) | (go_at_call 35; refine (HC.out _ _ _ _ _ _ HW5.out HR5.out HL4.out HT.out).mono ?_; rintro e w6 ⟨v6, hm6, T, pv, rfl⟩; have HM6 := Aside0.mk (HM5.out.trans hm6); clear hm6))
         exact ⟨rfl, v6, HM6.out, T, pv, rfl⟩
        | some s2 =>
         obtain ⟨l2, o2⟩ := s2
         rw [rowL_go' hcc ht] at hn
         have HN := Aside0.mk hn
         have hf2 := HX.out _ _ ht
         dsimp only at hf2
         have hl2 : o2.length < 8796093022208 := by have := HL4.out; omega
         have hl3 : (o2 ++ [(⟨a.f0, 0⟩ : S39)]).length + l2.length ≤ 100000 := by
          have := HL3.out
          simp only [List.length_cons, List.length_append, List.length_nil] at this ⊢; omega
         have HL6 := Aside0.mk hl2
         have HL7 := Aside0.mk hl3
         clear hn hcc hl1 ht hf2 hl2 hl3
         go_wp2_with (first | (go_at_call 60; refine (slices_Contains_int_int.calls 5 _ _ [13] _ _ _ (HK.out _ HM3.out.2.1) hc HCN.out).mono ?_; rintro e w3 ⟨rfl, hd⟩; have hb3 := hd.below; have hc3 : w3.cell? ⟨g, 0, none⟩ = some (.slice (some ad) (l.length + 1) c0) := (hb3.cell (p := ⟨g, 0, none⟩) HR3.out.lt).trans hc0; have e3 : w3.cell? ad = some (.int .i64 a.f0) := (hb3.cell (World.block_lt_of_cell? wr _ e0)).trans e0; have HR4 := Aside0.mk (HR3.out.below hb3); have HM4 := Aside0.mk (HM3.out.trans (Mv.of_below hb3 HR3.out.base)); have HW4 := Aside0.mk (HW.out.mv HM4.out); clear hd hb3) | (go_at_call 61; refine (take_calls a.f0 HR4.out HW4.out (some (l, o)) (by simp [takeF, seesF])).mono ?_; rintro e w5 ⟨v5, hm5, rfl, hr5⟩; have HM5 := Aside0.mk (HM4.out.trans hm5); have HR5 := Aside0.mk hr5; have HW5 := Aside0.mk (HW.out.mv HM5.out); clear hm5 hr5) | (go_at_call 35; refine (HC.out _ _ _ _ _ _ HW5.out HR5.out HL4.out HT.out).mono ?_; rintro e w6 ⟨v6, hm6, rfl, hr6⟩; have HM6 := Aside0.mk (HM5.out.trans hm6); have HR6 := Aside0.mk hr6; clear hm6 hr6) | (go_at_call 62; refine (put_calls a.f0 HR6.out HL6.out).mono ?_; rintro e w7 ⟨v7, hm7, rfl, hr7⟩; have HM7 := Aside0.mk (HM6.out.trans hm7); have HR7 := Aside0.mk hr7; clear hm7 hr7))
         go_roundg gk
         case measure => omega
         case rel => exact ⟨(l2, o2 ++ [(⟨a.f0, 0⟩ : S39)]), v7, HN.out, HL7.out, HM7.out, HR7.out⟩
set_option maxRecDepth 100000 in
theorem row_one {R : Nat → ST → Rz} (hC : Can R 2) (hF : Fine R 2) {b g : Nat} {v : Value} {w : World} {st : ST} (A : Option Addr) (c n : Nat) (res : Option ST) (hW : Wr b w) (h : RS b g v w st) (hl : st.2.length + st.1.length ≤ 100000) (hk : Kinds w g v A [12]) (hc : 1 ≤ c)
  (hr : rowF (R 2) [12] n st = some res) : Calls Tryz.prog 34 #[.pointer (some ⟨g, 0, none⟩), .func (.func 63) #[.pointer (some ⟨g, 0, none⟩)] #[], .slice A 1 c] w (Post b g v w res) := by
 have HW := Aside0.mk hW
 have HR := Aside0.mk h
 have HL := Aside0.mk hl
 have HC := Aside0.mk hC
 have HK := Aside0.mk hk
 have HX := Aside0.mk hF
 unfold rowF at hr
 cases ht : R 2 st with
 | none => rw [ht] at hr; cases hr
 | some r1 =>
  have HT := Aside0.mk ht
  rw [ht] at hr
  cases r1 with
  | none =>
   obtain rfl := Option.some.inj hr
   clear hr ht hC hF hW h hl hk
   go_enter Tryz.func34, Tryz.ntmps34
   go_wp2_with (first | (go_at_call 63; refine (HC.out _ _ _ _ _ _ HW.out HR.out HL.out HT.out).mono ?_; rintro e w2 ⟨v2, hm2, T, pv, rfl⟩; have HM := Aside0.mk hm2; clear hm2))
   exact ⟨rfl, v2, HM.out, T, pv, rfl⟩
  | some s1 =>
   have HN := Aside0.mk (show rowL (R 2) [12] n s1 = some res from hr)
   have HS := Aside0.mk (Nat.le_trans (hF st s1 ht) hl)
   clear hr ht hC hF hW h hl hk
   go_enter Tryz.func34, Tryz.ntmps34
   go_wp2_with (first | (go_at_call 63; refine (HC.out _ _ _ _ _ _ HW.out HR.out HL.out HT.out).mono ?_; rintro e w2 ⟨v2, hm2, rfl, hr2⟩; have HM2 := Aside0.mk hm2; have HR2 := Aside0.mk hr2; clear hm2 hr2))
   go_loopg [6] n (fun kq v6 wr => RowI (R 2) [12] res b g v w kq wr)
   case atStart => exact ⟨s1, v2, HN.out, HS.out, HM2.out, HR2.out⟩
   case round =>
    obtain ⟨⟨l, o⟩, v3, hn, hs, hm, hrs⟩ := hrel
    clear HM2 HR2 HN HS HT HR HL
    have HM3 := Aside0.mk hm
    have HR3 := Aside0.mk hrs
    have HL3 := Aside0.mk hs
    obtain ⟨A0, c0, h1, h2, h3, h4, h5⟩ := hrs
    have hc0 := bce h1 0
    have hC0 := h3 wr (KeepBut.refl _ _ _)
    clear h1 h2 h3 h4 h5 hm hs
    cases gk with
    | zero => exact absurd hn (by simp [rowL])
    | succ gk =>
     cases l with
     | nil =>
      obtain rfl := Option.some.inj hn
      have hc0 : wr.cell? ⟨g, 0, none⟩ = some (.slice A0 0 c0) := hc0
      clear hC0 hn
      go_wp2
      go_end0
      exact ⟨v3, HM3.out, rfl, HR3.out⟩
     | cons a l =>
      obtain ⟨ad, rfl, e0, e1⟩ := at_T39 hC0 0 (by omega) (by simp)
      have e0 : wr.cell? ad = some (.int .i64 a.f0) := by simpa [Addr.add, rd_T39] using e0
      have hc0 : wr.cell? ⟨g, 0, none⟩ = some (.slice (some ad) (l.length + 1) c0) := hc0
      clear hC0 e1
      cases hcc : List.contains [12] a.f0
      ·have HCN := Aside0.mk (con1 12 a.f0 hcc)
       rw [rowL_stop' hcc] at hn
       obtain rfl := Option.some.inj hn
       clear hn hcc
       go_wp2_with (first | (go_at_call 60; refine (slices_Contains_int_int.calls 5 _ _ [12] _ _ _ (HK.out _ HM3.out.2.1) hc HCN.out).mono ?_; rintro e w3 ⟨rfl, hd⟩; have HD := Aside0.mk hd.below; clear hd))
       go_end0
       exact ⟨v3, HM3.out.trans (Mv.of_below HD.out HR3.out.base), rfl, HR3.out.below HD.out⟩
      ·have HCN := Aside0.mk (con1 12 a.f0 hcc)
       have hl1 : o.length + l.length ≤ 100000 := by have := HL3.out; simp only [List.length_cons] at this; omega
       have HL4 := Aside0.mk hl1
       cases ht : R 2 (l, o) with
       | none => simp only [rowL, hcc, if_true, ht, bnd] at hn; cases hn
       | some r1 =>
        have HT := Aside0.mk ht
        cases r1 with
        | none =>
         simp only [rowL, hcc, if_true, ht, bnd] at hn
         obtain rfl := Option.some.inj hn
         clear hn hcc hl1 ht
         go_wp2_with (first | (go_at_call 60; refine (slices_Contains_int_int.calls 5 _ _ [12] _ _ _ (HK.out _ HM3.out.2.1) hc HCN.out).mono ?_; rintro e w3 ⟨rfl, hd⟩; have hb3 := hd.below; have hc3 : w3.cell? ⟨g, 0, none⟩ = some (.slice (some ad) (l.length + 1) c0) := (hb3.cell (p := ⟨g, 0, none⟩) HR3.out.lt).trans hc0; have e3 : w3.cell? ad = some (.int .i64 a.f0) := (hb3.cell (World.block_lt_of_cell? wr _ e0)).trans e0; have HR4 := Aside0.mk (HR3.out.below hb3); have HM4 := Aside0.mk (HM3.out.trans (Mv.of_below hb3 HR3.out.base)); have HW4 := Aside0.mk (HW.out.mv HM4.out); clear hd hb3) | (go_at_call 61; refine (take_calls a.f0 HR4.out HW4.out (some (l, o)) (by simp [takeF, seesF])).mono ?_; rintro e w5 ⟨v5, hm5, rfl, hr5⟩; have HM5 := Aside0.mk (HM4.out.trans hm5); have HR5 := Aside0.mk hr5; have HW5 := Aside0.mk (HW.out.mv HM5.out); clear hm5 hr5) | (go_at_call 63; refine (HC.out _ _ _ _ _ _ HW5.out HR5.out HL4.out HT.out).mono ?_; rintro e w6 ⟨v6, hm6, T, pv, rfl⟩; have HM6 := Aside0.mk (HM5.out.trans hm6); clear hm6))
         exact ⟨rfl, v6, HM6.out, T, pv, rfl⟩
        | some s2 =>
         obtain ⟨l2, o2⟩ := s2
         rw [rowL_go' hcc ht] at hn
         have HN := Aside0.mk hn
         have hf2 := HX.out _ _ ht
         dsimp only at hf2
         have hl2 : o2.length < 8796093022208 := by have := HL4.out; omega
         have hl3 : (o2 ++ [(⟨a.f0, 0⟩ : S39)]).length + l2.length ≤ 100000 := by
          have := HL3.out
          simp only [List.length_cons, List.length_append, List.length_nil] at this ⊢; omega
         have HL6 := Aside0.mk hl2
         have HL7 := Aside0.mk hl3
         clear hn hcc hl1 ht hf2 hl2 hl3
         go_wp2_with (first | (go_at_call 60; refine (slices_Contains_int_int.calls 5 _ _ [12] _ _ _ (HK.out _ HM3.out.2.1) hc HCN.out).mono ?_; rintro e w3 ⟨rfl, hd⟩; have hb3 := hd.below; have hc3 : w3.cell? ⟨g, 0, none⟩ = some (.slice (some ad) (l.length + 1) c0) := (hb3.cell (p := ⟨g, 0, none⟩) HR3.out.lt).trans hc0; have e3 : w3.cell? ad = some (.int .i64 a.f0) := (hb3.cell (World.block_lt_of_cell? wr _ e0)).trans e0; have HR4 := Aside0.mk (HR3.out.below hb3); have HM4 := Aside0.mk (HM3.out.trans (Mv.of_below hb3 HR3.out.base)); have HW4 := Aside0.mk (HW.out.mv HM4.out); clear hd hb3) | (go_at_call 61; refine (take_calls a.f0 HR4.out HW4.out (some (l, o)) (by simp [takeF, seesF])).mono ?_; rintro e w5 ⟨v5, hm5, rfl, hr5⟩; have HM5 := Aside0.mk (HM4.out.trans hm5); have HR5 := Aside0.mk hr5; have HW5 := Aside0.mk (HW.out.mv HM5.out); clear hm5 hr5) | (go_at_call 63; refine (HC.out _ _ _ _ _ _ HW5.out HR5.out HL4.out HT.out).mono ?_; rintro e w6 ⟨v6, hm6, rfl, hr6⟩; have HM6 := Aside0.mk (HM5.out.trans hm6); have HR6 := Aside0.mk hr6; clear hm6 hr6) | (go_at_call 62; refine (put_calls a.f0 HR6.out HL6.out).mono ?_; rintro e w7 ⟨v7, hm7, rfl, hr7⟩; have HM7 := Aside0.mk (HM6.out.trans hm7); have HR7 := Aside0.mk hr7; clear hm7 hr7))
         go_roundg gk
         case measure => omega
         case rel => exact ⟨(l2, o2 ++ [(⟨a.f0, 0⟩ : S39)]), v7, HN.out, HL7.out, HM7.out, HR7.out⟩
set_option maxRecDepth 100000 in
theorem row_product {R : Nat → ST → Rz} (hC : Can R 4) (hF : Fine R 4) {b g : Nat} {v : Value} {w : World} {st : ST} (A : Option Addr) (c n : Nat) (res : Option ST) (hW : Wr b w) (h : RS b g v w st) (hl : st.2.length + st.1.length ≤ 100000) (hk : Kinds w g v A [3, 4]) (hc : 2 ≤ c)
  (hr : rowF (R 4) [3, 4] n st = some res) : Calls Tryz.prog 34 #[.pointer (some ⟨g, 0, none⟩), .func (.func 110) #[.pointer (some ⟨g, 0, none⟩)] #[], .slice A 2 c] w (Post b g v w res) := by
 have HW := Aside0.mk hW
 have HR := Aside0.mk h
 have HL := Aside0.mk hl
 have HC := Aside0.mk hC
 have HK := Aside0.mk hk
 have HX := Aside0.mk hF
 unfold rowF at hr
 cases ht : R 4 st with
 | none => rw [ht] at hr; cases hr
 | some r1 =>
  have HT := Aside0.mk ht
  rw [ht] at hr
  cases r1 with
  | none =>
   obtain rfl := Option.some.inj hr
   clear hr ht hC hF hW h hl hk
   go_enter Tryz.func34, Tryz.ntmps34
   go_wp2_with (first | (go_at_call 110; refine (HC.out _ _ _ _ _ _ HW.out HR.out HL.out HT.out).mono ?_; rintro e w2 ⟨v2, hm2, T, pv, rfl⟩; have HM := Aside0.mk hm2; clear hm2))
   exact ⟨rfl, v2, HM.out, T, pv, rfl⟩
  | some s1 =>
   have HN := Aside0.mk (show rowL (R 4) [3, 4] n s1 = some res from hr)
   have HS := Aside0.mk (Nat.le_trans (hF st s1 ht) hl)
   clear hr ht hC hF hW h hl hk
   go_enter Tryz.func34, Tryz.ntmps34
   go_wp2_with (first | (go_at_call 110; refine (HC.out _ _ _ _ _ _ HW.out HR.out HL.out HT.out).mono ?_; rintro e w2 ⟨v2, hm2, rfl, hr2⟩; have HM2 := Aside0.mk hm2; have HR2 := Aside0.mk hr2; clear hm2 hr2))
   go_loopg [6] n (fun kq v6 wr => RowI (R 4) [3, 4] res b g v w kq wr)
   case atStart => exact ⟨s1, v2, HN.out, HS.out, HM2.out, HR2.out⟩
   case round =>
    obtain ⟨⟨l, o⟩, v3, hn, hs, hm, hrs⟩ := hrel
    clear HM2 HR2 HN HS HT HR HL
    have HM3 := Aside0.mk hm
    have HR3 := Aside0.mk hrs
    have HL3 := Aside0.mk hs
    obtain ⟨A0, c0, h1, h2, h3, h4, h5⟩ := hrs
    have hc0 := bce h1 0
    have hC0 := h3 wr (KeepBut.refl _ _ _)
    clear h1 h2 h3 h4 h5 hm hs
    cases gk with
    | zero => exact absurd hn (by simp [rowL])
    | succ gk =>
     cases l with
     | nil =>
      obtain rfl := Option.some.inj hn
      have hc0 : wr.cell? ⟨g, 0, none⟩ = some (.slice A0 0 c0) := hc0
      clear hC0 hn
      go_wp2
      go_end0
      exact ⟨v3, HM3.out, rfl, HR3.out⟩
     | cons a l =>
      obtain ⟨ad, rfl, e0, e1⟩ := at_T39 hC0 0 (by omega) (by simp)
      have e0 : wr.cell? ad = some (.int .i64 a.f0) := by simpa [Addr.add, rd_T39] using e0
      have hc0 : wr.cell? ⟨g, 0, none⟩ = some (.slice (some ad) (l.length + 1) c0) := hc0
      clear hC0 e1
      cases hcc : List.contains [3, 4] a.f0
      ·have HCN := Aside0.mk (con2 3 4 a.f0 hcc)
       rw [rowL_stop' hcc] at hn
       obtain rfl := Option.some.inj hn
       clear hn hcc
       go_wp2_with (first | (go_at_call 60; refine (slices_Contains_int_int.calls 5 _ _ [3, 4] _ _ _ (HK.out _ HM3.out.2.1) hc HCN.out).mono ?_; rintro e w3 ⟨rfl, hd⟩; have HD := Aside0.mk hd.below; clear hd))
       go_end0
       exact ⟨v3, HM3.out.trans (Mv.of_below HD.out HR3.out.base), rfl, HR3.out.below HD.out⟩
      ·have HCN := Aside0.mk (con2 3 4 a.f0 hcc)
       have hl1 : o.length + l.length ≤ 100000 := by have := HL3.out; simp only [List.length_cons] at this; omega
       have HL4 := Aside0.mk hl1
       cases ht : R 4 (l, o) with
       | none => simp only [rowL, hcc, if_true, ht, bnd] at hn; cases hn
       | some r1 =>
        have HT := Aside0.mk ht
        cases r1 with
        | none =>
         simp only [rowL, hcc, if_true, ht, bnd] at hn
         obtain rfl := Option.some.inj hn
         clear hn hcc hl1 ht
         go_wp2_with (first | (go_at_call 60; refine (slices_Contains_int_int.calls 5 _ _ [3, 4] _ _ _ (HK.out _ HM3.out.2.1) hc HCN.out).mono ?_; rintro e w3 ⟨rfl, hd⟩; have hb3 := hd.below; have hc3 : w3.cell? ⟨g, 0, none⟩ = some (.slice (some ad) (l.length + 1) c0) := (hb3.cell (p := ⟨g, 0, none⟩) HR3.out.lt).trans hc0; have e3 : w3.cell? ad = some (.int .i64 a.f0) := (hb3.cell (World.block_lt_of_cell? wr _ e0)).trans e0; have HR4 := Aside0.mk (HR3.out.below hb3); have HM4 := Aside0.mk (HM3.out.trans (Mv.of_below hb3 HR3.out.base)); have HW4 := Aside0.mk (HW.out.mv HM4.out); clear hd hb3) | (go_at_call 61; refine (take_calls a.f0 HR4.out HW4.out (some (l, o)) (by simp [takeF, seesF])).mono ?_; rintro e w5 ⟨v5, hm5, rfl, hr5⟩; have HM5 := Aside0.mk (HM4.out.trans hm5); have HR5 := Aside0.mk hr5; have HW5 := Aside0.mk (HW.out.mv HM5.out); clear hm5 hr5) | (go_at_call 110; refine (HC.out _ _ _ _ _ _ HW5.out HR5.out HL4.out HT.out).mono ?_; rintro e w6 ⟨v6, hm6, T, pv, rfl⟩; have HM6 := Aside0.mk (HM5.out.trans hm6); clear hm6))
         exact ⟨rfl, v6, HM6.out, T, pv, rfl⟩
        | some s2 =>
         obtain ⟨l2, o2⟩ := s2
         rw [rowL_go' hcc ht] at hn
         have HN := Aside0.mk hn
         have hf2 := HX.out _ _ ht
         dsimp only at hf2
         have hl2 : o2.length < 8796093022208 := by have := HL4.out; omega
         have hl3 : (o2 ++ [(⟨a.f0, 0⟩ : S39)]).length + l2.length ≤ 100000 := by
          have := HL3.out
          simp only [List.length_cons, List.length_append, List.length_nil] at this ⊢; omega
         have HL6 := Aside0.mk hl2
         have HL7 := Aside0.mk hl3
         clear hn hcc hl1 ht hf2 hl2 hl3
         go_wp2_with (first | (go_at_call 60; refine (slices_Contains_int_int.calls 5 _ _ [3, 4] _ _ _ (HK.out _ HM3.out.2.1) hc HCN.out).mono ?_; rintro e w3 ⟨rfl, hd⟩; have hb3 := hd.below; have hc3 : w3.cell? ⟨g, 0, none⟩ = some (.slice (some ad) (l.length + 1) c0) := (hb3.cell (p := ⟨g, 0, none⟩) HR3.out.lt).trans hc0; have e3 : w3.cell? ad = some (.int .i64 a.f0) := (hb3.cell (World.block_lt_of_cell? wr _ e0)).trans e0; have HR4 := Aside0.mk (HR3.out.below hb3); have HM4 := Aside0.mk (HM3.out.trans (Mv.of_below hb3 HR3.out.base)); have HW4 := Aside0.mk (HW.out.mv HM4.out); clear hd hb3) | (go_at_call 61; refine (take_calls a.f0 HR4.out HW4.out (some (l, o)) (by simp [takeF, seesF])).mono ?_; rintro e w5 ⟨v5, hm5, rfl, hr5⟩; have HM5 := Aside0.mk (HM4.out.trans hm5); have HR5 := Aside0.mk hr5; have HW5 := Aside0.mk (HW.out.mv HM5.out); clear hm5 hr5) | (go_at_call 110; refine (HC.out _ _ _ _ _ _ HW5.out HR5.out HL4.out HT.out).mono ?_; rintro e w6 ⟨v6, hm6, rfl, hr6⟩; have HM6 := Aside0.mk (HM5.out.trans hm6); have HR6 := Aside0.mk hr6; clear hm6 hr6) | (go_at_call 62; refine (put_calls a.f0 HR6.out HL6.out).mono ?_; rintro e w7 ⟨v7, hm7, rfl, hr7⟩; have HM7 := Aside0.mk (HM6.out.trans hm7); have HR7 := Aside0.mk hr7; clear hm7 hr7))
         go_roundg gk
         case measure => omega
         case rel => exact ⟨(l2, o2 ++ [(⟨a.f0, 0⟩ : S39)]), v7, HN.out, HL7.out, HM7.out, HR7.out⟩
set_option maxRecDepth 100000 in
theorem row_factor {R : Nat → ST → Rz} (hC : Can R 5) (hF : Fine R 5) {b g : Nat} {v : Value} {w : World} {st : ST} (A : Option Addr) (c n : Nat) (res : Option ST) (hW : Wr b w) (h : RS b g v w st) (hl : st.2.length + st.1.length ≤ 100000) (hk : Kinds w g v A [5]) (hc : 1 ≤ c)
  (hr : rowF (R 5) [5] n st = some res) : Calls Tryz.prog 34 #[.pointer (some ⟨g, 0, none⟩), .func (.func 122) #[.pointer (some ⟨g, 0, none⟩)] #[], .slice A 1 c] w (Post b g v w res) := by
 have HW := Aside0.mk hW
 have HR := Aside0.mk h
 have HL := Aside0.mk hl
 have HC := Aside0.mk hC
 have HK := Aside0.mk hk
 have HX := Aside0.mk hF
 unfold rowF at hr
 cases ht : R 5 st with
 | none => rw [ht] at hr; cases hr
 | some r1 =>
  have HT := Aside0.mk ht
  rw [ht] at hr
  cases r1 with
  | none =>
   obtain rfl := Option.some.inj hr
   clear hr ht hC hF hW h hl hk
   go_enter Tryz.func34, Tryz.ntmps34
   go_wp2_with (first | (go_at_call 122; refine (HC.out _ _ _ _ _ _ HW.out HR.out HL.out HT.out).mono ?_; rintro e w2 ⟨v2, hm2, T, pv, rfl⟩; have HM := Aside0.mk hm2; clear hm2))
   exact ⟨rfl, v2, HM.out, T, pv, rfl⟩
  | some s1 =>
   have HN := Aside0.mk (show rowL (R 5) [5] n s1 = some res from hr)
   have HS := Aside0.mk (Nat.le_trans (hF st s1 ht) hl)
   clear hr ht hC hF hW h hl hk
   go_enter Tryz.func34, Tryz.ntmps34
   go_wp2_with (first | (go_at_call 122; refine (HC.out _ _ _ _ _ _ HW.out HR.out HL.out HT.out).mono ?_; rintro e w2 ⟨v2, hm2, rfl, hr2⟩; have HM2 := Aside0.mk hm2; have HR2 := Aside0.mk hr2; clear hm2 hr2))
   go_loopg [6] n (fun kq v6 wr => RowI (R 5) [5] res b g v w kq wr)
   case atStart => exact ⟨s1, v2, HN.out, HS.out, HM2.out, HR2.out⟩
   case round =>
    obtain ⟨⟨l, o⟩, v3, hn, hs, hm, hrs⟩ := hrel
    clear HM2 HR2 HN HS HT HR HL
    have HM3 := Aside0.mk hm
    have HR3 := Aside0.mk hrs
    have HL3 := Aside0.mk hs
    obtain ⟨A0, c0, h1, h2, h3, h4, h5⟩ := hrs
    have hc0 := bce h1 0
    have hC0 := h3 wr (KeepBut.refl _ _ _)
    clear h1 h2 h3 h4 h5 hm hs
    cases gk with
    | zero => exact absurd hn (by simp [rowL])
    | succ gk =>
     cases l with
     | nil =>
      obtain rfl := Option.some.inj hn
      have hc0 : wr.cell? ⟨g, 0, none⟩ = some (.slice A0 0 c0) := hc0
      clear hC0 hn
      go_wp2
      go_end0
      exact ⟨v3, HM3.out, rfl, HR3.out⟩
     | cons a l =>
      obtain ⟨ad, rfl, e0, e1⟩ := at_T39 hC0 0 (by omega) (by simp)
      have e0 : wr.cell? ad = some (.int .i64 a.f0) := by simpa [Addr.add, rd_T39] using e0
      have hc0 : wr.cell? ⟨g, 0, none⟩ = some (.slice (some ad) (l.length + 1) c0) := hc0
      clear hC0 e1
      cases hcc : List.contains [5] a.f0
      ·have HCN := Aside0.mk (con1 5 a.f0 hcc)
       rw [rowL_stop' hcc] at hn
       obtain rfl := Option.some.inj hn
       clear hn hcc
       go_wp2_with (first | (go_at_call 60; refine (slices_Contains_int_int.calls 5 _ _ [5] _ _ _ (HK.out _ HM3.out.2.1) hc HCN.out).mono ?_; rintro e w3 ⟨rfl, hd⟩; have HD := Aside0.mk hd.below; clear hd))
       go_end0
       exact ⟨v3, HM3.out.trans (Mv.of_below HD.out HR3.out.base), rfl, HR3.out.below HD.out⟩
      ·have HCN := Aside0.mk (con1 5 a.f0 hcc)
       have hl1 : o.length + l.length ≤ 100000 := by have := HL3.out; simp only [List.length_cons] at this; omega
       have HL4 := Aside0.mk hl1
       cases ht : R 5 (l, o) with
       | none => simp only [rowL, hcc, if_true, ht, bnd] at hn; cases hn
       | some r1 =>
        have HT := Aside0.mk ht
        cases r1 with
        | none =>
         simp only [rowL, hcc, if_true, ht, bnd] at hn
         obtain rfl := Option.some.inj hn
         clear hn hcc hl1 ht
         go_wp2_with (first | (go_at_call 60; refine (slices_Contains_int_int.calls 5 _ _ [5] _ _ _ (HK.out _ HM3.out.2.1) hc HCN.out).mono ?_; rintro e w3 ⟨rfl, hd⟩; have hb3 := hd.below; have hc3 : w3.cell? ⟨g, 0, none⟩ = some (.slice (some ad) (l.length + 1) c0) := (hb3.cell (p := ⟨g, 0, none⟩) HR3.out.lt).trans hc0; have e3 : w3.cell? ad = some (.int .i64 a.f0) := (hb3.cell (World.block_lt_of_cell? wr _ e0)).trans e0; have HR4 := Aside0.mk (HR3.out.below hb3); have HM4 := Aside0.mk (HM3.out.trans (Mv.of_below hb3 HR3.out.base)); have HW4 := Aside0.mk (HW.out.mv HM4.out); clear hd hb3) | (go_at_call 61; refine (take_calls a.f0 HR4.out HW4.out (some (l, o)) (by simp [takeF, seesF])).mono ?_; rintro e w5 ⟨v5, hm5, rfl, hr5⟩; have HM5 := Aside0.mk (HM4.out.trans hm5); have HR5 := Aside0.mk hr5; have HW5 := Aside0.mk (HW.out.mv HM5.out); clear hm5 hr5) | (go_at_call 122; refine (HC.out _ _ _ _ _ _ HW5.out HR5.out HL4.out HT.out).mono ?_; rintro e w6 ⟨v6, hm6, T, pv, rfl⟩; have HM6 := Aside0.mk (HM5.out.trans hm6); clear hm6))
         exact ⟨rfl, v6, HM6.out, T, pv, rfl⟩
        | some s2 =>
         obtain ⟨l2, o2⟩ := s2
         rw [rowL_go' hcc ht] at hn
         have HN := Aside0.mk hn
         have hf2 := HX.out _ _ ht
         dsimp only at hf2
         have hl2 : o2.length < 8796093022208 := by have := HL4.out; omega
         have hl3 : (o2 ++ [(⟨a.f0, 0⟩ : S39)]).length + l2.length ≤ 100000 := by
          have := HL3.out
          simp only [List.length_cons, List.length_append, List.length_nil] at this ⊢; omega
         have HL6 := Aside0.mk hl2
         have HL7 := Aside0.mk hl3
         clear hn hcc hl1 ht hf2 hl2 hl3
         go_wp2_with (first | (go_at_call 60; refine (slices_Contains_int_int.calls 5 _ _ [5] _ _ _ (HK.out _ HM3.out.2.1) hc HCN.out).mono ?_; rintro e w3 ⟨rfl, hd⟩; have hb3 := hd.below; have hc3 : w3.cell? ⟨g, 0, none⟩ = some (.slice (some ad) (l.length + 1) c0) := (hb3.cell (p := ⟨g, 0, none⟩) HR3.out.lt).trans hc0; have e3 : w3.cell? ad = some (.int .i64 a.f0) := (hb3.cell (World.block_lt_of_cell? wr _ e0)).trans e0; have HR4 := Aside0.mk (HR3.out.below hb3); have HM4 := Aside0.mk (HM3.out.trans (Mv.of_below hb3 HR3.out.base)); have HW4 := Aside0.mk (HW.out.mv HM4.out); clear hd hb3) | (go_at_call 61; refine (take_calls a.f0 HR4.out HW4.out (some (l, o)) (by simp [takeF, seesF])).mono ?_; rintro e w5 ⟨v5, hm5, rfl, hr5⟩; have HM5 := Aside0.mk (HM4.out.trans hm5); have HR5 := Aside0.mk hr5; have HW5 := Aside0.mk (HW.out.mv HM5.out); clear hm5 hr5) | (go_at_call 122; refine (HC.out _ _ _ _ _ _ HW5.out HR5.out HL4.out HT.out).mono ?_; rintro e w6 ⟨v6, hm6, rfl, hr6⟩; have HM6 := Aside0.mk (HM5.out.trans hm6); have HR6 := Aside0.mk hr6; clear hm6 hr6) | (go_at_call 62; refine (put_calls a.f0 HR6.out HL6.out).mono ?_; rintro e w7 ⟨v7, hm7, rfl, hr7⟩; have HM7 := Aside0.mk (HM6.out.trans hm7); have HR7 := Aside0.mk hr7; clear hm7 hr7))
         go_roundg gk
         case measure => omega
         case rel => exact ⟨(l2, o2 ++ [(⟨a.f0, 0⟩ : S39)]), v7, HN.out, HL7.out, HM7.out, HR7.out⟩
theorem kinds_new {b g : Nat} {v : Value} {w : World} {st : ST} (h : RS b g v w st) (ks : List Int) (hn : ks.length ≤ 1000) (T : Nat) : Kinds (w.alloc (.cells (ks.map (Value.int .i64)).toArray T)) g v (some ⟨w.heap.size, 0, none⟩) ks := by
  intro W' hk
  have hg := h.lt
  obtain ⟨A, c, h1, h2, h3, h4, h5⟩ := h
  have hb0 := Kd.R_bound h4
  have hsz : (w.alloc (.cells (ks.map (Value.int .i64)).toArray T)).heap.size = w.heap.size + 1 := by simp
  have hne : some w.heap.size ≠ v.ownBlock := fun e => by
    have := (hb0.1 _ e.symm).2.2.1
    omega
  have hb : W'.heap[w.heap.size]? = some (.cells (ks.map (Value.int .i64)).toArray T (0, 0)) := (hk.2 w.heap.size (by rw [hsz]; omega) (by omega) hne).trans (heap_alloc_last w _)
  refine ⟨rfl, by omega, fun _ => ⟨_, rfl, fun j p hj => ⟨[.int .i64 p], rfl, rfl, fun i u hu => ?_⟩⟩⟩
  have hi : i = 0 := by
    have := (List.getElem?_eq_some_iff.1 hu).1
    simpa using this
  subst hi
  obtain rfl : Value.int .i64 p = u := by simpa using hu
  have hc := bce hb j
  have e : (⟨w.heap.size, 0, none⟩ : Addr).add (j * (Kd.int .i64).sz + 0) = ⟨w.heap.size, j, none⟩ := by
    show (⟨w.heap.size, 0, none⟩ : Addr).add (j * 1 + 0) = _
    unfold Addr.add
    split
    · rename_i q; simp at q; subst q; rfl
    · simp
  rw [e, hc]
  simp [hj]
theorem top_guard {R : Nat → ST → Rz} (hC : Can R 1) (hF : Fine R 1) {b g : Nat} {v : Value} {w : World} {st : ST} (k : Nat) (res : Option ST) (hW : Wr b w) (h : RS b g v w st) (hl : st.2.length + st.1.length ≤ 100000) (hr : rowF (R 1) [13] k st = some res) : Calls Tryz.prog 18 #[.pointer (some ⟨g, 0, none⟩)] w (Post b g v w res) := by
  have HW := Aside0.mk hW
  have HR := Aside0.mk h
  have HL := Aside0.mk hl
  have HC := Aside0.mk hC
  have HX := Aside0.mk hF
  have HT := Aside0.mk hr
  cases res with
  | none =>
    have hmf : ∀ (fn : Fn) (first cap : Array Value) (w : World), (Instr.makeFunc fn first cap).run Tryz.prog w = .ok (.func fn first cap) w := fun _ _ _ _ => rfl
    clear hC hF hW h hl hr
    go_enter Tryz.func18, Tryz.ntmps18
    go_wp2_with (first | (have hba := (Below.refl w.heap.size w).alloc (Nat.le_refl _) (.cells (List.map (Value.int .i64) [13]).toArray 3); have HM1 := Aside0.mk (Mv.of_below (v := v) (g := g) hba HR.out.base); have HR1 := Aside0.mk (HR.out.below hba); have HW1 := Aside0.mk (HW.out.mv HM1.out); have HK1 := Aside0.mk (kinds_new HR.out [13] (by decide) 3); clear hba; (go_at_call 34; refine (row_some HC.out HX.out _ 1 k _ HW1.out HR1.out HL.out HK1.out (Nat.le_refl _) HT.out).mono ?_; rintro e w2 ⟨v2, hm2, T, pv, rfl⟩; have HM2 := Aside0.mk (HM1.out.trans hm2); clear hm2)))
    exact ⟨rfl, v2, HM2.out, T, pv, rfl⟩
  | some s =>
    have hmf : ∀ (fn : Fn) (first cap : Array Value) (w : World), (Instr.makeFunc fn first cap).run Tryz.prog w = .ok (.func fn first cap) w := fun _ _ _ _ => rfl
    clear hC hF hW h hl hr
    go_enter Tryz.func18, Tryz.ntmps18
    go_wp2_with (first | (have hba := (Below.refl w.heap.size w).alloc (Nat.le_refl _) (.cells (List.map (Value.int .i64) [13]).toArray 3); have HM1 := Aside0.mk (Mv.of_below (v := v) (g := g) hba HR.out.base); have HR1 := Aside0.mk (HR.out.below hba); have HW1 := Aside0.mk (HW.out.mv HM1.out); have HK1 := Aside0.mk (kinds_new HR.out [13] (by decide) 3); clear hba; (go_at_call 34; refine (row_some HC.out HX.out _ 1 k _ HW1.out HR1.out HL.out HK1.out (Nat.le_refl _) HT.out).mono ?_; rintro e w2 ⟨v2, hm2, rfl, hr2⟩; have HM2 := Aside0.mk (HM1.out.trans hm2); have HR2 := Aside0.mk hr2; clear hm2 hr2)))
    go_end0
    exact ⟨v2, HM2.out, rfl, HR2.out⟩
theorem top_some {R : Nat → ST → Rz} (hC : Can R 2) (hF : Fine R 2) {b g : Nat} {v : Value} {w : World} {st : ST} (k : Nat) (res : Option ST) (hW : Wr b w) (h : RS b g v w st) (hl : st.2.length + st.1.length ≤ 100000) (hr : rowF (R 2) [12] k st = some res) : Calls Tryz.prog 35 #[.pointer (some ⟨g, 0, none⟩)] w (Post b g v w res) := by
  have HW := Aside0.mk hW
  have HR := Aside0.mk h
  have HL := Aside0.mk hl
  have HC := Aside0.mk hC
  have HX := Aside0.mk hF
  have HT := Aside0.mk hr
  cases res with
  | none =>
    have hmf : ∀ (fn : Fn) (first cap : Array Value) (w : World), (Instr.makeFunc fn first cap).run Tryz.prog w = .ok (.func fn first cap) w := fun _ _ _ _ => rfl
    clear hC hF hW h hl hr
    go_enter Tryz.func35, Tryz.ntmps35
    go_wp2_with (first | (have hba := (Below.refl w.heap.size w).alloc (Nat.le_refl _) (.cells (List.map (Value.int .i64) [12]).toArray 3); have HM1 := Aside0.mk (Mv.of_below (v := v) (g := g) hba HR.out.base); have HR1 := Aside0.mk (HR.out.below hba); have HW1 := Aside0.mk (HW.out.mv HM1.out); have HK1 := Aside0.mk (kinds_new HR.out [12] (by decide) 3); clear hba; (go_at_call 34; refine (row_one HC.out HX.out _ 1 k _ HW1.out HR1.out HL.out HK1.out (Nat.le_refl _) HT.out).mono ?_; rintro e w2 ⟨v2, hm2, T, pv, rfl⟩; have HM2 := Aside0.mk (HM1.out.trans hm2); clear hm2)))
    exact ⟨rfl, v2, HM2.out, T, pv, rfl⟩
  | some s =>
    have hmf : ∀ (fn : Fn) (first cap : Array Value) (w : World), (Instr.makeFunc fn first cap).run Tryz.prog w = .ok (.func fn first cap) w := fun _ _ _ _ => rfl
    clear hC hF hW h hl hr
    go_enter Tryz.func35, Tryz.ntmps35
    go_wp2_with (first | (have hba := (Below.refl w.heap.size w).alloc (Nat.le_refl _) (.cells (List.map (Value.int .i64) [12]).toArray 3); have HM1 := Aside0.mk (Mv.of_below (v := v) (g := g) hba HR.out.base); have HR1 := Aside0.mk (HR.out.below hba); have HW1 := Aside0.mk (HW.out.mv HM1.out); have HK1 := Aside0.mk (kinds_new HR.out [12] (by decide) 3); clear hba; (go_at_call 34; refine (row_one HC.out HX.out _ 1 k _ HW1.out HR1.out HL.out HK1.out (Nat.le_refl _) HT.out).mono ?_; rintro e w2 ⟨v2, hm2, rfl, hr2⟩; have HM2 := Aside0.mk (HM1.out.trans hm2); have HR2 := Aside0.mk hr2; clear hm2 hr2)))
    go_end0
    exact ⟨v2, HM2.out, rfl, HR2.out⟩
theorem top_sum {R : Nat → ST → Rz} (hC : Can R 4) (hF : Fine R 4) {b g : Nat} {v : Value} {w : World} {st : ST} (k : Nat) (res : Option ST) (hW : Wr b w) (h : RS b g v w st) (hl : st.2.length + st.1.length ≤ 100000) (hr : rowF (R 4) [3, 4] k st = some res) : Calls Tryz.prog 93 #[.pointer (some ⟨g, 0, none⟩)] w (Post b g v w res) := by
  have HW := Aside0.mk hW
  have HR := Aside0.mk h
  have HL := Aside0.mk hl
  have HC := Aside0.mk hC
  have HX := Aside0.mk hF
  have HT := Aside0.mk hr
  cases res with
  | none =>
    have hmf : ∀ (fn : Fn) (first cap : Array Value) (w : World), (Instr.makeFunc fn first cap).run Tryz.prog w = .ok (.func fn first cap) w := fun _ _ _ _ => rfl
    clear hC hF hW h hl hr
    go_enter Tryz.func93, Tryz.ntmps93
    go_wp2_with (first | (have hba := (Below.refl w.heap.size w).alloc (Nat.le_refl _) (.cells (List.map (Value.int .i64) [3, 4]).toArray 3); have HM1 := Aside0.mk (Mv.of_below (v := v) (g := g) hba HR.out.base); have HR1 := Aside0.mk (HR.out.below hba); have HW1 := Aside0.mk (HW.out.mv HM1.out); have HK1 := Aside0.mk (kinds_new HR.out [3, 4] (by decide) 3); clear hba; (go_at_call 34; refine (row_product HC.out HX.out _ 2 k _ HW1.out HR1.out HL.out HK1.out (Nat.le_refl _) HT.out).mono ?_; rintro e w2 ⟨v2, hm2, T, pv, rfl⟩; have HM2 := Aside0.mk (HM1.out.trans hm2); clear hm2)))
    exact ⟨rfl, v2, HM2.out, T, pv, rfl⟩
  | some s =>
    have hmf : ∀ (fn : Fn) (first cap : Array Value) (w : World), (Instr.makeFunc fn first cap).run Tryz.prog w = .ok (.func fn first cap) w := fun _ _ _ _ => rfl
    clear hC hF hW h hl hr
    go_enter Tryz.func93, Tryz.ntmps93
    go_wp2_with (first | (have hba := (Below.refl w.heap.size w).alloc (Nat.le_refl _) (.cells (List.map (Value.int .i64) [3, 4]).toArray 3); have HM1 := Aside0.mk (Mv.of_below (v := v) (g := g) hba HR.out.base); have HR1 := Aside0.mk (HR.out.below hba); have HW1 := Aside0.mk (HW.out.mv HM1.out); have HK1 := Aside0.mk (kinds_new HR.out [3, 4] (by decide) 3); clear hba; (go_at_call 34; refine (row_product HC.out HX.out _ 2 k _ HW1.out HR1.out HL.out HK1.out (Nat.le_refl _) HT.out).mono ?_; rintro e w2 ⟨v2, hm2, rfl, hr2⟩; have HM2 := Aside0.mk (HM1.out.trans hm2); have HR2 := Aside0.mk hr2; clear hm2 hr2)))
    go_end0
    exact ⟨v2, HM2.out, rfl, HR2.out⟩
theorem top_product {R : Nat → ST → Rz} (hC : Can R 5) (hF : Fine R 5) {b g : Nat} {v : Value} {w : World} {st : ST} (k : Nat) (res : Option ST) (hW : Wr b w) (h : RS b g v w st) (hl : st.2.length + st.1.length ≤ 100000) (hr : rowF (R 5) [5] k st = some res) : Calls Tryz.prog 110 #[.pointer (some ⟨g, 0, none⟩)] w (Post b g v w res) := by
  have HW := Aside0.mk hW
  have HR := Aside0.mk h
  have HL := Aside0.mk hl
  have HC := Aside0.mk hC
  have HX := Aside0.mk hF
  have HT := Aside0.mk hr
  cases res with
  | none =>
    have hmf : ∀ (fn : Fn) (first cap : Array Value) (w : World), (Instr.makeFunc fn first cap).run Tryz.prog w = .ok (.func fn first cap) w := fun _ _ _ _ => rfl
    clear hC hF hW h hl hr
    go_enter Tryz.func110, Tryz.ntmps110
    go_wp2_with (first | (have hba := (Below.refl w.heap.size w).alloc (Nat.le_refl _) (.cells (List.map (Value.int .i64) [5]).toArray 3); have HM1 := Aside0.mk (Mv.of_below (v := v) (g := g) hba HR.out.base); have HR1 := Aside0.mk (HR.out.below hba); have HW1 := Aside0.mk (HW.out.mv HM1.out); have HK1 := Aside0.mk (kinds_new HR.out [5] (by decide) 3); clear hba; (go_at_call 34; refine (row_factor HC.out HX.out _ 1 k _ HW1.out HR1.out HL.out HK1.out (Nat.le_refl _) HT.out).mono ?_; rintro e w2 ⟨v2, hm2, T, pv, rfl⟩; have HM2 := Aside0.mk (HM1.out.trans hm2); clear hm2)))
    exact ⟨rfl, v2, HM2.out, T, pv, rfl⟩
  | some s =>
    have hmf : ∀ (fn : Fn) (first cap : Array Value) (w : World), (Instr.makeFunc fn first cap).run Tryz.prog w = .ok (.func fn first cap) w := fun _ _ _ _ => rfl
    clear hC hF hW h hl hr
    go_enter Tryz.func110, Tryz.ntmps110
    go_wp2_with (first | (have hba := (Below.refl w.heap.size w).alloc (Nat.le_refl _) (.cells (List.map (Value.int .i64) [5]).toArray 3); have HM1 := Aside0.mk (Mv.of_below (v := v) (g := g) hba HR.out.base); have HR1 := Aside0.mk (HR.out.below hba); have HW1 := Aside0.mk (HW.out.mv HM1.out); have HK1 := Aside0.mk (kinds_new HR.out [5] (by decide) 3); clear hba; (go_at_call 34; refine (row_factor HC.out HX.out _ 1 k _ HW1.out HR1.out HL.out HK1.out (Nat.le_refl _) HT.out).mono ?_; rintro e w2 ⟨v2, hm2, rfl, hr2⟩; have HM2 := Aside0.mk (HM1.out.trans hm2); have HR2 := Aside0.mk hr2; clear hm2 hr2)))
    go_end0
    exact ⟨v2, HM2.out, rfl, HR2.out⟩
end Go.Proofs.YtikbgoppmailjaaGreatDoor.H
/- guard's reader, second part: factor, one; and the whole. -/
namespace Go.Proofs.YtikbgoppmailjaaGreatDoor.H
open Go.RowKit Go.HK Go.Proofs.YtikbgoppmailjaaGreatDoorW.PrintWords Go.Proofs.YtikbgoppmailjaaGreatDoorW.PrintLast Go.Proofs.YtikbgoppmailjaaGreatDoorW.PrintMore
set_option linter.unusedVariables false
set_option linter.unusedSimpArgs false
theorem cell_alloc_keep {w : World} {ad : Addr} {v : Value} (o : Obj) (h : w.cell? ad = some v) : (w.alloc o).cell? ad = some v :=
  (((Below.refl w.heap.size w).alloc (Nat.le_refl _) o).cell (World.block_lt_of_cell? w _ h)).trans h
set_option maxRecDepth 100000 in
theorem factor_operand {b g : Nat} {v : Value} {w : World} {a : S39} {l o : List S39} (hk : a.f0 = 1 ∨ a.f0 = 2) (hW : Wr b w) (h : RS b g v w (a :: l, o)) (hl : o.length < 8796093022208) :
  Calls Tryz.prog 122 #[.pointer (some ⟨g, 0, none⟩)] w (Post b g v w (some (l, o ++ [a]))) := by
 have HW := Aside0.mk hW
 have HR0 := Aside0.mk h
 have HM0 := Aside0.mk (Mv.refl (b := b) (g := g) (v := v) (w := w))
 have HW0 := HW
 have main : ∀ (w3 : World), Mv b g v w v w3 → RS b g v w3 (a :: l, o) → True := fun _ _ _ => trivial
 rcases hk with hk | hk
 ·have HS1 := Aside0.mk (show seesF 1 (a :: l, o) = true by simp [seesF, hk])
  have HL := Aside0.mk hl
  clear hW h hl main hk
  go_enter Tryz.func122, Tryz.ntmps122
  go_wp2_with (first | (go_at_call 92; (with_reducible refine (sees_calls 1 _ HR0.out HS1.out).mono ?_); rintro e w1 ⟨rfl, hb⟩; have HM1 := Aside0.mk (HM0.out.trans (Mv.of_below hb HR0.out.base)); have HR1 := Aside0.mk (HR0.out.below hb); have HW1 := Aside0.mk (HW.out.mv HM1.out); clear hb))
  have hr := HR1.out
  have HS := Aside0.mk hr.base
  have HN := Aside0.mk hr.ne
  obtain ⟨A0, c0, h1, h2, h3, h4, h5⟩ := hr
  have hc0 := bce h1 0
  have hc1 : w1.cell? ⟨g, 1, none⟩ = some v := bce h1 1
  have hC0 := h3 w1 (KeepBut.refl _ _ _)
  have HO := Aside0.mk h4
  have H1 := Aside0.mk h1
  obtain ⟨ad, rfl, e0, e1⟩ := at_T39 hC0 0 (by omega) (by simp)
  have e0 : w1.cell? ad = some (.int .i64 a.f0) := by simpa [Addr.add, rd_T39] using e0
  have e1 : w1.cell? ⟨ad.block, ad.off + 1, none⟩ = some (.int .i64 a.f1) := by simpa [Addr.add, rd_T39] using e1
  have hc0 : w1.cell? ⟨g, 0, none⟩ = some (.slice (some ad) (l.length + 1) c0) := hc0
  have hlo := HL.out
  clear h1 h2 h3 h4 h5 hC0
  refine start_ (n := 16) (S := fun w' => w'.cell? ⟨g, 0, none⟩ = some (.slice (some ad) (l.length + 1) c0) ∧ w'.cell? ⟨g, 1, none⟩ = some v ∧ w'.cell? ad = some (.int .i64 a.f0) ∧ w'.cell? ⟨ad.block, ad.off + 1, none⟩ = some (.int .i64 a.f1)) (ds := [12, 15]) #[false, false, false, false, false, false, false, false, false, false, false, false, false, false, false, false] (by kernel_rfl) rfl rfl ⟨hc0, hc1, e0, e1⟩ (fun hHeld => ?_)
  refine pure_ (i := 0) (N := some 13) (v := ?_) (a' := ?_) #[true, false, false, false, false, false, false, false, false, false, false, false, false, false, false, false] rfl rfl (by kernel_rfl) (fun _ _ _ h => h) (Or.inl ⟨by rfl, ?_⟩) ?_ ?_
  rotate_left
  ·intro w'
   go_simp
   with_reducible rfl
  rotate_left
  ·simp only [Act.put, List.setIfInBounds_toArray, List.set_cons_zero, List.set_cons_succ, i64_w, i32_w]
   rfl
  refine pure_ (i := 1) (N := some 14) (v := ?_) (a' := ?_) #[true, true, false, false, false, false, false, false, false, false, false, false, false, false, false, false] rfl rfl (by kernel_rfl) (fun _ _ _ h => h) (Or.inl ⟨by rfl, ?_⟩) ?_ ?_
  rotate_left
  ·intro w'
   go_simp
   with_reducible rfl
  rotate_left
  ·simp only [Act.put, List.setIfInBounds_toArray, List.set_cons_zero, List.set_cons_succ, i64_w, i32_w]
   rfl
  refine pure_ (i := 2) (N := some 15) (v := ?_) (a' := ?_) #[true, true, true, false, false, false, false, false, false, false, false, false, false, false, false, false] rfl rfl (by kernel_rfl) (fun _ _ _ h => h) (Or.inl ⟨by rfl, ?_⟩) ?_ ?_
  rotate_left
  ·intro w'
   go_simp
   with_reducible rfl
  rotate_left
  ·simp only [Act.put, List.setIfInBounds_toArray, List.set_cons_zero, List.set_cons_succ, i64_w, i32_w]
   rfl
  refine pure_ (i := 3) (N := some 16) (v := ?_) (a' := ?_) #[true, true, true, true, false, false, false, false, false, false, false, false, false, false, false, false] rfl rfl (by kernel_rfl) (fun _ _ _ h => h) (Or.inl ⟨by rfl, ?_⟩) ?_ ?_
  rotate_left
  ·intro w'
   go_simp
   with_reducible rfl
  rotate_left
  ·simp only [Act.put, List.setIfInBounds_toArray, List.set_cons_zero, List.set_cons_succ, i64_w, i32_w]
   rfl
  refine pure_ (i := 5) (N := some 18) (v := ?_) (a' := ?_) #[true, true, true, true, false, true, false, false, false, false, false, false, false, false, false, false] rfl rfl (by kernel_rfl) (fun _ _ _ h => h) (Or.inl ⟨by rfl, ?_⟩) ?_ ?_
  rotate_left
  ·intro w'
   go_simp
   with_reducible rfl
  rotate_left
  ·simp only [Act.put, List.setIfInBounds_toArray, List.set_cons_zero, List.set_cons_succ, i64_w, i32_w]
   rfl
  refine pure_ (i := 6) (N := some 19) (v := ?_) (a' := ?_) #[true, true, true, true, false, true, true, false, false, false, false, false, false, false, false, false] rfl rfl (by kernel_rfl) (fun _ _ _ h => h) (Or.inl ⟨by rfl, ?_⟩) ?_ ?_
  rotate_left
  ·intro w'
   go_simp
   with_reducible rfl
  rotate_left
  ·simp only [Act.put, List.setIfInBounds_toArray, List.set_cons_zero, List.set_cons_succ, i64_w, i32_w]
   rfl
  refine pure_ (i := 7) (N := some 20) (v := ?_) (a' := ?_) #[true, true, true, true, false, true, true, true, false, false, false, false, false, false, false, false] rfl rfl (by kernel_rfl) (fun _ _ _ h => h) (Or.inl ⟨by rfl, ?_⟩) ?_ ?_
  rotate_left
  ·intro w'
   go_simp
   with_reducible rfl
  rotate_left
  ·simp only [Act.put, List.setIfInBounds_toArray, List.set_cons_zero, List.set_cons_succ, i64_w, i32_w]
   rfl
  refine take_ (i := 4) (N := some 17) (v := ?_) (a' := ?_) #[true, true, true, true, true, true, true, true, false, false, false, false, false, false, false, false] rfl rfl (by kernel_rfl) (fun _ _ _ h => h) (Or.inl ⟨by rfl, ?_⟩) hHeld ?_ ?_
  rotate_left
  ·rintro w' ⟨s0, s1, s2, s3⟩
   go_simp
   with_reducible rfl
  rotate_left
  ·simp only [Act.put, List.setIfInBounds_toArray, List.set_cons_zero, List.set_cons_succ, i64_w, i32_w]
   rfl
  refine take_ (i := 8) (N := some 21) (v := ?_) (a' := ?_) #[true, true, true, true, true, true, true, true, true, false, false, false, false, false, false, false] rfl rfl (by kernel_rfl) (fun _ _ _ h => h) (Or.inl ⟨by rfl, ?_⟩) hHeld ?_ ?_
  rotate_left
  ·rintro w' ⟨s0, s1, s2, s3⟩
   go_simp
   with_reducible rfl
  rotate_left
  ·simp only [Act.put, List.setIfInBounds_toArray, List.set_cons_zero, List.set_cons_succ, i64_w, i32_w]
   rfl
  refine pure_ (i := 9) (N := some 22) (v := ?_) (a' := ?_) #[true, true, true, true, true, true, true, true, true, true, false, false, false, false, false, false] rfl rfl (by kernel_rfl) (fun _ _ _ h => h) (Or.inl ⟨by rfl, ?_⟩) ?_ ?_
  rotate_left
  ·intro w'
   go_simp
   with_reducible rfl
  rotate_left
  ·simp only [Act.put, List.setIfInBounds_toArray, List.set_cons_zero, List.set_cons_succ, i64_w, i32_w]
   rfl
  refine take_ (i := 10) (N := some 23) (v := ?_) (a' := ?_) #[true, true, true, true, true, true, true, true, true, true, true, false, false, false, false, false] rfl rfl (by kernel_rfl) (fun _ _ _ h => h) (Or.inl ⟨by rfl, ?_⟩) hHeld ?_ ?_
  rotate_left
  ·rintro w' ⟨s0, s1, s2, s3⟩
   go_simp
   with_reducible rfl
  rotate_left
  ·simp only [Act.put, List.setIfInBounds_toArray, List.set_cons_zero, List.set_cons_succ, i64_w, i32_w]
   rfl
  refine one_ (i := 11) (N := some 24) #[true, true, true, true, true, true, true, true, true, true, true, true, false, false, false, false] rfl rfl (by kernel_rfl) (by decide) (fun K hK => ?_)
  refine value_ (w1 := ?_) (v := ?_) (by rfl) rfl ?_ ?_
  rotate_left 2
  ·go_simp
   constructor
   ·rfl
   ·rfl
  refine hK.out _ _ ⟨(cell_alloc_keep _ hHeld.1), (cell_alloc_keep _ hHeld.2.1), (cell_alloc_keep _ hHeld.2.2.1), (cell_alloc_keep _ hHeld.2.2.2)⟩ (fun hHeld => ?_)
  clear hK K
  refine norm_ (a' := ?_) ?_ ?_
  rotate_left
  ·show Act.put _ (some 24) _ = _
   simp only [Act.put, List.setIfInBounds_toArray, List.set_cons_zero, List.set_cons_succ, i64_w, i32_w]
   rfl
  refine last_ (i := 12) (N := some 25) #[true, true, true, true, true, true, true, true, true, true, true, true, true, false, false, false] rfl rfl (by kernel_rfl) (by decide) (fun K hK => ?_)
  refine Kd.R_append_step k39 (w0 := World.drew w1) (W := World.drew w1) b (by rfl) (.tmp 17) (.tmp 24) 23 39 (.agg #[(.int .i64 0), (.int .i64 0)]) 16 rfl Tryz.underlying23 info39 rfl (by decide) (by omega) v o a [.int .i64 a.f0, .int .i64 a.f1] (fun _ => True) (fun _ => False) rfl rfl ?aP (fun _ hk => hk.elim) ?aF ?aO ?aB ?aS ?aL ?_
  case aP => exact k39_mkM _ _ _ a
  case aF => exact (fun _ _ => trivial)
  case aO => exact Kd.R_drew HO.out
  case aB => exact Below.refl _ _
  case aS => exact HS.out
  case aL => omega
  intro v1 w4 ho hb hg hat
  obtain ⟨A1, c1, e1, _, _⟩ := Kd.R_reads ho
  subst e1
  have hb1 := blk_grown (w := World.drew w1) H1.out hg HN.out
  have hcell : w4.cell? ⟨g, 1, none⟩ = some v := bce hb1 1
  have hfr : w4.frozen? ⟨g, 1, none⟩ = false := bfz hb1 1
  have HO1 := Aside0.mk ho
  have HB1 := Aside0.mk hb
  have HG1 := Aside0.mk hg
  have HA1 := Aside0.mk hat
  have H1b := Aside0.mk hb1
  clear ho hb hg hat hb1
  refine hK.out _ _ ?_
  clear hK K
  refine norm_ (a' := ?_) ?_ ?_
  rotate_left
  ·show Act.put _ (some 25) _ = _
   simp only [Act.put, List.setIfInBounds_toArray, List.set_cons_zero, List.set_cons_succ, i64_w, i32_w]
   rfl
  refine pure_ (i := 13) (N := some 26) (v := ?_) (a' := ?_) #[true, true, true, true, true, true, true, true, true, true, true, true, true, true, false, false] rfl rfl (by kernel_rfl) (fun _ _ _ h => h) (Or.inl ⟨by rfl, ?_⟩) ?_ ?_
  rotate_left
  ·intro w'
   go_simp
   with_reducible rfl
  rotate_left
  ·simp only [Act.put, List.setIfInBounds_toArray, List.set_cons_zero, List.set_cons_succ, i64_w, i32_w]
   rfl
  refine pure_ (i := 14) (N := some 27) (v := ?_) (a' := ?_) #[true, true, true, true, true, true, true, true, true, true, true, true, true, true, true, false] rfl rfl (by kernel_rfl) (fun _ _ _ h => h) (Or.inl ⟨by rfl, ?_⟩) ?_ ?_
  rotate_left
  ·intro w'
   go_simp
   with_reducible rfl
  rotate_left
  ·simp only [Act.put, List.setIfInBounds_toArray, List.set_cons_zero, List.set_cons_succ, i64_w, i32_w]
   rfl
  refine last_ (i := 15) (N := none) #[true, true, true, true, true, true, true, true, true, true, true, true, true, true, true, true] rfl rfl (by kernel_rfl) (by decide) (fun K hK => ?_)
  refine skip_ (w1 := ?_) (by rfl) rfl ?_ ?_
  rotate_left
  ·go_simp
   rfl
  refine hK.out _ _ ?_
  clear hK K
  refine done_ (by kernel_rfl) ?_
  clear hcell hfr hc0 hc1 e0 e1 hHeld
  have hbd : Below w1.heap.size w1 (World.drew w1) := (Below.refl _ _).drew
  obtain ⟨q1, q2⟩ := RS.stored (HR1.out.below hbd) HO1.out HB1.out HG1.out HA1.out
  have q3 := (HM1.out.trans (Mv.of_below (v := v) (g := g) hbd HS.out)).trans q1
  have e : o.length + 1 = (o ++ [a]).length := by simp
  rw [e]
  clear e q1 hbd HO1 HB1 HG1 HA1 H1b H1 HO
  generalize w4.setCell ⟨g, 1, none⟩ (.slice A1 (o ++ [a]).length c1) = w5 at q2 q3 ⊢
  have HM5 := Aside0.mk q3
  have HR5 := Aside0.mk q2
  obtain ⟨A5, c5, h1, h2, h3, h4, h5⟩ := q2
  have hc5 : w5.cell? ⟨g, 0, none⟩ = some (.slice A5 (l.length + 1) c5) := bce h1 0
  have hfr5 := bfz h1 0
  have H15 := Aside0.mk h1
  clear h1 h3 h4 q3
  go_wp2
  all_goals
   go_end0
   obtain ⟨r1, r2⟩ := RS.cut HR5.out H15.out
   have r3 := HM5.out.trans r1
   refine ⟨.slice A1 (o ++ [a]).length c1, ?_, rfl, ?_⟩
   ·simpa [h, Addr.add] using r3
   ·simpa [h, Addr.add] using r2
 ·have HS1 := Aside0.mk (show seesF 1 (a :: l, o) = false by simp [seesF, hk])
  have HS2 := Aside0.mk (show seesF 2 (a :: l, o) = true by simp [seesF, hk])
  have HL := Aside0.mk hl
  clear hW h hl main hk
  go_enter Tryz.func122, Tryz.ntmps122
  go_wp2_with (first | (go_at_call 92; (with_reducible refine (sees_calls 1 _ HR0.out HS1.out).mono ?_); rintro e w1 ⟨rfl, hb⟩; have HM1 := Aside0.mk (HM0.out.trans (Mv.of_below hb HR0.out.base)); have HR1 := Aside0.mk (HR0.out.below hb); have HW1 := Aside0.mk (HW.out.mv HM1.out); clear hb) | (go_at_call 92; (with_reducible refine (sees_calls 2 _ HR1.out HS2.out).mono ?_); rintro e w2 ⟨rfl, hb⟩; have HM2 := Aside0.mk (HM1.out.trans (Mv.of_below hb HR1.out.base)); have HR2 := Aside0.mk (HR1.out.below hb); have HW2 := Aside0.mk (HW.out.mv HM2.out); clear hb))
  have hr := HR2.out
  have HS := Aside0.mk hr.base
  have HN := Aside0.mk hr.ne
  obtain ⟨A0, c0, h1, h2, h3, h4, h5⟩ := hr
  have hc0 := bce h1 0
  have hc1 : w2.cell? ⟨g, 1, none⟩ = some v := bce h1 1
  have hC0 := h3 w2 (KeepBut.refl _ _ _)
  have HO := Aside0.mk h4
  have H1 := Aside0.mk h1
  obtain ⟨ad, rfl, e0, e1⟩ := at_T39 hC0 0 (by omega) (by simp)
  have e0 : w2.cell? ad = some (.int .i64 a.f0) := by simpa [Addr.add, rd_T39] using e0
  have e1 : w2.cell? ⟨ad.block, ad.off + 1, none⟩ = some (.int .i64 a.f1) := by simpa [Addr.add, rd_T39] using e1
  have hc0 : w2.cell? ⟨g, 0, none⟩ = some (.slice (some ad) (l.length + 1) c0) := hc0
  have hlo := HL.out
  clear h1 h2 h3 h4 h5 hC0
  refine start_ (n := 16) (S := fun w' => w'.cell? ⟨g, 0, none⟩ = some (.slice (some ad) (l.length + 1) c0) ∧ w'.cell? ⟨g, 1, none⟩ = some v ∧ w'.cell? ad = some (.int .i64 a.f0) ∧ w'.cell? ⟨ad.block, ad.off + 1, none⟩ = some (.int .i64 a.f1)) (ds := [12, 15]) #[false, false, false, false, false, false, false, false, false, false, false, false, false, false, false, false] (by kernel_rfl) rfl rfl ⟨hc0, hc1, e0, e1⟩ (fun hHeld => ?_)
  refine pure_ (i := 0) (N := some 13) (v := ?_) (a' := ?_) #[true, false, false, false, false, false, false, false, false, false, false, false, false, false, false, false] rfl rfl (by kernel_rfl) (fun _ _ _ h => h) (Or.inl ⟨by rfl, ?_⟩) ?_ ?_
  rotate_left
  ·intro w'
   go_simp
   with_reducible rfl
  rotate_left
  ·simp only [Act.put, List.setIfInBounds_toArray, List.set_cons_zero, List.set_cons_succ, i64_w, i32_w]
   rfl
  refine pure_ (i := 1) (N := some 14) (v := ?_) (a' := ?_) #[true, true, false, false, false, false, false, false, false, false, false, false, false, false, false, false] rfl rfl (by kernel_rfl) (fun _ _ _ h => h) (Or.inl ⟨by rfl, ?_⟩) ?_ ?_
  rotate_left
  ·intro w'
   go_simp
   with_reducible rfl
  rotate_left
  ·simp only [Act.put, List.setIfInBounds_toArray, List.set_cons_zero, List.set_cons_succ, i64_w, i32_w]
   rfl
  refine pure_ (i := 2) (N := some 15) (v := ?_) (a' := ?_) #[true, true, true, false, false, false, false, false, false, false, false, false, false, false, false, false] rfl rfl (by kernel_rfl) (fun _ _ _ h => h) (Or.inl ⟨by rfl, ?_⟩) ?_ ?_
  rotate_left
  ·intro w'
   go_simp
   with_reducible rfl
  rotate_left
  ·simp only [Act.put, List.setIfInBounds_toArray, List.set_cons_zero, List.set_cons_succ, i64_w, i32_w]
   rfl
  refine pure_ (i := 3) (N := some 16) (v := ?_) (a' := ?_) #[true, true, true, true, false, false, false, false, false, false, false, false, false, false, false, false] rfl rfl (by kernel_rfl) (fun _ _ _ h => h) (Or.inl ⟨by rfl, ?_⟩) ?_ ?_
  rotate_left
  ·intro w'
   go_simp
   with_reducible rfl
  rotate_left
  ·simp only [Act.put, List.setIfInBounds_toArray, List.set_cons_zero, List.set_cons_succ, i64_w, i32_w]
   rfl
  refine pure_ (i := 5) (N := some 18) (v := ?_) (a' := ?_) #[true, true, true, true, false, true, false, false, false, false, false, false, false, false, false, false] rfl rfl (by kernel_rfl) (fun _ _ _ h => h) (Or.inl ⟨by rfl, ?_⟩) ?_ ?_
  rotate_left
  ·intro w'
   go_simp
   with_reducible rfl
  rotate_left
  ·simp only [Act.put, List.setIfInBounds_toArray, List.set_cons_zero, List.set_cons_succ, i64_w, i32_w]
   rfl
  refine pure_ (i := 6) (N := some 19) (v := ?_) (a' := ?_) #[true, true, true, true, false, true, true, false, false, false, false, false, false, false, false, false] rfl rfl (by kernel_rfl) (fun _ _ _ h => h) (Or.inl ⟨by rfl, ?_⟩) ?_ ?_
  rotate_left
  ·intro w'
   go_simp
   with_reducible rfl
  rotate_left
  ·simp only [Act.put, List.setIfInBounds_toArray, List.set_cons_zero, List.set_cons_succ, i64_w, i32_w]
   rfl
  refine pure_ (i := 7) (N := some 20) (v := ?_) (a' := ?_) #[true, true, true, true, false, true, true, true, false, false, false, false, false, false, false, false] rfl rfl (by kernel_rfl) (fun _ _ _ h => h) (Or.inl ⟨by rfl, ?_⟩) ?_ ?_
  rotate_left
  ·intro w'
   go_simp
   with_reducible rfl
  rotate_left
  ·simp only [Act.put, List.setIfInBounds_toArray, List.set_cons_zero, List.set_cons_succ, i64_w, i32_w]
   rfl
  refine take_ (i := 4) (N := some 17) (v := ?_) (a' := ?_) #[true, true, true, true, true, true, true, true, false, false, false, false, false, false, false, false] rfl rfl (by kernel_rfl) (fun _ _ _ h => h) (Or.inl ⟨by rfl, ?_⟩) hHeld ?_ ?_
  rotate_left
  ·rintro w' ⟨s0, s1, s2, s3⟩
   go_simp
   with_reducible rfl
  rotate_left
  ·simp only [Act.put, List.setIfInBounds_toArray, List.set_cons_zero, List.set_cons_succ, i64_w, i32_w]
   rfl
  refine take_ (i := 8) (N := some 21) (v := ?_) (a' := ?_) #[true, true, true, true, true, true, true, true, true, false, false, false, false, false, false, false] rfl rfl (by kernel_rfl) (fun _ _ _ h => h) (Or.inl ⟨by rfl, ?_⟩) hHeld ?_ ?_
  rotate_left
  ·rintro w' ⟨s0, s1, s2, s3⟩
   go_simp
   with_reducible rfl
  rotate_left
  ·simp only [Act.put, List.setIfInBounds_toArray, List.set_cons_zero, List.set_cons_succ, i64_w, i32_w]
   rfl
  refine pure_ (i := 9) (N := some 22) (v := ?_) (a' := ?_) #[true, true, true, true, true, true, true, true, true, true, false, false, false, false, false, false] rfl rfl (by kernel_rfl) (fun _ _ _ h => h) (Or.inl ⟨by rfl, ?_⟩) ?_ ?_
  rotate_left
  ·intro w'
   go_simp
   with_reducible rfl
  rotate_left
  ·simp only [Act.put, List.setIfInBounds_toArray, List.set_cons_zero, List.set_cons_succ, i64_w, i32_w]
   rfl
  refine take_ (i := 10) (N := some 23) (v := ?_) (a' := ?_) #[true, true, true, true, true, true, true, true, true, true, true, false, false, false, false, false] rfl rfl (by kernel_rfl) (fun _ _ _ h => h) (Or.inl ⟨by rfl, ?_⟩) hHeld ?_ ?_
  rotate_left
  ·rintro w' ⟨s0, s1, s2, s3⟩
   go_simp
   with_reducible rfl
  rotate_left
  ·simp only [Act.put, List.setIfInBounds_toArray, List.set_cons_zero, List.set_cons_succ, i64_w, i32_w]
   rfl
  refine one_ (i := 11) (N := some 24) #[true, true, true, true, true, true, true, true, true, true, true, true, false, false, false, false] rfl rfl (by kernel_rfl) (by decide) (fun K hK => ?_)
  refine value_ (w1 := ?_) (v := ?_) (by rfl) rfl ?_ ?_
  rotate_left 2
  ·go_simp
   constructor
   ·rfl
   ·rfl
  refine hK.out _ _ ⟨(cell_alloc_keep _ hHeld.1), (cell_alloc_keep _ hHeld.2.1), (cell_alloc_keep _ hHeld.2.2.1), (cell_alloc_keep _ hHeld.2.2.2)⟩ (fun hHeld => ?_)
  clear hK K
  refine norm_ (a' := ?_) ?_ ?_
  rotate_left
  ·show Act.put _ (some 24) _ = _
   simp only [Act.put, List.setIfInBounds_toArray, List.set_cons_zero, List.set_cons_succ, i64_w, i32_w]
   rfl
  refine last_ (i := 12) (N := some 25) #[true, true, true, true, true, true, true, true, true, true, true, true, true, false, false, false] rfl rfl (by kernel_rfl) (by decide) (fun K hK => ?_)
  refine Kd.R_append_step k39 (w0 := World.drew w2) (W := World.drew w2) b (by rfl) (.tmp 17) (.tmp 24) 23 39 (.agg #[(.int .i64 0), (.int .i64 0)]) 16 rfl Tryz.underlying23 info39 rfl (by decide) (by omega) v o a [.int .i64 a.f0, .int .i64 a.f1] (fun _ => True) (fun _ => False) rfl rfl ?aP (fun _ hk => hk.elim) ?aF ?aO ?aB ?aS ?aL ?_
  case aP => exact k39_mkM _ _ _ a
  case aF => exact (fun _ _ => trivial)
  case aO => exact Kd.R_drew HO.out
  case aB => exact Below.refl _ _
  case aS => exact HS.out
  case aL => omega
  intro v1 w4 ho hb hg hat
  obtain ⟨A1, c1, e1, _, _⟩ := Kd.R_reads ho
  subst e1
  have hb1 := blk_grown (w := World.drew w2) H1.out hg HN.out
  have hcell : w4.cell? ⟨g, 1, none⟩ = some v := bce hb1 1
  have hfr : w4.frozen? ⟨g, 1, none⟩ = false := bfz hb1 1
  have HO1 := Aside0.mk ho
  have HB1 := Aside0.mk hb
  have HG1 := Aside0.mk hg
  have HA1 := Aside0.mk hat
  have H1b := Aside0.mk hb1
  clear ho hb hg hat hb1
  refine hK.out _ _ ?_
  clear hK K
  refine norm_ (a' := ?_) ?_ ?_
  rotate_left
  ·show Act.put _ (some 25) _ = _
   simp only [Act.put, List.setIfInBounds_toArray, List.set_cons_zero, List.set_cons_succ, i64_w, i32_w]
   rfl
  refine pure_ (i := 13) (N := some 26) (v := ?_) (a' := ?_) #[true, true, true, true, true, true, true, true, true, true, true, true, true, true, false, false] rfl rfl (by kernel_rfl) (fun _ _ _ h => h) (Or.inl ⟨by rfl, ?_⟩) ?_ ?_
  rotate_left
  ·intro w'
   go_simp
   with_reducible rfl
  rotate_left
  ·simp only [Act.put, List.setIfInBounds_toArray, List.set_cons_zero, List.set_cons_succ, i64_w, i32_w]
   rfl
  refine pure_ (i := 14) (N := some 27) (v := ?_) (a' := ?_) #[true, true, true, true, true, true, true, true, true, true, true, true, true, true, true, false] rfl rfl (by kernel_rfl) (fun _ _ _ h => h) (Or.inl ⟨by rfl, ?_⟩) ?_ ?_
  rotate_left
  ·intro w'
   go_simp
   with_reducible rfl
  rotate_left
  ·simp only [Act.put, List.setIfInBounds_toArray, List.set_cons_zero, List.set_cons_succ, i64_w, i32_w]
   rfl
  refine last_ (i := 15) (N := none) #[true, true, true, true, true, true, true, true, true, true, true, true, true, true, true, true] rfl rfl (by kernel_rfl) (by decide) (fun K hK => ?_)
  refine skip_ (w1 := ?_) (by rfl) rfl ?_ ?_
  rotate_left
  ·go_simp
   rfl
  refine hK.out _ _ ?_
  clear hK K
  refine done_ (by kernel_rfl) ?_
  clear hcell hfr hc0 hc1 e0 e1 hHeld
  have hbd : Below w2.heap.size w2 (World.drew w2) := (Below.refl _ _).drew
  obtain ⟨q1, q2⟩ := RS.stored (HR2.out.below hbd) HO1.out HB1.out HG1.out HA1.out
  have q3 := (HM2.out.trans (Mv.of_below (v := v) (g := g) hbd HS.out)).trans q1
  have e : o.length + 1 = (o ++ [a]).length := by simp
  rw [e]
  clear e q1 hbd HO1 HB1 HG1 HA1 H1b H1 HO
  generalize w4.setCell ⟨g, 1, none⟩ (.slice A1 (o ++ [a]).length c1) = w5 at q2 q3 ⊢
  have HM5 := Aside0.mk q3
  have HR5 := Aside0.mk q2
  obtain ⟨A5, c5, h1, h2, h3, h4, h5⟩ := q2
  have hc5 : w5.cell? ⟨g, 0, none⟩ = some (.slice A5 (l.length + 1) c5) := bce h1 0
  have hfr5 := bfz h1 0
  have H15 := Aside0.mk h1
  clear h1 h3 h4 q3
  go_wp2
  all_goals
   go_end0
   obtain ⟨r1, r2⟩ := RS.cut HR5.out H15.out
   have r3 := HM5.out.trans r1
   refine ⟨.slice A1 (o ++ [a]).length c1, ?_, rfl, ?_⟩
   ·simpa [h, Addr.add] using r3
   ·simpa [h, Addr.add] using r2
set_option maxRecDepth 100000 in
theorem factor_calls {R : Nat → ST → Rz} (h5 : Can R 5) (h3 : Can R 3) (f5 : Fine R 5) (f3 : Fine R 3) {b g : Nat} {v : Value} {w : World} {st : ST} (k : Nat) (res : Option ST) (hW : Wr b w) (h : RS b g v w st) (hl : st.2.length + st.1.length ≤ 100000) (hr : stepF R k 5 st = some res) :
  Calls Tryz.prog 122 #[.pointer (some ⟨g, 0, none⟩)] w (Post b g v w res) := by
 have HW := Aside0.mk hW
 have HR0 := Aside0.mk h
 have HM0 := Aside0.mk (Mv.refl (b := b) (g := g) (v := v) (w := w))
 have HW0 := HW
 have H5 := Aside0.mk h5
 have H3 := Aside0.mk h3
 obtain ⟨l, o⟩ := st
 cases l with
 | nil =>
  obtain rfl := Option.some.inj (show some none = some res from hr)
  have HS1 := Aside0.mk (show seesF 1 (([], o) : ST) = false from rfl)
  have HS2 := Aside0.mk (show seesF 2 (([], o) : ST) = false from rfl)
  have HS4 := Aside0.mk (show seesF 4 (([], o) : ST) = false from rfl)
  have HT17 := Aside0.mk (show takeF 17 (([], o) : ST) = some none from rfl)
  clear hW h hl hr h5 h3 f5 f3
  go_enter Tryz.func122, Tryz.ntmps122
  go_wp2_with (first | (go_at_call 92; (with_reducible refine (sees_calls 1 _ HR0.out HS1.out).mono ?_); rintro e w1 ⟨rfl, hb⟩; have HM1 := Aside0.mk (HM0.out.trans (Mv.of_below hb HR0.out.base)); have HR1 := Aside0.mk (HR0.out.below hb); have HW1 := Aside0.mk (HW.out.mv HM1.out); clear hb) | (go_at_call 92; (with_reducible refine (sees_calls 2 _ HR1.out HS2.out).mono ?_); rintro e w2 ⟨rfl, hb⟩; have HM2 := Aside0.mk (HM1.out.trans (Mv.of_below hb HR1.out.base)); have HR2 := Aside0.mk (HR1.out.below hb); have HW2 := Aside0.mk (HW.out.mv HM2.out); clear hb) | (go_at_call 92; (with_reducible refine (sees_calls 4 _ HR2.out HS4.out).mono ?_); rintro e w3 ⟨rfl, hb⟩; have HM3 := Aside0.mk (HM2.out.trans (Mv.of_below hb HR2.out.base)); have HR3 := Aside0.mk (HR2.out.below hb); have HW3 := Aside0.mk (HW.out.mv HM3.out); clear hb) | (go_at_call 61; (with_reducible refine (take_calls 17 HR3.out HW3.out none HT17.out).mono ?_); rintro e w4 ⟨v4, hm_, T, pv, rfl⟩; have HM4 := Aside0.mk (HM3.out.trans hm_); clear hm_))
  exact ⟨rfl, _, HM4.out, T, pv, rfl⟩
 | cons a l =>
  simp only [List.length_cons] at hl
  have hr : (if a.f0 = 1 ∨ a.f0 = 2 then some (some (l, o ++ [a])) else if a.f0 = 4 then bnd (R 5 (l, o)) (putF 19) else if a.f0 = 17 then bnd (R 3 (l, o)) (takeF 18) else some none) = some res := hr
  by_cases k1 : a.f0 = 1 ∨ a.f0 = 2
  ·rw [if_pos k1] at hr
   obtain rfl := Option.some.inj hr
   exact factor_operand k1 hW h (by omega)
  ·rw [if_neg k1] at hr
   have HS1 := Aside0.mk (show seesF 1 (a :: l, o) = false by simp [seesF]; omega)
   have HS2 := Aside0.mk (show seesF 2 (a :: l, o) = false by simp [seesF]; omega)
   have HL := Aside0.mk (show o.length + l.length ≤ 100000 by omega)
   clear k1
   by_cases k4 : a.f0 = 4
   ·rw [if_pos k4] at hr
    have HS4 := Aside0.mk (show seesF 4 (a :: l, o) = true by simp [seesF, k4])
    have HT4 := Aside0.mk (show takeF 4 (a :: l, o) = some (some (l, o)) by simp [takeF, seesF, k4])
    clear k4
    cases ht : R 5 (l, o) with
    | none => rw [ht] at hr; cases hr
    | some r1 =>
     have HT := Aside0.mk ht
     rw [ht] at hr
     cases r1 with
     | none =>
      obtain rfl := Option.some.inj (show some none = some res from hr)
      clear hW h hl hr h5 h3 f5 f3 ht
      go_enter Tryz.func122, Tryz.ntmps122
      go_wp2_with (first | (go_at_call 92; (with_reducible refine (sees_calls 1 _ HR0.out HS1.out).mono ?_); rintro e w1 ⟨rfl, hb⟩; have HM1 := Aside0.mk (HM0.out.trans (Mv.of_below hb HR0.out.base)); have HR1 := Aside0.mk (HR0.out.below hb); have HW1 := Aside0.mk (HW.out.mv HM1.out); clear hb) | (go_at_call 92; (with_reducible refine (sees_calls 2 _ HR1.out HS2.out).mono ?_); rintro e w2 ⟨rfl, hb⟩; have HM2 := Aside0.mk (HM1.out.trans (Mv.of_below hb HR1.out.base)); have HR2 := Aside0.mk (HR1.out.below hb); have HW2 := Aside0.mk (HW.out.mv HM2.out); clear hb) | (go_at_call 92; (with_reducible refine (sees_calls 4 _ HR2.out HS4.out).mono ?_); rintro e w3 ⟨rfl, hb⟩; have HM3 := Aside0.mk (HM2.out.trans (Mv.of_below hb HR2.out.base)); have HR3 := Aside0.mk (HR2.out.below hb); have HW3 := Aside0.mk (HW.out.mv HM3.out); clear hb) | (go_at_call 61; (with_reducible refine (take_calls 4 HR3.out HW3.out (some (l, o)) HT4.out).mono ?_); rintro e w4 ⟨v4, hm_, rfl, hr_⟩; have HM4 := Aside0.mk (HM3.out.trans hm_); have HR4 := Aside0.mk hr_; have HW4 := Aside0.mk (HW.out.mv HM4.out); clear hm_ hr_) | (go_at_call 122; refine (H5.out _ _ _ _ _ _ HW4.out HR4.out HL.out HT.out).mono ?_; rintro e w5 ⟨v5, hm_, T, pv, rfl⟩; have HM5 := Aside0.mk (HM4.out.trans hm_); clear hm_))
      exact ⟨rfl, _, HM5.out, T, pv, rfl⟩
     | some s1 =>
      obtain rfl := Option.some.inj (show some (some (s1.1, s1.2 ++ [(⟨19, 0⟩ : S39)])) = some res from hr)
      have hf := f5 _ _ ht
      have HLp := Aside0.mk (show s1.2.length < 8796093022208 by dsimp only at hf; omega)
      clear hW h hl hr h5 h3 f5 f3 ht hf
      go_enter Tryz.func122, Tryz.ntmps122
      go_wp2_with (first | (go_at_call 92; (with_reducible refine (sees_calls 1 _ HR0.out HS1.out).mono ?_); rintro e w1 ⟨rfl, hb⟩; have HM1 := Aside0.mk (HM0.out.trans (Mv.of_below hb HR0.out.base)); have HR1 := Aside0.mk (HR0.out.below hb); have HW1 := Aside0.mk (HW.out.mv HM1.out); clear hb) | (go_at_call 92; (with_reducible refine (sees_calls 2 _ HR1.out HS2.out).mono ?_); rintro e w2 ⟨rfl, hb⟩; have HM2 := Aside0.mk (HM1.out.trans (Mv.of_below hb HR1.out.base)); have HR2 := Aside0.mk (HR1.out.below hb); have HW2 := Aside0.mk (HW.out.mv HM2.out); clear hb) | (go_at_call 92; (with_reducible refine (sees_calls 4 _ HR2.out HS4.out).mono ?_); rintro e w3 ⟨rfl, hb⟩; have HM3 := Aside0.mk (HM2.out.trans (Mv.of_below hb HR2.out.base)); have HR3 := Aside0.mk (HR2.out.below hb); have HW3 := Aside0.mk (HW.out.mv HM3.out); clear hb) | (go_at_call 61; (with_reducible refine (take_calls 4 HR3.out HW3.out (some (l, o)) HT4.out).mono ?_); rintro e w4 ⟨v4, hm_, rfl, hr_⟩; have HM4 := Aside0.mk (HM3.out.trans hm_); have HR4 := Aside0.mk hr_; have HW4 := Aside0.mk (HW.out.mv HM4.out); clear hm_ hr_) | (go_at_call 122; refine (H5.out _ _ _ _ _ _ HW4.out HR4.out HL.out HT.out).mono ?_; rintro e w5 ⟨v5, hm_, rfl, hr_⟩; have HM5 := Aside0.mk (HM4.out.trans hm_); have HR5 := Aside0.mk hr_; have HW5 := Aside0.mk (HW.out.mv HM5.out); clear hm_ hr_) | (go_at_call 62; (with_reducible refine (put_calls 19 HR5.out HLp.out).mono ?_); rintro e w6 ⟨v6, hm_, rfl, hr_⟩; have HM6 := Aside0.mk (HM5.out.trans hm_); have HR6 := Aside0.mk hr_; have HW6 := Aside0.mk (HW.out.mv HM6.out); clear hm_ hr_))
      go_end0
      exact ⟨_, HM6.out, rfl, HR6.out⟩
   ·rw [if_neg k4] at hr
    have HS4 := Aside0.mk (show seesF 4 (a :: l, o) = false by simp [seesF]; omega)
    clear k4
    by_cases k17 : a.f0 = 17
    ·rw [if_pos k17] at hr
     have HT17 := Aside0.mk (show takeF 17 (a :: l, o) = some (some (l, o)) by simp [takeF, seesF, k17])
     clear k17
     cases ht : R 3 (l, o) with
     | none => rw [ht] at hr; cases hr
     | some r1 =>
      have HT := Aside0.mk ht
      rw [ht] at hr
      cases r1 with
      | none =>
       obtain rfl := Option.some.inj (show some none = some res from hr)
       clear hW h hl hr h5 h3 f5 f3 ht
       go_enter Tryz.func122, Tryz.ntmps122
       go_wp2_with (first | (go_at_call 92; (with_reducible refine (sees_calls 1 _ HR0.out HS1.out).mono ?_); rintro e w1 ⟨rfl, hb⟩; have HM1 := Aside0.mk (HM0.out.trans (Mv.of_below hb HR0.out.base)); have HR1 := Aside0.mk (HR0.out.below hb); have HW1 := Aside0.mk (HW.out.mv HM1.out); clear hb) | (go_at_call 92; (with_reducible refine (sees_calls 2 _ HR1.out HS2.out).mono ?_); rintro e w2 ⟨rfl, hb⟩; have HM2 := Aside0.mk (HM1.out.trans (Mv.of_below hb HR1.out.base)); have HR2 := Aside0.mk (HR1.out.below hb); have HW2 := Aside0.mk (HW.out.mv HM2.out); clear hb) | (go_at_call 92; (with_reducible refine (sees_calls 4 _ HR2.out HS4.out).mono ?_); rintro e w3 ⟨rfl, hb⟩; have HM3 := Aside0.mk (HM2.out.trans (Mv.of_below hb HR2.out.base)); have HR3 := Aside0.mk (HR2.out.below hb); have HW3 := Aside0.mk (HW.out.mv HM3.out); clear hb) | (go_at_call 61; (with_reducible refine (take_calls 17 HR3.out HW3.out (some (l, o)) HT17.out).mono ?_); rintro e w4 ⟨v4, hm_, rfl, hr_⟩; have HM4 := Aside0.mk (HM3.out.trans hm_); have HR4 := Aside0.mk hr_; have HW4 := Aside0.mk (HW.out.mv HM4.out); clear hm_ hr_) | (go_at_call 93; refine (H3.out _ _ _ _ _ _ HW4.out HR4.out HL.out HT.out).mono ?_; rintro e w5 ⟨v5, hm_, T, pv, rfl⟩; have HM5 := Aside0.mk (HM4.out.trans hm_); clear hm_))
       exact ⟨rfl, _, HM5.out, T, pv, rfl⟩
      | some s1 =>
       have hr : takeF 18 s1 = some res := hr
       cases res with
       | none =>
        have HT18 := Aside0.mk hr
        clear hW h hl hr h5 h3 f5 f3 ht
        go_enter Tryz.func122, Tryz.ntmps122
        go_wp2_with (first | (go_at_call 92; (with_reducible refine (sees_calls 1 _ HR0.out HS1.out).mono ?_); rintro e w1 ⟨rfl, hb⟩; have HM1 := Aside0.mk (HM0.out.trans (Mv.of_below hb HR0.out.base)); have HR1 := Aside0.mk (HR0.out.below hb); have HW1 := Aside0.mk (HW.out.mv HM1.out); clear hb) | (go_at_call 92; (with_reducible refine (sees_calls 2 _ HR1.out HS2.out).mono ?_); rintro e w2 ⟨rfl, hb⟩; have HM2 := Aside0.mk (HM1.out.trans (Mv.of_below hb HR1.out.base)); have HR2 := Aside0.mk (HR1.out.below hb); have HW2 := Aside0.mk (HW.out.mv HM2.out); clear hb) | (go_at_call 92; (with_reducible refine (sees_calls 4 _ HR2.out HS4.out).mono ?_); rintro e w3 ⟨rfl, hb⟩; have HM3 := Aside0.mk (HM2.out.trans (Mv.of_below hb HR2.out.base)); have HR3 := Aside0.mk (HR2.out.below hb); have HW3 := Aside0.mk (HW.out.mv HM3.out); clear hb) | (go_at_call 61; (with_reducible refine (take_calls 17 HR3.out HW3.out (some (l, o)) HT17.out).mono ?_); rintro e w4 ⟨v4, hm_, rfl, hr_⟩; have HM4 := Aside0.mk (HM3.out.trans hm_); have HR4 := Aside0.mk hr_; have HW4 := Aside0.mk (HW.out.mv HM4.out); clear hm_ hr_) | (go_at_call 93; refine (H3.out _ _ _ _ _ _ HW4.out HR4.out HL.out HT.out).mono ?_; rintro e w5 ⟨v5, hm_, rfl, hr_⟩; have HM5 := Aside0.mk (HM4.out.trans hm_); have HR5 := Aside0.mk hr_; have HW5 := Aside0.mk (HW.out.mv HM5.out); clear hm_ hr_) | (go_at_call 61; (with_reducible refine (take_calls 18 HR5.out HW5.out none HT18.out).mono ?_); rintro e w6 ⟨v6, hm_, T, pv, rfl⟩; have HM6 := Aside0.mk (HM5.out.trans hm_); clear hm_))
        exact ⟨rfl, _, HM6.out, T, pv, rfl⟩
       | some s2 =>
        have HT18 := Aside0.mk hr
        clear hW h hl hr h5 h3 f5 f3 ht
        go_enter Tryz.func122, Tryz.ntmps122
        go_wp2_with (first | (go_at_call 92; (with_reducible refine (sees_calls 1 _ HR0.out HS1.out).mono ?_); rintro e w1 ⟨rfl, hb⟩; have HM1 := Aside0.mk (HM0.out.trans (Mv.of_below hb HR0.out.base)); have HR1 := Aside0.mk (HR0.out.below hb); have HW1 := Aside0.mk (HW.out.mv HM1.out); clear hb) | (go_at_call 92; (with_reducible refine (sees_calls 2 _ HR1.out HS2.out).mono ?_); rintro e w2 ⟨rfl, hb⟩; have HM2 := Aside0.mk (HM1.out.trans (Mv.of_below hb HR1.out.base)); have HR2 := Aside0.mk (HR1.out.below hb); have HW2 := Aside0.mk (HW.out.mv HM2.out); clear hb) | (go_at_call 92; (with_reducible refine (sees_calls 4 _ HR2.out HS4.out).mono ?_); rintro e w3 ⟨rfl, hb⟩; have HM3 := Aside0.mk (HM2.out.trans (Mv.of_below hb HR2.out.base)); have HR3 := Aside0.mk (HR2.out.below hb); have HW3 := Aside0.mk (HW.out.mv HM3.out); clear hb) | (go_at_call 61; (with_reducible refine (take_calls 17 HR3.out HW3.out (some (l, o)) HT17.out).mono ?_); rintro e w4 ⟨v4, hm_, rfl, hr_⟩; have HM4 := Aside0.mk (HM3.out.trans hm_); have HR4 := Aside0.mk hr_; have HW4 := Aside0.mk (HW.out.mv HM4.out); clear hm_ hr_) | (go_at_call 93; refine (H3.out _ _ _ _ _ _ HW4.out HR4.out HL.out HT.out).mono ?_; rintro e w5 ⟨v5, hm_, rfl, hr_⟩; have HM5 := Aside0.mk (HM4.out.trans hm_); have HR5 := Aside0.mk hr_; have HW5 := Aside0.mk (HW.out.mv HM5.out); clear hm_ hr_) | (go_at_call 61; (with_reducible refine (take_calls 18 HR5.out HW5.out (some s2) HT18.out).mono ?_); rintro e w6 ⟨v6, hm_, rfl, hr_⟩; have HM6 := Aside0.mk (HM5.out.trans hm_); have HR6 := Aside0.mk hr_; have HW6 := Aside0.mk (HW.out.mv HM6.out); clear hm_ hr_))
        go_end0
        exact ⟨_, HM6.out, rfl, HR6.out⟩
    ·rw [if_neg k17] at hr
     have HT17 := Aside0.mk (show takeF 17 (a :: l, o) = some none by simp [takeF, seesF, k17])
     obtain rfl := Option.some.inj hr
     clear hW h hl hr h5 h3 f5 f3 k17
     go_enter Tryz.func122, Tryz.ntmps122
     go_wp2_with (first | (go_at_call 92; (with_reducible refine (sees_calls 1 _ HR0.out HS1.out).mono ?_); rintro e w1 ⟨rfl, hb⟩; have HM1 := Aside0.mk (HM0.out.trans (Mv.of_below hb HR0.out.base)); have HR1 := Aside0.mk (HR0.out.below hb); have HW1 := Aside0.mk (HW.out.mv HM1.out); clear hb) | (go_at_call 92; (with_reducible refine (sees_calls 2 _ HR1.out HS2.out).mono ?_); rintro e w2 ⟨rfl, hb⟩; have HM2 := Aside0.mk (HM1.out.trans (Mv.of_below hb HR1.out.base)); have HR2 := Aside0.mk (HR1.out.below hb); have HW2 := Aside0.mk (HW.out.mv HM2.out); clear hb) | (go_at_call 92; (with_reducible refine (sees_calls 4 _ HR2.out HS4.out).mono ?_); rintro e w3 ⟨rfl, hb⟩; have HM3 := Aside0.mk (HM2.out.trans (Mv.of_below hb HR2.out.base)); have HR3 := Aside0.mk (HR2.out.below hb); have HW3 := Aside0.mk (HW.out.mv HM3.out); clear hb) | (go_at_call 61; (with_reducible refine (take_calls 17 HR3.out HW3.out none HT17.out).mono ?_); rintro e w4 ⟨v4, hm_, T, pv, rfl⟩; have HM4 := Aside0.mk (HM3.out.trans hm_); clear hm_))
     exact ⟨rfl, _, HM4.out, T, pv, rfl⟩
theorem RS.head {b g : Nat} {v : Value} {w : World} {a : S39} {l o : List S39} (h : RS b g v w (a :: l, o)) : ∃ ad c, w.cell? ⟨g, 0, none⟩ = some (.slice (some ad) (l.length + 1) c) ∧ w.cell? ad = some (.int .i64 a.f0) := by
  obtain ⟨A0, c0, h1, h2, h3, h4, h5⟩ := h
  have hC0 := h3 w (KeepBut.refl _ _ _)
  obtain ⟨ad, rfl, e0, e1⟩ := at_T39 hC0 0 (by omega) (by simp)
  exact ⟨ad, c0, bce h1 0, by simpa [Addr.add, rd_T39] using e0⟩
theorem cmpF (x : Int) {r : Bool} (h : decide (6 ≤ x ∧ x ≤ 11) = r) : guard_compares.f x = some r := by
  subst h
  unfold guard_compares.f
  by_cases h : x ≥ 6
  · rw [if_pos h]; congr 1; rw [decide_eq_decide]; omega
  · rw [if_neg h]; congr 1; symm; rw [decide_eq_false_iff_not]; omega
set_option maxRecDepth 100000 in
theorem one_calls {R : Nat → ST → Rz} (h2 : Can R 2) (h0 : Can R 0) (h3 : Can R 3) (f2 : Fine R 2) (f0 : Fine R 0) (f3 : Fine R 3) {b g : Nat} {v : Value} {w : World} {st : ST} (k : Nat) (res : Option ST) (hW : Wr b w) (h : RS b g v w st) (hl : st.2.length + st.1.length ≤ 100000) (hr : stepF R k 2 st = some res) :
    Calls Tryz.prog 63 #[.pointer (some ⟨g, 0, none⟩)] w (Post b g v w res) := by
  have HW := Aside0.mk hW
  have HR0 := Aside0.mk h
  have HM0 := Aside0.mk (Mv.refl (b := b) (g := g) (v := v) (w := w))
  have HW0 := HW
  have H2 := Aside0.mk h2
  have H0 := Aside0.mk h0
  have H3 := Aside0.mk h3
  have hr : (if seesF 14 st = true then bnd (R 2 (st.1.tail, st.2)) (putF 14)
      else if seesF 15 st = true then bnd (R 0 (st.1.tail, st.2)) (takeF 16)
      else bnd (R 3 st) fun s => match s.1 with
        | [] => some none
        | a :: r => if decide (6 ≤ a.f0 ∧ a.f0 ≤ 11) = true then bnd (R 3 (r, s.2)) (putF a.f0) else some none) = some res := hr
  cases k14 : seesF 14 st
  · rw [if_neg (by rw [k14]; decide)] at hr
    have HS14 := Aside0.mk k14
    cases k15 : seesF 15 st
    · rw [if_neg (by rw [k15]; decide)] at hr
      have HS15 := Aside0.mk k15
      have HL := Aside0.mk hl
      cases ht : R 3 st with
      | none => rw [ht] at hr; cases hr
      | some r1 =>
        have HT := Aside0.mk ht
        rw [ht] at hr
        cases r1 with
        | none =>
          obtain rfl := Option.some.inj (show some none = some res from hr)
          clear hW h hl hr h2 h0 h3 f2 f0 f3 ht k14 k15
          go_enter Tryz.func63, Tryz.ntmps63
          go_wp2_with (first | (go_at_call 92; (with_reducible refine (sees_calls 14 _ HR0.out HS14.out).mono ?_); rintro e w1 ⟨rfl, hb⟩; have HM1 := Aside0.mk (HM0.out.trans (Mv.of_below hb HR0.out.base)); have HR1 := Aside0.mk (HR0.out.below hb); have HW1 := Aside0.mk (HW.out.mv HM1.out); clear hb) | (go_at_call 92; (with_reducible refine (sees_calls 15 _ HR1.out HS15.out).mono ?_); rintro e w2 ⟨rfl, hb⟩; have HM2 := Aside0.mk (HM1.out.trans (Mv.of_below hb HR1.out.base)); have HR2 := Aside0.mk (HR1.out.below hb); have HW2 := Aside0.mk (HW.out.mv HM2.out); clear hb) | (go_at_call 93; refine (H3.out _ _ _ _ _ _ HW2.out HR2.out HL.out HT.out).mono ?_; rintro e w3 ⟨v3, hm_, T, pv, rfl⟩; have HM3 := Aside0.mk (HM2.out.trans hm_); clear hm_))
          exact ⟨rfl, _, HM3.out, T, pv, rfl⟩
        | some s1 =>
          obtain ⟨l1, o1⟩ := s1
          have hf := f3 _ _ ht
          dsimp only at hf
          cases l1 with
          | nil =>
            obtain rfl := Option.some.inj (show some none = some res from hr)
            clear hW h hl hr h2 h0 h3 f2 f0 f3 ht k14 k15 hf
            go_enter Tryz.func63, Tryz.ntmps63
            go_wp2_with (first | (go_at_call 92; (with_reducible refine (sees_calls 14 _ HR0.out HS14.out).mono ?_); rintro e w1 ⟨rfl, hb⟩; have HM1 := Aside0.mk (HM0.out.trans (Mv.of_below hb HR0.out.base)); have HR1 := Aside0.mk (HR0.out.below hb); have HW1 := Aside0.mk (HW.out.mv HM1.out); clear hb) | (go_at_call 92; (with_reducible refine (sees_calls 15 _ HR1.out HS15.out).mono ?_); rintro e w2 ⟨rfl, hb⟩; have HM2 := Aside0.mk (HM1.out.trans (Mv.of_below hb HR1.out.base)); have HR2 := Aside0.mk (HR1.out.below hb); have HW2 := Aside0.mk (HW.out.mv HM2.out); clear hb) | (go_at_call 93; refine (H3.out _ _ _ _ _ _ HW2.out HR2.out HL.out HT.out).mono ?_; rintro e w3 ⟨v3, hm_, rfl, hr_⟩; have HM3 := Aside0.mk (HM2.out.trans hm_); have HR3 := Aside0.mk hr_; have HW3 := Aside0.mk (HW.out.mv HM3.out); obtain ⟨A3, c3, q1, _, _, _, _⟩ := hr_; have hc3 : w3.cell? ⟨g, 0, none⟩ = some (.slice A3 0 c3) := bce q1 0; obtain ⟨T, pv, hwr, _⟩ := HW3.out; clear hm_ q1))
            exact ⟨rfl, _, HM3.out, T, pv, rfl⟩
          | cons a l1 =>
            simp only [List.length_cons] at hf
            have hr : (if decide (6 ≤ a.f0 ∧ a.f0 ≤ 11) = true then bnd (R 3 (l1, o1)) (putF a.f0) else some none) = some res := hr
            cases kc : decide (6 ≤ a.f0 ∧ a.f0 ≤ 11)
            · rw [if_neg (by rw [kc]; decide)] at hr
              obtain rfl := Option.some.inj hr
              have HCM := Aside0.mk (cmpF a.f0 kc)
              clear hW h hl hr h2 h0 h3 f2 f0 f3 ht k14 k15 hf kc
              go_enter Tryz.func63, Tryz.ntmps63
              go_wp2_with (first | (go_at_call 92; (with_reducible refine (sees_calls 14 _ HR0.out HS14.out).mono ?_); rintro e w1 ⟨rfl, hb⟩; have HM1 := Aside0.mk (HM0.out.trans (Mv.of_below hb HR0.out.base)); have HR1 := Aside0.mk (HR0.out.below hb); have HW1 := Aside0.mk (HW.out.mv HM1.out); clear hb) | (go_at_call 92; (with_reducible refine (sees_calls 15 _ HR1.out HS15.out).mono ?_); rintro e w2 ⟨rfl, hb⟩; have HM2 := Aside0.mk (HM1.out.trans (Mv.of_below hb HR1.out.base)); have HR2 := Aside0.mk (HR1.out.below hb); have HW2 := Aside0.mk (HW.out.mv HM2.out); clear hb) | (go_at_call 93; refine (H3.out _ _ _ _ _ _ HW2.out HR2.out HL.out HT.out).mono ?_; rintro e w3 ⟨v3, hm_, rfl, hr_⟩; have HM3 := Aside0.mk (HM2.out.trans hm_); have HR3 := Aside0.mk hr_; have HW3 := Aside0.mk (HW.out.mv HM3.out); obtain ⟨ad3, c3, hc3, e3⟩ := RS.head hr_; clear hm_ hr_) | (go_at_call 41; refine (guard_compares.calls _ _ _ HCM.out).mono ?_; rintro e w4 ⟨rfl, hd⟩; have hb3 := hd.below; have HR4 := Aside0.mk (HR3.out.below hb3); have HM4 := Aside0.mk (HM3.out.trans (Mv.of_below hb3 HR3.out.base)); have HW4 := Aside0.mk (HW.out.mv HM4.out); obtain ⟨T, pv, hwr, _⟩ := HW4.out; clear hd hb3))
              exact ⟨rfl, _, HM4.out, T, pv, rfl⟩
            · rw [if_pos kc] at hr
              have HCM := Aside0.mk (cmpF a.f0 kc)
              have HL2 := Aside0.mk (show o1.length + l1.length ≤ 100000 by omega)
              have HTK := Aside0.mk (show takeF a.f0 (a :: l1, o1) = some (some (l1, o1)) by simp [takeF, seesF])
              cases ht2 : R 3 (l1, o1) with
              | none => rw [ht2] at hr; cases hr
              | some r2 =>
                have HT2 := Aside0.mk ht2
                rw [ht2] at hr
                cases r2 with
                | none =>
                  obtain rfl := Option.some.inj (show some none = some res from hr)
                  clear hW h hl hr h2 h0 h3 f2 f0 f3 ht k14 k15 hf kc ht2
                  go_enter Tryz.func63, Tryz.ntmps63
                  go_wp2_with (first | (go_at_call 92; (with_reducible refine (sees_calls 14 _ HR0.out HS14.out).mono ?_); rintro e w1 ⟨rfl, hb⟩; have HM1 := Aside0.mk (HM0.out.trans (Mv.of_below hb HR0.out.base)); have HR1 := Aside0.mk (HR0.out.below hb); have HW1 := Aside0.mk (HW.out.mv HM1.out); clear hb) | (go_at_call 92; (with_reducible refine (sees_calls 15 _ HR1.out HS15.out).mono ?_); rintro e w2 ⟨rfl, hb⟩; have HM2 := Aside0.mk (HM1.out.trans (Mv.of_below hb HR1.out.base)); have HR2 := Aside0.mk (HR1.out.below hb); have HW2 := Aside0.mk (HW.out.mv HM2.out); clear hb) | (go_at_call 93; refine (H3.out _ _ _ _ _ _ HW2.out HR2.out HL.out HT.out).mono ?_; rintro e w3 ⟨v3, hm_, rfl, hr_⟩; have HM3 := Aside0.mk (HM2.out.trans hm_); have HR3 := Aside0.mk hr_; have HW3 := Aside0.mk (HW.out.mv HM3.out); obtain ⟨ad3, c3, hc3, e3⟩ := RS.head hr_; clear hm_ hr_) | (go_at_call 41; refine (guard_compares.calls _ _ _ HCM.out).mono ?_; rintro e w4 ⟨rfl, hd⟩; have hb3 := hd.below; have hc4 : w4.cell? ⟨g, 0, none⟩ = some (.slice (some ad3) (l1.length + 1) c3) := (hb3.cell (p := ⟨g, 0, none⟩) HR3.out.lt).trans hc3; have e4 : w4.cell? ad3 = some (.int .i64 a.f0) := (hb3.cell (World.block_lt_of_cell? w3 _ e3)).trans e3; have HR4 := Aside0.mk (HR3.out.below hb3); have HM4 := Aside0.mk (HM3.out.trans (Mv.of_below hb3 HR3.out.base)); have HW4 := Aside0.mk (HW.out.mv HM4.out); clear hd hb3) | (go_at_call 61; (with_reducible refine (take_calls a.f0 HR4.out HW4.out (some (l1, o1)) HTK.out).mono ?_); rintro e w5 ⟨v5, hm_, rfl, hr_⟩; have HM5 := Aside0.mk (HM4.out.trans hm_); have HR5 := Aside0.mk hr_; have HW5 := Aside0.mk (HW.out.mv HM5.out); clear hm_ hr_) | (go_at_call 93; refine (H3.out _ _ _ _ _ _ HW5.out HR5.out HL2.out HT2.out).mono ?_; rintro e w6 ⟨v6, hm_, T, pv, rfl⟩; have HM6 := Aside0.mk (HM5.out.trans hm_); clear hm_))
                  exact ⟨rfl, _, HM6.out, T, pv, rfl⟩
                | some s2 =>
                  obtain rfl := Option.some.inj (show some (some (s2.1, s2.2 ++ [(⟨a.f0, 0⟩ : S39)])) = some res from hr)
                  have hf2 := f3 _ _ ht2
                  have HLp := Aside0.mk (show s2.2.length < 8796093022208 by dsimp only at hf2; omega)
                  clear hW h hl hr h2 h0 h3 f2 f0 f3 ht k14 k15 hf kc ht2 hf2
                  go_enter Tryz.func63, Tryz.ntmps63
                  go_wp2_with (first | (go_at_call 92; (with_reducible refine (sees_calls 14 _ HR0.out HS14.out).mono ?_); rintro e w1 ⟨rfl, hb⟩; have HM1 := Aside0.mk (HM0.out.trans (Mv.of_below hb HR0.out.base)); have HR1 := Aside0.mk (HR0.out.below hb); have HW1 := Aside0.mk (HW.out.mv HM1.out); clear hb) | (go_at_call 92; (with_reducible refine (sees_calls 15 _ HR1.out HS15.out).mono ?_); rintro e w2 ⟨rfl, hb⟩; have HM2 := Aside0.mk (HM1.out.trans (Mv.of_below hb HR1.out.base)); have HR2 := Aside0.mk (HR1.out.below hb); have HW2 := Aside0.mk (HW.out.mv HM2.out); clear hb) | (go_at_call 93; refine (H3.out _ _ _ _ _ _ HW2.out HR2.out HL.out HT.out).mono ?_; rintro e w3 ⟨v3, hm_, rfl, hr_⟩; have HM3 := Aside0.mk (HM2.out.trans hm_); have HR3 := Aside0.mk hr_; have HW3 := Aside0.mk (HW.out.mv HM3.out); obtain ⟨ad3, c3, hc3, e3⟩ := RS.head hr_; clear hm_ hr_) | (go_at_call 41; refine (guard_compares.calls _ _ _ HCM.out).mono ?_; rintro e w4 ⟨rfl, hd⟩; have hb3 := hd.below; have hc4 : w4.cell? ⟨g, 0, none⟩ = some (.slice (some ad3) (l1.length + 1) c3) := (hb3.cell (p := ⟨g, 0, none⟩) HR3.out.lt).trans hc3; have e4 : w4.cell? ad3 = some (.int .i64 a.f0) := (hb3.cell (World.block_lt_of_cell? w3 _ e3)).trans e3; have HR4 := Aside0.mk (HR3.out.below hb3); have HM4 := Aside0.mk (HM3.out.trans (Mv.of_below hb3 HR3.out.base)); have HW4 := Aside0.mk (HW.out.mv HM4.out); clear hd hb3) | (go_at_call 61; (with_reducible refine (take_calls a.f0 HR4.out HW4.out (some (l1, o1)) HTK.out).mono ?_); rintro e w5 ⟨v5, hm_, rfl, hr_⟩; have HM5 := Aside0.mk (HM4.out.trans hm_); have HR5 := Aside0.mk hr_; have HW5 := Aside0.mk (HW.out.mv HM5.out); clear hm_ hr_) | (go_at_call 93; refine (H3.out _ _ _ _ _ _ HW5.out HR5.out HL2.out HT2.out).mono ?_; rintro e w6 ⟨v6, hm_, rfl, hr_⟩; have HM6 := Aside0.mk (HM5.out.trans hm_); have HR6 := Aside0.mk hr_; have HW6 := Aside0.mk (HW.out.mv HM6.out); clear hm_ hr_) | (go_at_call 62; (with_reducible refine (put_calls a.f0 HR6.out HLp.out).mono ?_); rintro e w7 ⟨v7, hm_, rfl, hr_⟩; have HM7 := Aside0.mk (HM6.out.trans hm_); have HR7 := Aside0.mk hr_; have HW7 := Aside0.mk (HW.out.mv HM7.out); clear hm_ hr_))
                  go_end0
                  exact ⟨_, HM7.out, rfl, HR7.out⟩
    · rw [if_pos k15] at hr
      have HS15 := Aside0.mk k15
      obtain ⟨l, o⟩ := st
      cases l with
      | nil => cases k15
      | cons a l =>
        dsimp only [List.tail_cons] at hr
        simp only [List.length_cons] at hl
        have HTK := Aside0.mk (show takeF 15 (a :: l, o) = some (some (l, o)) by unfold takeF; rw [if_pos k15]; rfl)
        have HL := Aside0.mk (show o.length + l.length ≤ 100000 by omega)
        cases ht : R 0 (l, o) with
        | none => rw [ht] at hr; cases hr
        | some r1 =>
          have HT := Aside0.mk ht
          rw [ht] at hr
          cases r1 with
          | none =>
            obtain rfl := Option.some.inj (show some none = some res from hr)
            clear hW h hl hr h2 h0 h3 f2 f0 f3 ht k14 k15
            go_enter Tryz.func63, Tryz.ntmps63
            go_wp2_with (first | (go_at_call 92; (with_reducible refine (sees_calls 14 _ HR0.out HS14.out).mono ?_); rintro e w1 ⟨rfl, hb⟩; have HM1 := Aside0.mk (HM0.out.trans (Mv.of_below hb HR0.out.base)); have HR1 := Aside0.mk (HR0.out.below hb); have HW1 := Aside0.mk (HW.out.mv HM1.out); clear hb) | (go_at_call 92; (with_reducible refine (sees_calls 15 _ HR1.out HS15.out).mono ?_); rintro e w2 ⟨rfl, hb⟩; have HM2 := Aside0.mk (HM1.out.trans (Mv.of_below hb HR1.out.base)); have HR2 := Aside0.mk (HR1.out.below hb); have HW2 := Aside0.mk (HW.out.mv HM2.out); clear hb) | (go_at_call 61; (with_reducible refine (take_calls 15 HR2.out HW2.out (some (l, o)) HTK.out).mono ?_); rintro e w3 ⟨v3, hm_, rfl, hr_⟩; have HM3 := Aside0.mk (HM2.out.trans hm_); have HR3 := Aside0.mk hr_; have HW3 := Aside0.mk (HW.out.mv HM3.out); clear hm_ hr_) | (go_at_call 18; refine (H0.out _ _ _ _ _ _ HW3.out HR3.out HL.out HT.out).mono ?_; rintro e w4 ⟨v4, hm_, T, pv, rfl⟩; have HM4 := Aside0.mk (HM3.out.trans hm_); clear hm_))
            exact ⟨rfl, _, HM4.out, T, pv, rfl⟩
          | some s1 =>
            have hr : takeF 16 s1 = some res := hr
            cases res with
            | none =>
              have HT16 := Aside0.mk hr
              clear hW h hl hr h2 h0 h3 f2 f0 f3 ht k14 k15
              go_enter Tryz.func63, Tryz.ntmps63
              go_wp2_with (first | (go_at_call 92; (with_reducible refine (sees_calls 14 _ HR0.out HS14.out).mono ?_); rintro e w1 ⟨rfl, hb⟩; have HM1 := Aside0.mk (HM0.out.trans (Mv.of_below hb HR0.out.base)); have HR1 := Aside0.mk (HR0.out.below hb); have HW1 := Aside0.mk (HW.out.mv HM1.out); clear hb) | (go_at_call 92; (with_reducible refine (sees_calls 15 _ HR1.out HS15.out).mono ?_); rintro e w2 ⟨rfl, hb⟩; have HM2 := Aside0.mk (HM1.out.trans (Mv.of_below hb HR1.out.base)); have HR2 := Aside0.mk (HR1.out.below hb); have HW2 := Aside0.mk (HW.out.mv HM2.out); clear hb) | (go_at_call 61; (with_reducible refine (take_calls 15 HR2.out HW2.out (some (l, o)) HTK.out).mono ?_); rintro e w3 ⟨v3, hm_, rfl, hr_⟩; have HM3 := Aside0.mk (HM2.out.trans hm_); have HR3 := Aside0.mk hr_; have HW3 := Aside0.mk (HW.out.mv HM3.out); clear hm_ hr_) | (go_at_call 18; refine (H0.out _ _ _ _ _ _ HW3.out HR3.out HL.out HT.out).mono ?_; rintro e w4 ⟨v4, hm_, rfl, hr_⟩; have HM4 := Aside0.mk (HM3.out.trans hm_); have HR4 := Aside0.mk hr_; have HW4 := Aside0.mk (HW.out.mv HM4.out); clear hm_ hr_) | (go_at_call 61; (with_reducible refine (take_calls 16 HR4.out HW4.out none HT16.out).mono ?_); rintro e w5 ⟨v5, hm_, T, pv, rfl⟩; have HM5 := Aside0.mk (HM4.out.trans hm_); clear hm_))
              exact ⟨rfl, _, HM5.out, T, pv, rfl⟩
            | some s2 =>
              have HT16 := Aside0.mk hr
              clear hW h hl hr h2 h0 h3 f2 f0 f3 ht k14 k15
              go_enter Tryz.func63, Tryz.ntmps63
              go_wp2_with (first | (go_at_call 92; (with_reducible refine (sees_calls 14 _ HR0.out HS14.out).mono ?_); rintro e w1 ⟨rfl, hb⟩; have HM1 := Aside0.mk (HM0.out.trans (Mv.of_below hb HR0.out.base)); have HR1 := Aside0.mk (HR0.out.below hb); have HW1 := Aside0.mk (HW.out.mv HM1.out); clear hb) | (go_at_call 92; (with_reducible refine (sees_calls 15 _ HR1.out HS15.out).mono ?_); rintro e w2 ⟨rfl, hb⟩; have HM2 := Aside0.mk (HM1.out.trans (Mv.of_below hb HR1.out.base)); have HR2 := Aside0.mk (HR1.out.below hb); have HW2 := Aside0.mk (HW.out.mv HM2.out); clear hb) | (go_at_call 61; (with_reducible refine (take_calls 15 HR2.out HW2.out (some (l, o)) HTK.out).mono ?_); rintro e w3 ⟨v3, hm_, rfl, hr_⟩; have HM3 := Aside0.mk (HM2.out.trans hm_); have HR3 := Aside0.mk hr_; have HW3 := Aside0.mk (HW.out.mv HM3.out); clear hm_ hr_) | (go_at_call 18; refine (H0.out _ _ _ _ _ _ HW3.out HR3.out HL.out HT.out).mono ?_; rintro e w4 ⟨v4, hm_, rfl, hr_⟩; have HM4 := Aside0.mk (HM3.out.trans hm_); have HR4 := Aside0.mk hr_; have HW4 := Aside0.mk (HW.out.mv HM4.out); clear hm_ hr_) | (go_at_call 61; (with_reducible refine (take_calls 16 HR4.out HW4.out (some s2) HT16.out).mono ?_); rintro e w5 ⟨v5, hm_, rfl, hr_⟩; have HM5 := Aside0.mk (HM4.out.trans hm_); have HR5 := Aside0.mk hr_; have HW5 := Aside0.mk (HW.out.mv HM5.out); clear hm_ hr_))
              go_end0
              exact ⟨_, HM5.out, rfl, HR5.out⟩
  · rw [if_pos k14] at hr
    have HS14 := Aside0.mk k14
    obtain ⟨l, o⟩ := st
    cases l with
    | nil => cases k14
    | cons a l =>
      dsimp only [List.tail_cons] at hr
      simp only [List.length_cons] at hl
      have HTK := Aside0.mk (show takeF 14 (a :: l, o) = some (some (l, o)) by unfold takeF; rw [if_pos k14]; rfl)
      have HL := Aside0.mk (show o.length + l.length ≤ 100000 by omega)
      cases ht : R 2 (l, o) with
      | none => rw [ht] at hr; cases hr
      | some r1 =>
        have HT := Aside0.mk ht
        rw [ht] at hr
        cases r1 with
        | none =>
          obtain rfl := Option.some.inj (show some none = some res from hr)
          clear hW h hl hr h2 h0 h3 f2 f0 f3 ht k14
          go_enter Tryz.func63, Tryz.ntmps63
          go_wp2_with (first | (go_at_call 92; (with_reducible refine (sees_calls 14 _ HR0.out HS14.out).mono ?_); rintro e w1 ⟨rfl, hb⟩; have HM1 := Aside0.mk (HM0.out.trans (Mv.of_below hb HR0.out.base)); have HR1 := Aside0.mk (HR0.out.below hb); have HW1 := Aside0.mk (HW.out.mv HM1.out); clear hb) | (go_at_call 61; (with_reducible refine (take_calls 14 HR1.out HW1.out (some (l, o)) HTK.out).mono ?_); rintro e w2 ⟨v2, hm_, rfl, hr_⟩; have HM2 := Aside0.mk (HM1.out.trans hm_); have HR2 := Aside0.mk hr_; have HW2 := Aside0.mk (HW.out.mv HM2.out); clear hm_ hr_) | (go_at_call 63; refine (H2.out _ _ _ _ _ _ HW2.out HR2.out HL.out HT.out).mono ?_; rintro e w3 ⟨v3, hm_, T, pv, rfl⟩; have HM3 := Aside0.mk (HM2.out.trans hm_); clear hm_))
          exact ⟨rfl, _, HM3.out, T, pv, rfl⟩
        | some s1 =>
          obtain rfl := Option.some.inj (show some (some (s1.1, s1.2 ++ [(⟨14, 0⟩ : S39)])) = some res from hr)
          have hf := f2 _ _ ht
          have HLp := Aside0.mk (show s1.2.length < 8796093022208 by dsimp only at hf; omega)
          clear hW h hl hr h2 h0 h3 f2 f0 f3 ht k14 hf
          go_enter Tryz.func63, Tryz.ntmps63
          go_wp2_with (first | (go_at_call 92; (with_reducible refine (sees_calls 14 _ HR0.out HS14.out).mono ?_); rintro e w1 ⟨rfl, hb⟩; have HM1 := Aside0.mk (HM0.out.trans (Mv.of_below hb HR0.out.base)); have HR1 := Aside0.mk (HR0.out.below hb); have HW1 := Aside0.mk (HW.out.mv HM1.out); clear hb) | (go_at_call 61; (with_reducible refine (take_calls 14 HR1.out HW1.out (some (l, o)) HTK.out).mono ?_); rintro e w2 ⟨v2, hm_, rfl, hr_⟩; have HM2 := Aside0.mk (HM1.out.trans hm_); have HR2 := Aside0.mk hr_; have HW2 := Aside0.mk (HW.out.mv HM2.out); clear hm_ hr_) | (go_at_call 63; refine (H2.out _ _ _ _ _ _ HW2.out HR2.out HL.out HT.out).mono ?_; rintro e w3 ⟨v3, hm_, rfl, hr_⟩; have HM3 := Aside0.mk (HM2.out.trans hm_); have HR3 := Aside0.mk hr_; have HW3 := Aside0.mk (HW.out.mv HM3.out); clear hm_ hr_) | (go_at_call 62; (with_reducible refine (put_calls 14 HR3.out HLp.out).mono ?_); rintro e w4 ⟨v4, hm_, rfl, hr_⟩; have HM4 := Aside0.mk (HM3.out.trans hm_); have HR4 := Aside0.mk hr_; have HW4 := Aside0.mk (HW.out.mv HM4.out); clear hm_ hr_))
          go_end0
          exact ⟨_, HM4.out, rfl, HR4.out⟩
theorem PF_fine (k lev : Nat) (hl : lev ≤ 5) : Fine (PF k) lev := by
  intro st s h
  obtain ⟨k', r', h', hw⟩ := Pure.PF_total _ st.1.length lev st rfl hl rfl trivial
  have e1 := Pure.PF_mono (Nat.le_max_left k k') h
  have e2 := Pure.PF_mono (Nat.le_max_right k k') h'
  rw [e1] at e2
  obtain rfl := Option.some.inj e2
  exact (hw s rfl).2
theorem PF_calls : ∀ (k lev : Nat), lev ≤ 5 → Can (PF k) lev
  | 0, _, _ => fun b g v w st res _ _ _ h => by cases h
  | k + 1, lev, hl => fun b g v w st res hW h hb hr => by
    have ih := fun lev2 (hl2 : lev2 ≤ 5) => PF_calls k lev2 hl2
    have fi := fun lev2 (hl2 : lev2 ≤ 5) => PF_fine k lev2 hl2
    have hr : stepF (PF k) k lev st = some res := hr
    rcases (by omega : lev = 0 ∨ lev = 1 ∨ lev = 2 ∨ lev = 3 ∨ lev = 4 ∨ lev = 5) with rfl | rfl | rfl | rfl | rfl | rfl
    · exact top_guard (ih 1 (by omega)) (fi 1 (by omega)) k res hW h hb hr
    · exact top_some (ih 2 (by omega)) (fi 2 (by omega)) k res hW h hb hr
    · exact one_calls (ih 2 (by omega)) (ih 0 (by omega)) (ih 3 (by omega)) (fi 2 (by omega)) (fi 0 (by omega)) (fi 3 (by omega)) k res hW h hb hr
    · exact top_sum (ih 4 (by omega)) (fi 4 (by omega)) k res hW h hb hr
    · exact top_product (ih 5 (by omega)) (fi 5 (by omega)) k res hW h hb hr
    · exact factor_calls (ih 5 (by omega)) (ih 3 (by omega)) (fi 5 (by omega)) (fi 3 (by omega)) k res hW h hb hr
end Go.Proofs.YtikbgoppmailjaaGreatDoor.H
/- lex.texts: the array of the signs' texts. -/
namespace Go.Proofs.YtikbgoppmailjaaGreatDoor.H
open Go.HK Go.RowKit
set_option linter.unusedVariables false
def lexT : List ByteArray := [⟨#[]⟩, ⟨#[]⟩, ⟨#[]⟩, ⟨#[43]⟩, ⟨#[45]⟩, ⟨#[42]⟩, ⟨#[60]⟩, ⟨#[60, 61]⟩, ⟨#[62]⟩, ⟨#[62, 61]⟩, ⟨#[61, 61]⟩, ⟨#[33, 61]⟩, ⟨#[38]⟩, ⟨#[124]⟩, ⟨#[33]⟩, ⟨#[40]⟩, ⟨#[41]⟩, ⟨#[91]⟩, ⟨#[93]⟩]
def lexTv : Array Value := (lexT.map Value.string).toArray
def lexT0 : Array Value := Array.replicate 19 (.string ⟨#[]⟩)

theorem idxT (w : World) (k : Nat) (hk : k < 19) : (Instr.index 91 (.agg lexTv) (.int .i64 k)).run Tryz.prog w = .ok (.string (lexT.getD k ⟨#[]⟩)) w := by
  rcases (by omega : k = 0 ∨ k = 1 ∨ k = 2 ∨ k = 3 ∨ k = 4 ∨ k = 5 ∨ k = 6 ∨ k = 7 ∨ k = 8 ∨ k = 9 ∨ k = 10 ∨ k = 11 ∨ k = 12 ∨ k = 13 ∨ k = 14 ∨ k = 15 ∨ k = 16 ∨ k = 17 ∨ k = 18) with rfl | rfl | rfl | rfl | rfl | rfl | rfl | rfl | rfl | rfl | rfl | rfl | rfl | rfl | rfl | rfl | rfl | rfl | rfl
  all_goals kernel_rfl
theorem sizeT : (Tryz.prog.info? 91).map (·.size) = some 19 := by kernel_rfl
theorem underT : Tryz.prog.underlying 91 = some (.array 19 9) := by kernel_rfl
theorem storeT (w : World) : (Instr.storeAt 91 (.pointer (some ⟨w.heap.size, 0, none⟩)) (.agg lexTv)).run Tryz.prog (w.alloc (.cells lexT0 91)) = .ok () (w.alloc (.cells lexTv 91)) :=
  run_storeAt_new w 91 lexT0 lexTv sizeT rfl (by kernel_rfl)
set_option maxRecDepth 100000 in
theorem lex_texts (w : World) :
    Calls Tryz.prog 56 #[] w fun e w' => e = .returned (.agg lexTv) ∧ Below w.heap.size w w' := by
  have hl : (loadVar 91 ⟨w.heap.size, 0, none⟩).run Tryz.prog (w.alloc (.cells lexTv 91)) = .ok (.agg lexTv) (w.alloc (.cells lexTv 91)) := run_loadVar_new w 91 lexTv 19 9 underT sizeT
  go_enter Tryz.func56, Tryz.ntmps56
  go_wp2_with (first
    | (refine Great.wpList_runTo rfl (some 0) rfl (.pointer (some ⟨w.heap.size, 0, none⟩)) (w.alloc (.cells lexT0 91)) (by kernel_rfl) ?_)
    | (refine Great.wpList_runTo rfl (some 1) rfl (.agg lexTv) (w.alloc (.cells lexT0 91)) (by kernel_rfl) ?_)
    | (refine wpList_doTo rfl (w.alloc (.cells lexTv 91)) (exec_store rfl (storeT w)) ?_))
  refine bodyPost_ret (v := .agg lexTv) ?_ rfl ⟨rfl, (Below.refl _ _).alloc (Nat.le_refl _) _⟩
  exact results_cell1 (p := 0) (ty := 91) rfl _ _ _ _ ⟨w.heap.size, 0, none⟩ _ rfl hl
end Go.Proofs.YtikbgoppmailjaaGreatDoor.H
-- Written by hp.py (a program of this session, over the kit's print.py), with hand-made contracts beside it.
namespace Go.Proofs.YtikbgoppmailjaaGreatDoor.H
open Go.RowKit Go.Proofs.YtikbgoppmailjaaGreatDoorW.PrintWords Go.Proofs.YtikbgoppmailjaaGreatDoorW.PrintLast Go.Proofs.YtikbgoppmailjaaGreatDoorW.PrintMore
attribute [local go_sem] max2_int min2_int max_two min_two max_three min_three max_four min_four   -- for this text's walks alone
set_option linter.unusedVariables false
set_option linter.unusedSimpArgs false

-- HANDMADE remontoir/lex.longest
/-! ### lex_longest: function 32 -/
open Go.HK
def lexHas (s t : ByteArray) : Bool := Lib.hasPrefix s.data.toList t.data.toList
def lex_longest.to (s : ByteArray) : Nat → Int × Int
  | 0 => (0, 0)
  | k + 1 => if (lex_longest.to s k).2 < ((lexT.getD k ⟨#[]⟩).size : Int) ∧ lexHas s (lexT.getD k ⟨#[]⟩) = true then ((k : Int), ((lexT.getD k ⟨#[]⟩).size : Int)) else lex_longest.to s k
def lex_longest.f (a0 : ByteArray) : Option (Int × Int) := some (lex_longest.to a0 19)
theorem lex_longest.bound (s : ByteArray) : ∀ k, 0 ≤ (lex_longest.to s k).2 ∧ (lex_longest.to s k).2 ≤ 2
  | 0 => by simp [lex_longest.to]
  | k + 1 => by
    have ih := lex_longest.bound s k
    unfold lex_longest.to
    split
    · have : (lexT.getD k ⟨#[]⟩).size ≤ 2 := by
        by_cases hk : k < 19
        · have : ∀ i : Fin 19, (lexT.getD i.val ⟨#[]⟩).size ≤ 2 := by decide
          exact this ⟨k, hk⟩
        · have : lexT.getD k ⟨#[]⟩ = ⟨#[]⟩ := by rw [List.getD_eq_getElem?_getD, List.getElem?_eq_none (by simp [lexT]; omega)]; rfl
          rw [this]; decide
      constructor
      · show (0 : Int) ≤ ((lexT.getD k ⟨#[]⟩).size : Int); omega
      · show ((lexT.getD k ⟨#[]⟩).size : Int) ≤ 2; omega
    · exact ih
theorem has_calls (s t : ByteArray) (b : Bool) (w : World) (h : lexHas s t = b) :
    Calls Tryz.prog 57 #[.string s, .string t] w fun e w' => e = .returned (.bool b) ∧ w' = w := by
  subst h
  exact Tryz.strings_HasPrefix s t w
set_option maxRecDepth 100000 in
theorem lex_longest.calls (a0 : ByteArray) (r1 r2 : Int) (w : World) (h : lex_longest.f a0 = some (r1, r2)) :
    Calls Tryz.prog 32 #[.string a0] w fun e w' => e = .returned (.tuple #[.int .i64 r1, .int .i64 r2]) ∧ Below w.heap.size w w' := by
  have HR := Lib.hid (Option.some.inj h)
  clear h
  go_enter Tryz.func32, Tryz.ntmps32
  go_wp2_with (first
    | (go_at_call 56; refine (lex_texts _).mono ?_; rintro e w1 ⟨rfl, hb⟩; have HB := Aside0.mk hb; clear hb))
  go_loopg [2, 3, 7] 19 (fun kq v2 v3 v7 wr => ∃ (k : Nat), k ≤ 19 ∧ v7 = .int .i64 k ∧ v2 = .int .i64 (lex_longest.to a0 k).1 ∧ v3 = .int .i64 (lex_longest.to a0 k).2 ∧ Aside0 (kq = 19 - k) ∧ Aside0 (Below w.heap.size w wr))
  case atStart => exact ⟨0, by omega, rfl, rfl, rfl, ⟨rfl⟩, HB⟩
  case round =>
    clear HB
    obtain ⟨k, hk, rfl, rfl, rfl, HQ, HB⟩ := hrel
    have hbd := lex_longest.bound a0 k
    by_cases hlt : k < 19
    · have ht : ∃ t, lexT.getD k ⟨#[]⟩ = t := ⟨_, rfl⟩
      obtain ⟨t, ht⟩ := ht
      have HT := Lib.hid ht
      have hi := idxT wr k hlt
      rw [ht] at hi
      have HI := Lib.hid hi
      clear hi ht
      have hto : lex_longest.to a0 (k + 1) = if (lex_longest.to a0 k).2 < (t.size : Int) ∧ lexHas a0 t = true then ((k : Int), (t.size : Int)) else lex_longest.to a0 k := by rw [← HT.out]; rfl
      have HTO := Lib.hid hto
      clear hto
      generalize lex_longest.to a0 k = p at *
      obtain ⟨p1, p2⟩ := p
      simp only at hbd
      by_cases c1 : p2 < (t.size : Int)
      · cases c2 : lexHas a0 t
        all_goals
          have C2 := Lib.hid c2
          clear c2
          go_wp2_with (first
            | (refine Great.wpList_readTo rfl (some 10) rfl (.string t) (exec_index rfl HI.out) ?_)
            | (go_at_call 57; refine (has_calls _ _ _ _ C2.out).mono ?_; rintro e w2 ⟨rfl, rfl⟩))
          go_roundg (19 - (k + 1))
          case measure => have := HQ.out; omega
          case rel => exact ⟨k + 1, by omega, by go_num, by rw [HTO.out]; simp [c1, C2.out], by rw [HTO.out]; simp [c1, C2.out], ⟨rfl⟩, HB⟩
      · go_wp2_with (first
            | (refine Great.wpList_readTo rfl (some 10) rfl (.string t) (exec_index rfl HI.out) ?_))
        go_roundg (19 - (k + 1))
        case measure => have := HQ.out; omega
        case rel => exact ⟨k + 1, by omega, by go_num, by rw [HTO.out, if_neg (fun h => absurd h.1 (by omega))], by rw [HTO.out, if_neg (fun h => absurd h.1 (by omega))], ⟨rfl⟩, HB⟩
    · obtain rfl : k = 19 := by omega
      have h1 := HR.out
      generalize lex_longest.to a0 19 = p at *
      subst h1
      go_wp2
      go_ret2
      exact ⟨rfl, HB.out⟩


end Go.Proofs.YtikbgoppmailjaaGreatDoor.H
-- Written by hp.py (a program of this session, over the kit's print.py), with hand-made contracts beside it.
namespace Go.Proofs.YtikbgoppmailjaaGreatDoor.H
open Go.RowKit Go.Proofs.YtikbgoppmailjaaGreatDoorW.PrintWords Go.Proofs.YtikbgoppmailjaaGreatDoorW.PrintLast Go.Proofs.YtikbgoppmailjaaGreatDoorW.PrintMore
attribute [local go_sem] max2_int min2_int max_two min_two max_three min_three max_four min_four   -- for this text's walks alone
set_option linter.unusedVariables false
set_option linter.unusedSimpArgs false

-- HANDMADE remontoir/lex.Lex
/-! ### lex_Lex: function 16 -/
open Go.HK
def lexTrim (s : ByteArray) : ByteArray := ⟨(Lib.trimLeftB s.data.toList 32).toArray⟩
def lexDigs : ByteArray := ⟨#[48, 49, 50, 51, 52, 53, 54, 55, 56, 57]⟩
def lexRest (s : ByteArray) : ByteArray := ⟨(Lib.trimLeftS s.data.toList lexDigs.data.toList).toArray⟩
def lexCnt (s : ByteArray) : Nat := s.size - (lexRest s).size
def lexVal (s : ByteArray) : Int := (Lib.atoi (s.extract 0 (min (lexCnt s) 10)).data.toList).getD 0
def lexDig (c : Int) : Bool := decide (48 ≤ c ∧ c ≤ 57)
def lexLow (c : Int) : Bool := decide (97 ≤ c ∧ c ≤ 122)
def lex_Lex.num (g : ByteArray → List S39 → Option (List S39 × Int)) (s : ByteArray) (x : List S39) : Option (List S39 × Int) :=
  if bt s 0 = 48 ∧ 1 < lexCnt s then some ([], 2)
  else if 10 < lexCnt s then some ([], 3)
  else if 2147483647 < lexVal s then some ([], 3)
  else g (s.extract (lexCnt s) s.size) (x ++ [(⟨1, lexVal s⟩ : S39)])
def lex_Lex.l0 : Nat → ByteArray → List S39 → Option (List S39 × Int)
  | 0, _, _ => none
  | k + 1, s, x =>
    if (lexTrim s).size = 0 then some (x, 0)
    else if lexDig (bt (lexTrim s) 0) = true then lex_Lex.num (lex_Lex.l0 k) (lexTrim s) x
    else if lexLow (bt (lexTrim s) 0) = true then lex_Lex.l0 k ((lexTrim s).extract 1 (lexTrim s).size) (x ++ [(⟨2, (bt (lexTrim s) 0 - 97) % 256⟩ : S39)])
    else if (lex_longest.to (lexTrim s) 19).2 = 0 then some ([], 2)
    else lex_Lex.l0 k ((lexTrim s).extract (lex_longest.to (lexTrim s) 19).2.toNat (lexTrim s).size) (x ++ [(⟨(lex_longest.to (lexTrim s) 19).1, 0⟩ : S39)])
def lex_Lex.f (a0 : ByteArray) : Option (List S39 × Int) := if (a0.size : Int) > 60 then some ([], 15) else lex_Lex.l0 (a0.size + 1) a0 []
theorem lexTrim_size (s : ByteArray) : (lexTrim s).size ≤ s.size := by
  have h : (Lib.trimLeftB s.data.toList 32).length ≤ s.data.toList.length := List.Sublist.length_le (List.dropWhile_sublist _)
  exact h
theorem in_calls (a b c : Int) (r : Bool) (w : World) (h : decide (b ≤ a ∧ a ≤ c) = r) :
    Calls Tryz.prog 31 #[.int .i64 a, .int .i64 b, .int .i64 c] w fun e w' => e = .returned (.bool r) ∧ w' = w := by
  subst h
  by_cases h1 : b ≤ a
  · have e1 : decide (b ≤ a ∧ a ≤ c) = decide (a ≤ c) := by simp [h1]
    rw [e1]
    go_enter Tryz.func31, Tryz.ntmps31
    go_wp2
    go_ret
    exact ⟨rfl, rfl⟩
  · have e1 : decide (b ≤ a ∧ a ≤ c) = false := by simp [h1]
    rw [e1]
    go_enter Tryz.func31, Tryz.ntmps31
    go_wp2
    go_ret
    exact ⟨rfl, rfl⟩
theorem trim_calls (s s1 : ByteArray) (w : World) (h : lexTrim s = s1) :
    Calls Tryz.prog 30 #[.string s, .string ⟨#[32]⟩] w fun e w' => e = .returned (.string s1) ∧ w' = w := by
  subst h
  exact Tryz.strings_TrimLeft_one s 32 (by decide) w
theorem rest_calls (s s1 : ByteArray) (w : World) (h : lexRest s = s1) :
    Calls Tryz.prog 30 #[.string s, .string ⟨#[48, 49, 50, 51, 52, 53, 54, 55, 56, 57]⟩] w fun e w' => e = .returned (.string s1) ∧ Below w.heap.size w w' := by
  subst h
  exact Tryz.strings_TrimLeft_set s lexDigs w (by decide) (by
    intro j b hj
    have : ∀ b ∈ lexDigs.data.toList, b.toNat < 128 := by decide
    exact this b (List.mem_of_getElem? hj))
theorem str_empty (s : ByteArray) (h : s.size = 0) : s.toList = [] := by
  rw [ByteArray.toList_eq]
  exact List.eq_nil_of_length_eq_zero (by rw [Array.length_toList]; exact h)
theorem toList_data (s : ByteArray) : s.toList = s.data.toList := ByteArray.toList_eq s
theorem str_some (s : ByteArray) (h : s.size ≠ 0) : s.toList.isEmpty = false ∧ (s.toList = []) = False := by
  have : s.toList ≠ [] := by
    rw [toList_data]
    intro e
    apply h
    show s.data.size = 0
    rw [← Array.length_toList, e]; rfl
  exact ⟨by simpa using this, eq_false this⟩
theorem dig_mem (b : UInt8) : lexDigs.data.toList.contains b = true ↔ 48 ≤ b.toNat ∧ b.toNat ≤ 57 := by
  constructor
  · intro h
    have h' : b ∈ lexDigs.data.toList := by simpa using h
    have : ∀ b ∈ lexDigs.data.toList, 48 ≤ b.toNat ∧ b.toNat ≤ 57 := by decide
    exact this b h'
  · rintro ⟨h1, h2⟩
    have e : b = UInt8.ofNat b.toNat := by simp
    generalize b.toNat = n at *
    subst e
    rcases (by omega : n = 48 ∨ n = 49 ∨ n = 50 ∨ n = 51 ∨ n = 52 ∨ n = 53 ∨ n = 54 ∨ n = 55 ∨ n = 56 ∨ n = 57) with rfl | rfl | rfl | rfl | rfl | rfl | rfl | rfl | rfl | rfl
    all_goals decide
theorem decFrom_some : ∀ (l : List UInt8) (acc : Nat), (∀ b ∈ l, lexDigs.data.toList.contains b = true) → ∃ v, Lib.decFrom acc l = some v
  | [], acc, _ => ⟨acc, rfl⟩
  | b :: r, acc, h => by
    have hb := (dig_mem b).1 (h b (by simp))
    obtain ⟨v, hv⟩ := decFrom_some r (acc * 10 + (b.toNat - 48)) (fun c hc => h c (by simp [hc]))
    exact ⟨v, by simp only [Lib.decFrom, Lib.digitVal, if_pos hb]; exact hv⟩
theorem atoi_some (l : List UInt8) (h0 : l ≠ []) (h : ∀ b ∈ l, lexDigs.data.toList.contains b = true) : ∃ v, Lib.atoi l = some v := by
  obtain ⟨v, hv⟩ := decFrom_some l 0 h
  cases l with
  | nil => exact absurd rfl h0
  | cons b r =>
    have hb := (dig_mem b).1 (h b (by simp))
    have n1 : (b == 45) = false := by rw [beq_eq_false_iff_ne]; rintro rfl; exact absurd hb.1 (by decide)
    have n2 : (b == 43) = false := by rw [beq_eq_false_iff_ne]; rintro rfl; exact absurd hb.1 (by decide)
    exact ⟨(v : Int), by simp [Lib.atoi, n1, n2, Lib.decNat, hv]⟩
theorem data_len (s : ByteArray) : s.data.toList.length = s.size := by rw [Array.length_toList]; rfl
theorem lexRest_size (s : ByteArray) : (lexRest s).size = (s.data.toList.dropWhile (lexDigs.data.toList.contains ·)).length := rfl
theorem cnt_eq (s : ByteArray) : lexCnt s = (s.data.toList.takeWhile (lexDigs.data.toList.contains ·)).length := by
  unfold lexCnt
  rw [lexRest_size]
  have := congrArg List.length (List.takeWhile_append_dropWhile (p := (lexDigs.data.toList.contains ·)) (l := s.data.toList))
  rw [List.length_append, data_len] at this
  omega
theorem rest_le (s : ByteArray) : (lexRest s).size ≤ s.size := by
  rw [lexRest_size, ← data_len s]
  exact List.Sublist.length_le (List.dropWhile_sublist _)
theorem bt_zero (s : ByteArray) (h : 0 < s.size) : ∃ b r, s.data.toList = b :: r ∧ bt s 0 = (b.toNat : Int) := by
  cases e : s.data.toList with
  | nil => have := data_len s; rw [e] at this; simp at this; omega
  | cons b r =>
    refine ⟨b, r, rfl, ?_⟩
    unfold bt
    rw [dif_pos (by simpa using h)]
    have : s.data.toList[0]'(by rw [e]; simp) = b := by simp [e]
    rw [← this]
    rfl
theorem cnt_pos (s : ByteArray) (h : 0 < s.size) (hd : lexDig (bt s 0) = true) : 1 ≤ lexCnt s := by
  obtain ⟨b, r, e, hb⟩ := bt_zero s h
  rw [cnt_eq, e]
  have : lexDigs.data.toList.contains b = true := by
    rw [dig_mem]
    rw [hb] at hd
    unfold lexDig at hd
    have := of_decide_eq_true hd
    omega
  rw [List.takeWhile_cons, if_pos this]
  simp
theorem lexVal_ok (s : ByteArray) (h : 0 < s.size) (hd : lexDig (bt s 0) = true) : Lib.atoi (s.extract 0 (min (lexCnt s) 10)).data.toList = some (lexVal s) := by
  have hc := cnt_pos s h hd
  have hc2 : lexCnt s ≤ s.size := by unfold lexCnt; omega
  have e : (s.extract 0 (min (lexCnt s) 10)).data.toList = s.data.toList.take (min (lexCnt s) 10) := by
    simp [ByteArray.data_extract]
  obtain ⟨v, hv⟩ := atoi_some (s.extract 0 (min (lexCnt s) 10)).data.toList (by
      intro e0
      have h1 := congrArg List.length e0
      rw [e, List.length_take, data_len, List.length_nil] at h1
      omega) (by
      intro b hb
      rw [e] at hb
      have hb2 : b ∈ s.data.toList.takeWhile (lexDigs.data.toList.contains ·) := by
        have h3 := List.takeWhile_append_dropWhile (p := (lexDigs.data.toList.contains ·)) (l := s.data.toList)
        rw [← h3, List.take_append_of_le_length (by rw [← cnt_eq]; omega)] at hb
        exact List.mem_of_mem_take hb
      exact (List.all_eq_true.1 (List.all_takeWhile (p := (lexDigs.data.toList.contains ·)) (l := s.data.toList))) b hb2)
  unfold lexVal
  rw [hv]; rfl
theorem has_le (s t : ByteArray) (h : lexHas s t = true) : t.size ≤ s.size := by
  unfold lexHas Lib.hasPrefix at h
  have := (List.isPrefixOf_iff_prefix.1 h).length_le
  rwa [data_len, data_len] at this
theorem lex_longest.fit (s : ByteArray) : ∀ k, (lex_longest.to s k).2 ≤ s.size
  | 0 => by show (0 : Int) ≤ _; omega
  | k + 1 => by
    have ih := lex_longest.fit s k
    unfold lex_longest.to
    split
    · rename_i h
      have := has_le _ _ h.2
      show ((lexT.getD k ⟨#[]⟩).size : Int) ≤ s.size
      omega
    · exact ih
theorem dig_calls (c : Int) (r : Bool) (w : World) (h : lexDig c = r) :
    Calls Tryz.prog 31 #[.int .i64 c, .int .i64 48, .int .i64 57] w fun e w' => e = .returned (.bool r) ∧ w' = w := in_calls c 48 57 r w h
theorem low_calls (c : Int) (r : Bool) (w : World) (h : lexLow c = r) :
    Calls Tryz.prog 31 #[.int .i64 c, .int .i64 97, .int .i64 122] w fun e w' => e = .returned (.bool r) ∧ w' = w := in_calls c 97 122 r w h
theorem atoi_calls (s : ByteArray) (v : Int) (w : World) (hl : s.size ≤ 10) (h : Lib.atoi s.data.toList = some v) :
    Calls Tryz.prog 33 #[.string s] w fun e w' => e = .returned (.tuple #[.int .i64 v, .nilIface]) ∧ Below w.heap.size w w' :=
  (Tryz.strconv_Atoi s v (by omega) h w).mono fun e w' ⟨he, t, hw⟩ => ⟨he, hw ▸ bytes_below (Below.refl _ _) (Nat.le_refl _) _ _⟩
def lex_Lex.I (w : World) (r1 : List S39) (r2 : Int) (l n : Nat) (a : Act) (w1 : World) : Prop :=
  ∃ (k : Nat) (s : ByteArray) (x : List S39) (v4 u1 u2 u3 u5 u6 u7 u8 u9 u10 u11 u12 u13 u14 u15 u16 u17 u18 u19 u20 u21 u22 u23 u24 u25 u26 u27 u28 u29 u30 u31 u32 u33 u34 u35 u36 u37 u38 u39 u40 u41 u42 u43 u44 u45 u46 u47 u48 u49 u50 u51 u52 u53 u54 u55 u56 u57 u58 u59 u60 u61 u62 u63 u64 u65 u66 u67 u68 u69 u70 u71 u72 u73 u74 u75 u76 u77 u78 u79 u80 u81 u82 u83 u84 u85 u86 : Value), a = { tmps := #[.string s, u1, u2, u3, v4, u5, u6, u7, u8, u9, u10, u11, u12, u13, u14, u15, u16, u17, u18, u19, u20, u21, u22, u23, u24, u25, u26, u27, u28, u29, u30, u31, u32, u33, u34, u35, u36, u37, u38, u39, u40, u41, u42, u43, u44, u45, u46, u47, u48, u49, u50, u51, u52, u53, u54, u55, u56, u57, u58, u59, u60, u61, u62, u63, u64, u65, u66, u67, u68, u69, u70, u71, u72, u73, u74, u75, u76, u77, u78, u79, u80, u81, u82, u83, u84, u85, u86], defers := [] } ∧ x.length + s.size ≤ 60 ∧ Kd.R k39 39 w1 w.heap.size (fun _ => True) v4 x ∧ Below w.heap.size w w1 ∧
      ((l = 0 ∧ n = 2 * k ∧ lex_Lex.l0 k s x = some (r1, r2)) ∨ (l = 1 ∧ n = 2 * k + 1 ∧ 0 < s.size ∧ lexDig (bt s 0) = true ∧ lex_Lex.num (lex_Lex.l0 k) s x = some (r1, r2)))
set_option maxRecDepth 100000 in
set_option maxHeartbeats 4000000 in
theorem lex_Lex.calls (a0 : ByteArray) (r1 : List S39) (r2 : Int) (w : World) (h : lex_Lex.f a0 = some (r1, r2)) :
    Calls Tryz.prog 16 #[.string a0] w fun e w' => ∃ v0_ : Value, e = .returned (.tuple #[v0_, .int .i64 r2]) ∧ Kd.R k39 39 w' w.heap.size (fun _ => True) v0_ r1 ∧ Below w.heap.size w w' := by
  have HB := Aside0.mk (Below.refl w.heap.size w)
  unfold lex_Lex.f at h
  by_cases c2 : (a0.size : Int) > 60
  · rw [if_pos c2] at h
    simp only [Option.some.injEq, Prod.mk.injEq] at h
    obtain ⟨rfl, rfl⟩ := h
    go_enter Tryz.func16, Tryz.ntmps16
    go_wp2
    refine wp_scope_straight ?_
    go_wp2
    rw [Exit.noGoto_ret]
    go_ret2
    exact ⟨_, rfl, Kd.R_nil _ _ _ _ _, HB.out⟩
  · rw [if_neg c2] at h
    have H := Lib.hid h
    clear h
    have c2b : (a0.size : Int) ≤ 60 := by omega
    clear c2
    go_enter Tryz.func16, Tryz.ntmps16
    go_wp2
    refine wp_scope_labels (lex_Lex.I w r1 r2) ?_ ?_
    · intro l n a w1 hI K hK
      unfold lex_Lex.I at hI
      obtain ⟨k, hI⟩ := hI
      obtain ⟨s, hI⟩ := hI
      obtain ⟨x, hI⟩ := hI
      obtain ⟨v4, hI⟩ := hI
      obtain ⟨u1, hI⟩ := hI
      obtain ⟨u2, hI⟩ := hI
      obtain ⟨u3, hI⟩ := hI
      obtain ⟨u5, hI⟩ := hI
      obtain ⟨u6, hI⟩ := hI
      obtain ⟨u7, hI⟩ := hI
      obtain ⟨u8, hI⟩ := hI
      obtain ⟨u9, hI⟩ := hI
      obtain ⟨u10, hI⟩ := hI
      obtain ⟨u11, hI⟩ := hI
      obtain ⟨u12, hI⟩ := hI
      obtain ⟨u13, hI⟩ := hI
      obtain ⟨u14, hI⟩ := hI
      obtain ⟨u15, hI⟩ := hI
      obtain ⟨u16, hI⟩ := hI
      obtain ⟨u17, hI⟩ := hI
      obtain ⟨u18, hI⟩ := hI
      obtain ⟨u19, hI⟩ := hI
      obtain ⟨u20, hI⟩ := hI
      obtain ⟨u21, hI⟩ := hI
      obtain ⟨u22, hI⟩ := hI
      obtain ⟨u23, hI⟩ := hI
      obtain ⟨u24, hI⟩ := hI
      obtain ⟨u25, hI⟩ := hI
      obtain ⟨u26, hI⟩ := hI
      obtain ⟨u27, hI⟩ := hI
      obtain ⟨u28, hI⟩ := hI
      obtain ⟨u29, hI⟩ := hI
      obtain ⟨u30, hI⟩ := hI
      obtain ⟨u31, hI⟩ := hI
      obtain ⟨u32, hI⟩ := hI
      obtain ⟨u33, hI⟩ := hI
      obtain ⟨u34, hI⟩ := hI
      obtain ⟨u35, hI⟩ := hI
      obtain ⟨u36, hI⟩ := hI
      obtain ⟨u37, hI⟩ := hI
      obtain ⟨u38, hI⟩ := hI
      obtain ⟨u39, hI⟩ := hI
      obtain ⟨u40, hI⟩ := hI
      obtain ⟨u41, hI⟩ := hI
      obtain ⟨u42, hI⟩ := hI
      obtain ⟨u43, hI⟩ := hI
      obtain ⟨u44, hI⟩ := hI
      obtain ⟨u45, hI⟩ := hI
      obtain ⟨u46, hI⟩ := hI
      obtain ⟨u47, hI⟩ := hI
      obtain ⟨u48, hI⟩ := hI
      obtain ⟨u49, hI⟩ := hI
      obtain ⟨u50, hI⟩ := hI
      obtain ⟨u51, hI⟩ := hI
      obtain ⟨u52, hI⟩ := hI
      obtain ⟨u53, hI⟩ := hI
      obtain ⟨u54, hI⟩ := hI
      obtain ⟨u55, hI⟩ := hI
      obtain ⟨u56, hI⟩ := hI
      obtain ⟨u57, hI⟩ := hI
      obtain ⟨u58, hI⟩ := hI
      obtain ⟨u59, hI⟩ := hI
      obtain ⟨u60, hI⟩ := hI
      obtain ⟨u61, hI⟩ := hI
      obtain ⟨u62, hI⟩ := hI
      obtain ⟨u63, hI⟩ := hI
      obtain ⟨u64, hI⟩ := hI
      obtain ⟨u65, hI⟩ := hI
      obtain ⟨u66, hI⟩ := hI
      obtain ⟨u67, hI⟩ := hI
      obtain ⟨u68, hI⟩ := hI
      obtain ⟨u69, hI⟩ := hI
      obtain ⟨u70, hI⟩ := hI
      obtain ⟨u71, hI⟩ := hI
      obtain ⟨u72, hI⟩ := hI
      obtain ⟨u73, hI⟩ := hI
      obtain ⟨u74, hI⟩ := hI
      obtain ⟨u75, hI⟩ := hI
      obtain ⟨u76, hI⟩ := hI
      obtain ⟨u77, hI⟩ := hI
      obtain ⟨u78, hI⟩ := hI
      obtain ⟨u79, hI⟩ := hI
      obtain ⟨u80, hI⟩ := hI
      obtain ⟨u81, hI⟩ := hI
      obtain ⟨u82, hI⟩ := hI
      obtain ⟨u83, hI⟩ := hI
      obtain ⟨u84, hI⟩ := hI
      obtain ⟨u85, hI⟩ := hI
      obtain ⟨u86, hI⟩ := hI
      obtain ⟨ha, hlen, hO, hB1, HJ⟩ := hI
      subst ha
      have HK := Lib.hid hK
      have HO := Aside0.mk hO
      clear HB c2b H hK hO
      have HB := Aside0.mk hB1
      clear hB1
      rcases HJ with ⟨rfl, rfl, hJ⟩ | ⟨rfl, rfl, hs0, hdg, hJ⟩
      · refine ⟨_, rfl, ?_⟩
        cases k with
        | zero => exact absurd hJ (by simp [lex_Lex.l0])
        | succ k =>
          obtain ⟨s1, hs1⟩ : ∃ s1, lexTrim s = s1 := ⟨_, rfl⟩
          have hsz := lexTrim_size s
          simp only [lex_Lex.l0, hs1] at hJ hsz
          have HS1 := Lib.hid hs1
          clear hs1
          by_cases c1 : s1.size = 0
          · rw [if_pos c1] at hJ
            simp only [Option.some.injEq, Prod.mk.injEq] at hJ
            obtain ⟨rfl, rfl⟩ := hJ
            have e1 := str_empty s1 c1
            clear c1 hsz hlen
            go_wp2_with (first
              | (go_at_call 30; refine (trim_calls _ _ _ HS1.out).mono ?_; rintro e w2 ⟨rfl, rfl⟩))
            refine jumps_ret ?_
            go_ret2
            exact ⟨_, rfl, HO.out, HB.out⟩
          · rw [if_neg c1] at hJ
            have e1 := (str_some s1 c1).1
            have e2 := (str_some s1 c1).2
            have q0 : (0 : Int) < (s1.size : Int) := by omega
            have q1 : 0 < s1.size := by omega
            have hb : ((s1[0]'q1).toNat : Int) = bt s1 0 := bt_at s1 0 q1
            have hbr := bt_range s1 0
            have hbw : wrap64 (bt s1 0) = bt s1 0 := by unfold wrap64; omega
            have HX := Lib.hid hsz
            clear hsz c1
            cases d1 : lexDig (bt s1 0)
            · have D1 := Lib.hid d1
              clear d1
              rw [if_neg (by rw [D1.out]; decide)] at hJ
              cases d2 : lexLow (bt s1 0)
              · have D2 := Lib.hid d2
                clear d2
                rw [if_neg (by rw [D2.out]; decide)] at hJ
                have hfit := lex_longest.fit s1 19
                have hbd := lex_longest.bound s1 19
                have hpp : lex_longest.f s1 = some ((lex_longest.to s1 19).1, (lex_longest.to s1 19).2) := rfl
                generalize lex_longest.to s1 19 = p at *
                obtain ⟨p1, p2⟩ := p
                simp only at hpp hfit hbd hJ
                have HP := Aside0.mk hpp
                clear hpp
                by_cases c3 : p2 = 0
                · rw [if_pos c3] at hJ
                  simp only [Option.some.injEq, Prod.mk.injEq] at hJ
                  obtain ⟨rfl, rfl⟩ := hJ
                  have c3b : (p2 == 0) = true := beq_iff_eq.2 c3
                  clear c3 hfit hbd
                  go_wp2_with (first | (go_at_call 30; refine (trim_calls _ _ _ HS1.out).mono ?_; rintro e w2 ⟨rfl, rfl⟩) | (go_at_call 31; (first | (with_reducible refine (dig_calls _ _ _ D1.out).mono ?_) | (with_reducible refine (low_calls _ _ _ D2.out).mono ?_)); rintro e w2 ⟨rfl, rfl⟩) | (go_at_call 32; refine (lex_longest.calls _ _ _ _ HP.out).mono ?_; rintro e w2 ⟨rfl, hb2⟩; have n0_ := Aside0.mk (HB.out.trans (hb2.mono HB.out.size)); have n1_ := Aside0.mk (Kd.R_below HO.out hb2); clear HB HO hb2; have HB := n0_; have HO := n1_; clear n0_ n1_))
                  refine jumps_ret ?_
                  go_ret2
                  exact ⟨_, rfl, Kd.R_nil _ _ _ _ _, HB.out⟩
                · rw [if_neg c3] at hJ
                  have c3b : (p2 == 0) = false := beq_eq_false_iff_ne.2 c3
                  have c3c : ¬ p2 = 0 := c3
                  clear c3
                  have HJ := Lib.hid hJ
                  clear hJ
                  have hlen' : x.length < 8796093022208 := by omega
                  go_wp2_with (first | (go_at_call 30; refine (trim_calls _ _ _ HS1.out).mono ?_; rintro e w2 ⟨rfl, rfl⟩) | (go_at_call 31; (first | (with_reducible refine (dig_calls _ _ _ D1.out).mono ?_) | (with_reducible refine (low_calls _ _ _ D2.out).mono ?_)); rintro e w2 ⟨rfl, rfl⟩) | (go_at_call 32; refine (lex_longest.calls _ _ _ _ HP.out).mono ?_; rintro e w2 ⟨rfl, hb2⟩; have n0_ := Aside0.mk (HB.out.trans (hb2.mono HB.out.size)); have n1_ := Aside0.mk (Kd.R_below HO.out hb2); clear HB HO hb2; have HB := n0_; have HO := n1_; clear n0_ n1_) | (at_builtin; refine Kd.R_append k39 (w0 := w) w.heap.size rfl (.tmp 44) (.tmp 47) 23 39 (.agg #[(.int .i64 0), (.int .i64 0)]) 16 rfl Tryz.underlying23 info39 rfl (by decide) (by omega) v4 x (⟨p1, 0⟩ : S39) [.int .i64 p1, .int .i64 0] (fun _ => True) (fun _ => False) rfl rfl ?aP (fun _ hk => hk.elim) ?aF ?aO ?aB ?aS ?aL ?_; (case aP => exact k39_mkM _ _ _ (⟨p1, 0⟩ : S39)); (case aB => exact (by repeat (first | (with_reducible first | exact HB.out | apply bal | apply pbN | apply bd1) | exact HB.out))); (case aF => exact (fun _ _ => trivial)); (case aO => exact (by (with_reducible repeat (first | apply Kd.R_alloc | apply Kd.R_drewN | apply Kd.R_drew)); exact HO.out)); (case aS => exact (bsz (by repeat (first | (with_reducible first | exact HB.out | apply bal | apply pbN | apply bd1) | exact HB.out)))); (case aL => omega); intro v41 w11 ho hb hg hat; have n0_ := Aside0.mk hb; have n1_ := Aside0.mk ho; clear HB; clear HO; have HB := n0_; have HO := n1_; clear n0_ n1_; clear ho hb hg hat))
                  refine wp_goto (show K 0 _ _ from HK.out 0 (2 * k) _ _ (by omega) ?_)
                  unfold lex_Lex.I
                  refine ⟨k, s1.extract p2.toNat s1.size, x ++ [(⟨p1, 0⟩ : S39)], v41, ?_⟩
                  repeat apply Exists.intro
                  refine ⟨rfl, ?_, HO.out, HB.out, Or.inl ⟨rfl, rfl, HJ.out⟩⟩
                  have := HX.out
                  rw [List.length_append, ByteArray.size_extract]
                  simp only [List.length_cons, List.length_nil]
                  omega
              · have D2 := Lib.hid d2
                clear d2
                rw [if_pos D2.out] at hJ
                have HJ := Lib.hid hJ
                clear hJ
                have hlen' : x.length < 8796093022208 := by omega
                go_wp2_with (first | (go_at_call 30; refine (trim_calls _ _ _ HS1.out).mono ?_; rintro e w2 ⟨rfl, rfl⟩) | (go_at_call 31; (first | (with_reducible refine (dig_calls _ _ _ D1.out).mono ?_) | (with_reducible refine (low_calls _ _ _ D2.out).mono ?_)); rintro e w2 ⟨rfl, rfl⟩) | (at_builtin; refine Kd.R_append k39 (w0 := w) w.heap.size rfl (.tmp 27) (.tmp 33) 23 39 (.agg #[(.int .i64 0), (.int .i64 0)]) 16 rfl Tryz.underlying23 info39 rfl (by decide) (by omega) v4 x (⟨2, (bt s1 0 - 97) % 256⟩ : S39) [.int .i64 2, .int .i64 ((bt s1 0 - 97) % 256)] (fun _ => True) (fun _ => False) rfl rfl ?aP (fun _ hk => hk.elim) ?aF ?aO ?aB ?aS ?aL ?_; (case aP => exact k39_mkM _ _ _ (⟨2, (bt s1 0 - 97) % 256⟩ : S39)); (case aB => exact (by repeat (first | (with_reducible first | exact HB.out | apply bal | apply pbN | apply bd1) | exact HB.out))); (case aF => exact (fun _ _ => trivial)); (case aO => exact (by (with_reducible repeat (first | apply Kd.R_alloc | apply Kd.R_drewN | apply Kd.R_drew)); exact HO.out)); (case aS => exact (bsz (by repeat (first | (with_reducible first | exact HB.out | apply bal | apply pbN | apply bd1) | exact HB.out)))); (case aL => omega); intro v41 w11 ho hb hg hat; have n0_ := Aside0.mk hb; have n1_ := Aside0.mk ho; clear HB; clear HO; have HB := n0_; have HO := n1_; clear n0_ n1_; clear ho hb hg hat))
                refine wp_goto (show K 0 _ _ from HK.out 0 (2 * k) _ _ (by omega) ?_)
                unfold lex_Lex.I
                refine ⟨k, s1.extract 1 s1.size, x ++ [(⟨2, (bt s1 0 - 97) % 256⟩ : S39)], v41, ?_⟩
                repeat apply Exists.intro
                refine ⟨rfl, ?_, HO.out, HB.out, Or.inl ⟨rfl, rfl, HJ.out⟩⟩
                have := HX.out
                rw [List.length_append, ByteArray.size_extract]
                simp only [List.length_cons, List.length_nil]
                omega
            · have D1 := Lib.hid d1
              clear d1
              rw [if_pos D1.out] at hJ
              have HJ := Lib.hid hJ
              clear hJ
              go_wp2_with (first | (go_at_call 30; refine (trim_calls _ _ _ HS1.out).mono ?_; rintro e w2 ⟨rfl, rfl⟩) | (go_at_call 31; (first | (with_reducible refine (dig_calls _ _ _ D1.out).mono ?_) | (with_reducible refine (low_calls _ _ _ D2.out).mono ?_)); rintro e w2 ⟨rfl, rfl⟩))
              refine wp_goto (show K 1 _ _ from HK.out 1 (2 * k + 1) _ _ (by omega) ?_)
              unfold lex_Lex.I
              refine ⟨k, s1, x, v4, ?_⟩
              repeat apply Exists.intro
              refine ⟨rfl, ?_, HO.out, HB.out, Or.inr ⟨rfl, rfl, q1, D1.out, HJ.out⟩⟩
              have := HX.out
              omega
      · refine ⟨_, rfl, ?_⟩
        obtain ⟨s2, hs2⟩ : ∃ s2, lexRest s = s2 := ⟨_, rfl⟩
        have hcp := cnt_pos s hs0 hdg
        have hv := lexVal_ok s hs0 hdg
        have hrl := rest_le s
        have hcc : ((s.size : Int) - (s2.size : Int)) = (lexCnt s : Int) := by unfold lexCnt; rw [hs2] at hrl ⊢; omega
        have hcs : lexCnt s ≤ s.size := by unfold lexCnt; omega
        rw [hs2] at hrl
        unfold lex_Lex.num at hJ
        generalize lexCnt s = c at *
        generalize lexVal s = v at *
        have HS2 := Lib.hid hs2
        have HX := Lib.hid hdg
        clear hs2 hdg
        have q0 : (0 : Int) < (s.size : Int) := by omega
        have hb : ((s[0]'hs0).toNat : Int) = bt s 0 := bt_at s 0 hs0
        have hcw : wrap64 ((s.size : Int) - (s2.size : Int)) = (c : Int) := by rw [hcc]; unfold wrap64; omega
        by_cases c1 : bt s 0 = 48 ∧ 1 < c
        · rw [if_pos c1] at hJ
          simp only [Option.some.injEq, Prod.mk.injEq] at hJ
          obtain ⟨rfl, rfl⟩ := hJ
          obtain ⟨c1a, c1b⟩ := c1
          have c1a' : (bt s 0 == 48) = true := beq_iff_eq.2 c1a
          clear hv c1a
          go_wp2_with (first | (go_at_call 30; refine (rest_calls _ _ _ HS2.out).mono ?_; rintro e w2 ⟨rfl, hb2⟩; have n0_ := Aside0.mk (HB.out.trans (hb2.mono HB.out.size)); have n1_ := Aside0.mk (Kd.R_below HO.out hb2); clear HB HO hb2; have HB := n0_; have HO := n1_; clear n0_ n1_))
          refine jumps_ret ?_
          go_ret2
          exact ⟨_, rfl, Kd.R_nil _ _ _ _ _, HB.out⟩
        · rw [if_neg c1] at hJ
          have c1' : ((bt s 0 == 48) = false) ∨ ((bt s 0 == 48) = true ∧ c ≤ 1) := by
            by_cases e : bt s 0 = 48
            · exact Or.inr ⟨beq_iff_eq.2 e, by have := fun h => c1 ⟨e, h⟩; omega⟩
            · exact Or.inl (beq_eq_false_iff_ne.2 e)
          clear c1
          by_cases c2 : 10 < c
          · rw [if_pos c2] at hJ
            simp only [Option.some.injEq, Prod.mk.injEq] at hJ
            obtain ⟨rfl, rfl⟩ := hJ
            rw [Nat.min_eq_right (by omega)] at hv
            have HV := Lib.hid hv
            have hs10 : (s.extract 0 10).size ≤ 10 := by rw [ByteArray.size_extract]; omega
            clear hv
            rcases c1' with g | ⟨g, g2⟩
            · go_wp2_with (first | (go_at_call 30; refine (rest_calls _ _ _ HS2.out).mono ?_; rintro e w2 ⟨rfl, hb2⟩; have n0_ := Aside0.mk (HB.out.trans (hb2.mono HB.out.size)); have n1_ := Aside0.mk (Kd.R_below HO.out hb2); clear HB HO hb2; have HB := n0_; have HO := n1_; clear n0_ n1_) | (go_at_call 33; refine (atoi_calls _ _ _ hs10 HV.out).mono ?_; rintro e w2 ⟨rfl, hb2⟩; have n0_ := Aside0.mk (HB.out.trans (hb2.mono HB.out.size)); have n1_ := Aside0.mk (Kd.R_below HO.out hb2); clear HB HO hb2; have HB := n0_; have HO := n1_; clear n0_ n1_))
              refine jumps_ret ?_
              go_ret2
              exact ⟨_, rfl, Kd.R_nil _ _ _ _ _, HB.out⟩
            · exact absurd g2 (by omega)
          · rw [if_neg c2] at hJ
            rw [Nat.min_eq_left (by omega)] at hv
            have HV := Lib.hid hv
            have hs10 : (s.extract 0 c).size ≤ 10 := by rw [ByteArray.size_extract]; omega
            have c2b : c ≤ 10 := by omega
            clear hv c2
            by_cases c3 : 2147483647 < v
            · rw [if_pos c3] at hJ
              simp only [Option.some.injEq, Prod.mk.injEq] at hJ
              obtain ⟨rfl, rfl⟩ := hJ
              rcases c1' with g | ⟨g, g2⟩
              all_goals
                go_wp2_with (first | (go_at_call 30; refine (rest_calls _ _ _ HS2.out).mono ?_; rintro e w2 ⟨rfl, hb2⟩; have n0_ := Aside0.mk (HB.out.trans (hb2.mono HB.out.size)); have n1_ := Aside0.mk (Kd.R_below HO.out hb2); clear HB HO hb2; have HB := n0_; have HO := n1_; clear n0_ n1_) | (go_at_call 33; refine (atoi_calls _ _ _ hs10 HV.out).mono ?_; rintro e w2 ⟨rfl, hb2⟩; have n0_ := Aside0.mk (HB.out.trans (hb2.mono HB.out.size)); have n1_ := Aside0.mk (Kd.R_below HO.out hb2); clear HB HO hb2; have HB := n0_; have HO := n1_; clear n0_ n1_))
                refine jumps_ret ?_
                go_ret2
                exact ⟨_, rfl, Kd.R_nil _ _ _ _ _, HB.out⟩
            · rw [if_neg c3] at hJ
              have HJ := Lib.hid hJ
              clear hJ
              have hlen' : x.length < 8796093022208 := by omega
              rcases c1' with g | ⟨g, g2⟩
              all_goals
                go_wp2_with (first | (go_at_call 30; refine (rest_calls _ _ _ HS2.out).mono ?_; rintro e w2 ⟨rfl, hb2⟩; have n0_ := Aside0.mk (HB.out.trans (hb2.mono HB.out.size)); have n1_ := Aside0.mk (Kd.R_below HO.out hb2); clear HB HO hb2; have HB := n0_; have HO := n1_; clear n0_ n1_) | (go_at_call 33; refine (atoi_calls _ _ _ hs10 HV.out).mono ?_; rintro e w2 ⟨rfl, hb2⟩; have n0_ := Aside0.mk (HB.out.trans (hb2.mono HB.out.size)); have n1_ := Aside0.mk (Kd.R_below HO.out hb2); clear HB HO hb2; have HB := n0_; have HO := n1_; clear n0_ n1_) | (at_builtin; refine Kd.R_append k39 (w0 := w) w.heap.size rfl (.tmp 79) (.tmp 82) 23 39 (.agg #[(.int .i64 0), (.int .i64 0)]) 16 rfl Tryz.underlying23 info39 rfl (by decide) (by omega) v4 x (⟨1, v⟩ : S39) [.int .i64 1, .int .i64 v] (fun _ => True) (fun _ => False) rfl rfl ?aP (fun _ hk => hk.elim) ?aF ?aO ?aB ?aS ?aL ?_; (case aP => exact k39_mkM _ _ _ (⟨1, v⟩ : S39)); (case aB => exact (by repeat (first | (with_reducible first | exact HB.out | apply bal | apply pbN | apply bd1) | exact HB.out))); (case aF => exact (fun _ _ => trivial)); (case aO => exact (by (with_reducible repeat (first | apply Kd.R_alloc | apply Kd.R_drewN | apply Kd.R_drew)); exact HO.out)); (case aS => exact (bsz (by repeat (first | (with_reducible first | exact HB.out | apply bal | apply pbN | apply bd1) | exact HB.out)))); (case aL => omega); intro v41 w11 ho hb hg hat; have n0_ := Aside0.mk hb; have n1_ := Aside0.mk ho; clear HB; clear HO; have HB := n0_; have HO := n1_; clear n0_ n1_; clear ho hb hg hat))
                refine wp_goto (show K 0 _ _ from HK.out 0 (2 * k) _ _ (by omega) ?_)
                unfold lex_Lex.I
                refine ⟨k, s.extract c s.size, x ++ [(⟨1, v⟩ : S39)], v41, ?_⟩
                repeat apply Exists.intro
                refine ⟨rfl, ?_, HO.out, HB.out, Or.inl ⟨rfl, rfl, HJ.out⟩⟩
                rw [List.length_append, ByteArray.size_extract]
                simp only [List.length_cons, List.length_nil]
                omega
    · intro K hK hR
      have HK := Lib.hid hK
      have HR := Lib.hid hR
      have HB' := HB
      clear hK hR
      go_wp2
      go_step3
      go_step
      rename_i K1 hK1
      refine hK1 _ _ (HR.out 0 _ rfl (2 * (a0.size + 1)) _ _ ?_)
      unfold lex_Lex.I
      refine ⟨a0.size + 1, a0, [], .slice none 0 0, ?_⟩
      repeat apply Exists.intro
      refine ⟨rfl, by simp only [List.length_nil]; omega, Kd.R_nil _ _ _ _ _, HB.out, Or.inl ⟨rfl, rfl, H.out⟩⟩


end Go.Proofs.YtikbgoppmailjaaGreatDoor.H
/- lex.Lex on lists of bytes: plain laws. -/
namespace Go.Proofs.YtikbgoppmailjaaGreatDoor.Pure
open Go.RowKit Go.Proofs.YtikbgoppmailjaaGreatDoor.H Go.Proofs.YtikbgoppmailjaaGreatDoorW.PrintWords Go.Proofs.YtikbgoppmailjaaGreatDoorW.PrintLast
set_option linter.unusedVariables false
set_option linter.unusedSimpArgs false

def dg (b : UInt8) : Bool := decide (48 ≤ b.toNat ∧ b.toNat ≤ 57)
def lw (b : UInt8) : Bool := decide (97 ≤ b.toNat ∧ b.toNat ≤ 122)
def valL (l : List UInt8) : Int := (Lib.atoi l).getD 0
def longL (l : List UInt8) : Nat → Int × Int
  | 0 => (0, 0)
  | k + 1 => if (longL l k).2 < ((lexT.getD k ⟨#[]⟩).size : Int) ∧ Lib.hasPrefix l (lexT.getD k ⟨#[]⟩).data.toList = true then ((k : Int), ((lexT.getD k ⟨#[]⟩).size : Int)) else longL l k
def lexAll : Nat → List UInt8 → List S39 → Option (List S39 × Int)
  | 0, _, _ => none
  | k + 1, l, x =>
    match l.dropWhile (· == 32) with
    | [] => some (x, 0)
    | c :: t =>
      if dg c = true then
        if c = 48 ∧ 1 < ((c :: t).takeWhile dg).length then some ([], 2)
        else if 10 < ((c :: t).takeWhile dg).length then some ([], 3)
        else if 2147483647 < valL ((c :: t).takeWhile dg) then some ([], 3)
        else lexAll k ((c :: t).drop ((c :: t).takeWhile dg).length) (x ++ [(⟨1, valL ((c :: t).takeWhile dg)⟩ : S39)])
      else if lw c = true then lexAll k t (x ++ [(⟨2, (c.toNat : Int) - 97⟩ : S39)])
      else if (longL (c :: t) 19).2 = 0 then some ([], 2)
      else lexAll k ((c :: t).drop (longL (c :: t) 19).2.toNat) (x ++ [(⟨(longL (c :: t) 19).1, 0⟩ : S39)])
theorem dg_contains (b : UInt8) : lexDigs.data.toList.contains b = dg b := by
  rw [Bool.eq_iff_iff, dig_mem]; unfold dg; rw [decide_eq_true_iff]
theorem dg_fun : (fun b => lexDigs.data.toList.contains b) = dg := funext dg_contains
theorem long_list (s : ByteArray) : ∀ k, lex_longest.to s k = longL s.data.toList k
  | 0 => rfl
  | k + 1 => by unfold lex_longest.to longL; rw [long_list s k]; rfl
theorem cnt_list (s : ByteArray) : lexCnt s = (s.data.toList.takeWhile dg).length := by
  rw [cnt_eq]; simp only [dg_fun]
theorem take_while_take (p : UInt8 → Bool) : ∀ l : List UInt8, l.take (l.takeWhile p).length = l.takeWhile p
  | [] => rfl
  | a :: l => by
    cases h : p a
    · simp [List.takeWhile_cons, h]
    · simp only [List.takeWhile_cons, h, if_true, List.length_cons, List.take_succ_cons, take_while_take p l]
theorem l0_list : ∀ (k : Nat) (s : ByteArray) (x : List S39), lex_Lex.l0 k s x = lexAll k s.data.toList x
  | 0, s, x => rfl
  | k + 1, s, x => by
    unfold lex_Lex.l0 lexAll
    have ht : (lexTrim s).data.toList = s.data.toList.dropWhile (· == 32) := by simp [lexTrim, Lib.trimLeftB]
    have hsz : (lexTrim s).size = (s.data.toList.dropWhile (· == 32)).length := by rw [← ht, data_len]
    cases hl : s.data.toList.dropWhile (· == 32) with
    | nil => rw [if_pos (by rw [hsz, hl]; rfl)]
    | cons c t =>
      rw [if_neg (by rw [hsz, hl]; simp)]
      obtain ⟨b, r, e, hb⟩ := bt_zero (lexTrim s) (by rw [hsz, hl]; simp)
      rw [ht, hl] at e
      obtain ⟨rfl, rfl⟩ := List.cons.inj e
      have hdg : lexDig (bt (lexTrim s) 0) = dg c := by rw [hb]; unfold lexDig dg; rw [decide_eq_decide]; omega
      have hlw : lexLow (bt (lexTrim s) 0) = lw c := by rw [hb]; unfold lexLow lw; rw [decide_eq_decide]; omega
      have hex : ∀ n, ((lexTrim s).extract n (lexTrim s).size).data.toList = (c :: t).drop n := by
        intro n
        simp only [ByteArray.data_extract, Array.toList_extract]
        rw [hsz, ht, hl]
        simp [List.take_of_length_le]
      have hc : lexCnt (lexTrim s) = ((c :: t).takeWhile dg).length := by rw [cnt_list, ht, hl]
      rw [hdg, hlw, long_list, ht, hl]
      dsimp only
      cases hd : dg c
      · simp only [Bool.false_eq_true, if_false]
        cases hw : lw c
        · simp only [Bool.false_eq_true, if_false]
          split
          · rfl
          · rw [l0_list k, hex]
        · simp only [if_true]
          rw [l0_list k, hex, hb]
          have hlc : 97 ≤ c.toNat ∧ c.toNat ≤ 122 := of_decide_eq_true hw
          have e1 : ((c.toNat : Int) - 97) % 256 = (c.toNat : Int) - 97 := by omega
          rw [e1]; rfl
      · simp only [if_true]
        unfold lex_Lex.num
        rw [hc, hb]
        have h48 : ((c.toNat : Int) = 48) ↔ c = 48 := by
          constructor
          · intro h
            apply UInt8.toNat_inj.1
            show c.toNat = 48
            omega
          · rintro rfl; rfl
        by_cases g1 : c = 48 ∧ 1 < ((c :: t).takeWhile dg).length
        · rw [if_pos g1, if_pos ⟨h48.2 g1.1, g1.2⟩]
        · rw [if_neg g1, if_neg (fun h => g1 ⟨h48.1 h.1, h.2⟩)]
          by_cases g2 : 10 < ((c :: t).takeWhile dg).length
          · rw [if_pos g2, if_pos g2]
          · rw [if_neg g2, if_neg g2]
            have hv : lexVal (lexTrim s) = valL ((c :: t).takeWhile dg) := by
              unfold lexVal valL
              rw [hc, Nat.min_eq_left (by omega)]
              have : ((lexTrim s).extract 0 ((c :: t).takeWhile dg).length).data.toList = (c :: t).takeWhile dg := by
                have hle : ((c :: t).takeWhile dg).length ≤ t.length + 1 := (List.takeWhile_sublist dg).length_le
                refine Eq.trans ?_ (take_while_take dg (c :: t))
                simp
                rw [ht, hl]
              rw [this]
            rw [hv]
            split
            · rfl
            · rw [l0_list k, hex]

theorem longL_pos (l : List UInt8) : ∀ k, 0 ≤ (longL l k).2
  | 0 => by simp [longL]
  | k + 1 => by
    have := longL_pos l k
    unfold longL
    split
    · show (0 : Int) ≤ ((lexT.getD k ⟨#[]⟩).size : Int); omega
    · exact this
/-- With fuel enough. -/
def lexF (l : List UInt8) (x : List S39) : Option (List S39 × Int) := lexAll (l.length + 1) l x
theorem drop_lt (l : List UInt8) (c : UInt8) (t : List UInt8) (n : Nat) (h : l.dropWhile (· == 32) = c :: t) (hn : 0 < n) : ((c :: t).drop n).length < l.length := by
  have h1 : (l.dropWhile (· == 32)).length ≤ l.length := (List.dropWhile_sublist _).length_le
  rw [h] at h1
  rw [List.length_drop]
  simp only [List.length_cons] at *
  omega
theorem tw_pos (c : UInt8) (t : List UInt8) (h : dg c = true) : 0 < ((c :: t).takeWhile dg).length := by
  rw [List.takeWhile_cons, if_pos h]; simp
theorem fuel : ∀ (k : Nat) (l : List UInt8) (x : List S39), l.length < k → lexAll k l x = lexF l x := by
  have main : ∀ (n k1 k2 : Nat) (l : List UInt8) (x : List S39), l.length ≤ n → l.length < k1 → l.length < k2 → lexAll k1 l x = lexAll k2 l x := by
    intro n
    induction n with
    | zero =>
      intro k1 k2 l x h0 h1 h2
      obtain rfl : l = [] := List.eq_nil_of_length_eq_zero (by omega)
      obtain ⟨k1, rfl⟩ : ∃ m, k1 = m + 1 := ⟨k1 - 1, by omega⟩
      obtain ⟨k2, rfl⟩ : ∃ m, k2 = m + 1 := ⟨k2 - 1, by omega⟩
      rfl
    | succ n ih =>
      intro k1 k2 l x h0 h1 h2
      obtain ⟨k1, rfl⟩ : ∃ m, k1 = m + 1 := ⟨k1 - 1, by omega⟩
      obtain ⟨k2, rfl⟩ : ∃ m, k2 = m + 1 := ⟨k2 - 1, by omega⟩
      unfold lexAll
      cases hl : l.dropWhile (· == 32) with
      | nil => rfl
      | cons c t =>
        dsimp only
        have ih' : ∀ m y, 0 < m → lexAll k1 ((c :: t).drop m) y = lexAll k2 ((c :: t).drop m) y := fun m y hm => by
          have := drop_lt l c t m hl hm
          exact ih k1 k2 _ y (by omega) (by omega) (by omega)
        split
        · rename_i hd
          rw [ih' _ _ (tw_pos c t hd)]
        · split
          · exact ih' 1 _ (by omega)
          · split
            · rfl
            · rename_i hz
              have := longL_pos (c :: t) 19
              rw [ih' _ _ (by omega)]
  intro k l x h
  exact main l.length k (l.length + 1) l x (Nat.le_refl _) h (by omega)
/-- One sign, or the end. -/
theorem lexF_eq (l : List UInt8) (x : List S39) : lexF l x =
    match l.dropWhile (· == 32) with
    | [] => some (x, 0)
    | c :: t =>
      if dg c = true then
        if c = 48 ∧ 1 < ((c :: t).takeWhile dg).length then some ([], 2)
        else if 10 < ((c :: t).takeWhile dg).length then some ([], 3)
        else if 2147483647 < valL ((c :: t).takeWhile dg) then some ([], 3)
        else lexF ((c :: t).drop ((c :: t).takeWhile dg).length) (x ++ [(⟨1, valL ((c :: t).takeWhile dg)⟩ : S39)])
      else if lw c = true then lexF t (x ++ [(⟨2, (c.toNat : Int) - 97⟩ : S39)])
      else if (longL (c :: t) 19).2 = 0 then some ([], 2)
      else lexF ((c :: t).drop (longL (c :: t) 19).2.toNat) (x ++ [(⟨(longL (c :: t) 19).1, 0⟩ : S39)]) := by
  conv => lhs; unfold lexF lexAll
  cases hl : l.dropWhile (· == 32) with
  | nil => rfl
  | cons c t =>
    dsimp only
    have ih' : ∀ m y, 0 < m → lexAll l.length ((c :: t).drop m) y = lexF ((c :: t).drop m) y := fun m y hm => fuel _ _ _ (drop_lt l c t m hl hm)
    split
    · rename_i hd
      rw [ih' _ _ (tw_pos c t hd)]
    · split
      · exact ih' 1 _ (by omega)
      · split
        · rfl
        · rename_i hz
          have := longL_pos (c :: t) 19
          rw [ih' _ _ (by omega)]
theorem lex_list (s : ByteArray) : lex_Lex.f s = if s.size > 60 then some ([], 15) else lexF s.data.toList [] := by
  unfold lex_Lex.f
  by_cases h : s.size > 60
  · rw [if_pos h, if_pos (by omega)]
  · rw [if_neg h, if_neg (by omega), l0_list]
    exact fuel _ _ _ (by rw [data_len]; omega)
end Go.Proofs.YtikbgoppmailjaaGreatDoor.Pure
/- Signs of two texts with a byte between that no sign has: plain laws. -/
namespace Go.Proofs.YtikbgoppmailjaaGreatDoor.Pure
open Go.RowKit Go.Proofs.YtikbgoppmailjaaGreatDoor.H Go.Proofs.YtikbgoppmailjaaGreatDoorW.PrintWords Go.Proofs.YtikbgoppmailjaaGreatDoorW.PrintLast
set_option linter.unusedVariables false
set_option linter.unusedSimpArgs false

/-- No digit, and in no sign's text. -/
def Sep (c : UInt8) : Prop := dg c = false ∧ ∀ t ∈ lexT, c ∉ t.data.toList
theorem lexF_blank (r : List UInt8) (x : List S39) : lexF (32 :: r) x = lexF r x := by
  rw [lexF_eq, lexF_eq r x]
  rfl
/-- The signs read before say nothing of what follows. -/
theorem lex_acc : ∀ (n : Nat) (l : List UInt8) (x : List S39), l.length ≤ n →
    (∃ y, lexF l [] = some (y, 0) ∧ lexF l x = some (x ++ y, 0)) ∨ (∃ e, e ≠ 0 ∧ lexF l [] = some ([], e) ∧ lexF l x = some ([], e)) := by
  intro n
  induction n with
  | zero =>
    intro l x h
    obtain rfl : l = [] := List.eq_nil_of_length_eq_zero (by omega)
    exact Or.inl ⟨[], rfl, by rw [List.append_nil]; rfl⟩
  | succ n ih =>
    intro l x h
    have step : ∀ (l' : List UInt8) (v : S39), l'.length ≤ n → (∃ y, lexF l' ([] ++ [v]) = some (y, 0) ∧ lexF l' (x ++ [v]) = some (x ++ y, 0)) ∨ (∃ e, e ≠ 0 ∧ lexF l' ([] ++ [v]) = some ([], e) ∧ lexF l' (x ++ [v]) = some ([], e)) := by
      intro l' v hl'
      rcases ih l' ([] ++ [v]) hl' with ⟨y, h1, h2⟩ | ⟨e, he, h1, h2⟩
      · rcases ih l' (x ++ [v]) hl' with ⟨y', h1', h2'⟩ | ⟨e, he, h1', _⟩
        · rw [h1] at h1'
          obtain ⟨rfl, -⟩ := Prod.mk.inj (Option.some.inj h1')
          exact Or.inl ⟨_, h2, by rw [h2']; simp⟩
        · rw [h1] at h1'
          exact absurd (Prod.mk.inj (Option.some.inj h1')).2.symm he
      · rcases ih l' (x ++ [v]) hl' with ⟨y', h1', h2'⟩ | ⟨e', he', h1', h2'⟩
        · rw [h1] at h1'
          exact absurd (Prod.mk.inj (Option.some.inj h1')).2 he
        · rw [h1] at h1'
          obtain ⟨-, rfl⟩ := Prod.mk.inj (Option.some.inj h1')
          exact Or.inr ⟨e, he, h2, h2'⟩
    rw [lexF_eq l [], lexF_eq l x]
    cases hl : l.dropWhile (· == 32) with
    | nil => exact Or.inl ⟨[], rfl, by rw [List.append_nil]⟩
    | cons a t =>
      dsimp only
      have hlt : ∀ m, 0 < m → ((a :: t).drop m).length ≤ n := fun m hm => by have := drop_lt l a t m hl hm; omega
      split
      · rename_i hdg
        split
        · exact Or.inr ⟨2, by decide, rfl, rfl⟩
        · split
          · exact Or.inr ⟨3, by decide, rfl, rfl⟩
          · split
            · exact Or.inr ⟨3, by decide, rfl, rfl⟩
            · exact step _ _ (hlt _ (tw_pos a t hdg))
      · split
        · exact step t _ (hlt 1 (by omega))
        · split
          · exact Or.inr ⟨2, by decide, rfl, rfl⟩
          · rename_i hz
            have := longL_pos (a :: t) 19
            exact step _ _ (hlt _ (by omega))
end Go.Proofs.YtikbgoppmailjaaGreatDoor.Pure
/- No more signs than bytes. -/
namespace Go.Proofs.YtikbgoppmailjaaGreatDoor.Pure
open Go.RowKit Go.Proofs.YtikbgoppmailjaaGreatDoor.H Go.Proofs.YtikbgoppmailjaaGreatDoorW.PrintWords Go.Proofs.YtikbgoppmailjaaGreatDoorW.PrintLast
set_option linter.unusedVariables false
set_option linter.unusedSimpArgs false
/-- No more signs than bytes. -/
theorem lexF_len : ∀ (n : Nat) (l : List UInt8) (x y : List S39) (e : Int), l.length ≤ n → lexF l x = some (y, e) → y.length ≤ x.length + l.length := by
  intro n
  induction n with
  | zero =>
    intro l x y e h h1
    obtain rfl : l = [] := List.eq_nil_of_length_eq_zero (by omega)
    have h2 : lexF [] x = some (x, 0) := rfl
    rw [h2] at h1
    obtain ⟨rfl, -⟩ := Prod.mk.inj (Option.some.inj h1)
    omega
  | succ n ih =>
    intro l x y e h h1
    rw [lexF_eq] at h1
    have herr : ∀ c : Int, (some ([], c) : Option (List S39 × Int)) = some (y, e) → y.length ≤ x.length + l.length := fun c hc => by
      obtain ⟨rfl, -⟩ := Prod.mk.inj (Option.some.inj hc)
      simp
    cases hl : l.dropWhile (· == 32) with
    | nil =>
      rw [hl] at h1
      obtain ⟨rfl, -⟩ := Prod.mk.inj (Option.some.inj h1)
      omega
    | cons a t =>
      rw [hl] at h1
      dsimp only at h1
      have hlt : ∀ m, 0 < m → ((a :: t).drop m).length < l.length := fun m hm => drop_lt l a t m hl hm
      have go : ∀ m (v : S39), 0 < m → lexF ((a :: t).drop m) (x ++ [v]) = some (y, e) → y.length ≤ x.length + l.length := fun m v hm hh => by
        have h2 := hlt m hm
        have h3 := ih _ _ _ _ (by omega) hh
        rw [List.length_append] at h3
        simp only [List.length_cons, List.length_nil] at h3
        omega
      split at h1
      · rename_i hdg
        split at h1
        · exact herr _ h1
        · split at h1
          · exact herr _ h1
          · split at h1
            · exact herr _ h1
            · exact go _ _ (tw_pos a t hdg) h1
      · split at h1
        · exact go 1 _ (by omega) h1
        · split at h1
          · exact herr _ h1
          · rename_i hz
            have := longL_pos (a :: t) 19
            exact go _ _ (by omega) h1
end Go.Proofs.YtikbgoppmailjaaGreatDoor.Pure
/- Reading signs always ends. -/
namespace Go.Proofs.YtikbgoppmailjaaGreatDoor.Pure
open Go.RowKit Go.Proofs.YtikbgoppmailjaaGreatDoor.H Go.Proofs.YtikbgoppmailjaaGreatDoorW.PrintWords Go.Proofs.YtikbgoppmailjaaGreatDoorW.PrintLast
set_option linter.unusedVariables false
set_option linter.unusedSimpArgs false
end Go.Proofs.YtikbgoppmailjaaGreatDoor.Pure
/- What a row of digits spells; the steps of lex.Lex, one for each way a text begins. -/
namespace Go.Proofs.YtikbgoppmailjaaGreatDoor.Pure
open Go.RowKit Go.Proofs.YtikbgoppmailjaaGreatDoor.H Go.Proofs.YtikbgoppmailjaaGreatDoorW.PrintWords Go.Proofs.YtikbgoppmailjaaGreatDoorW.PrintLast
set_option linter.unusedVariables false
set_option linter.unusedSimpArgs false
def dv (b : UInt8) : Nat := b.toNat - 48
theorem dv_eq (b : UInt8) : dv b = b.toNat - 48 := by unfold dv; exact Eq.refl _
def vfL : List UInt8 → Nat → Nat
  | [] => fun acc => acc
  | b :: r => fun acc => vfL r (acc * 10 + dv b)
def vf (acc : Nat) (l : List UInt8) : Nat := vfL l acc
theorem vf_nil (acc : Nat) : vf acc [] = acc := Eq.refl _
theorem vf_cons (acc : Nat) (b : UInt8) (r : List UInt8) : vf acc (b :: r) = vf (acc * 10 + dv b) r := Eq.refl _
theorem vf_dec : ∀ (l : List UInt8) (acc : Nat), (∀ b ∈ l, dg b = true) → Lib.decFrom acc l = some (vf acc l)
  | [], acc, _ => by rw [vf_nil]; rfl
  | b :: r, acc, h => by
    have hb : 48 ≤ b.toNat ∧ b.toNat ≤ 57 := of_decide_eq_true (h b (by simp))
    rw [vf_cons]
    unfold Lib.decFrom
    have e : Lib.digitVal b = some (dv b) := by unfold Lib.digitVal; rw [if_pos hb, dv_eq]
    rw [e]
    exact vf_dec r _ (fun x hx => h x (by simp [hx]))
theorem vf_ge : ∀ (l : List UInt8) (acc : Nat), acc * 10 ^ l.length ≤ vf acc l
  | [], acc => by rw [vf_nil, List.length_nil, Nat.pow_zero, Nat.mul_one]; exact Nat.le_refl _
  | b :: r, acc => by
    rw [vf_cons]
    refine Nat.le_trans ?_ (vf_ge r (acc * 10 + dv b))
    rw [List.length_cons, Nat.pow_succ, Nat.mul_comm (10 ^ r.length) 10, ← Nat.mul_assoc]
    exact Nat.mul_le_mul_right _ (Nat.le_add_right _ _)
theorem tw_dg : ∀ (l : List UInt8), ∀ b ∈ l.takeWhile dg, dg b = true
  | [], b, h => by cases h
  | a :: l, b, h => by
    rw [List.takeWhile_cons] at h
    cases ha : dg a
    · rw [ha] at h; simp at h
    · rw [ha] at h
      simp only [if_true, List.mem_cons] at h
      rcases h with rfl | h
      · exact ha
      · exact tw_dg l b h
theorem valL_dg (c : UInt8) (t : List UInt8) (h : ∀ b ∈ c :: t, dg b = true) : valL (c :: t) = (vf 0 (c :: t) : Int) := by
  have hc : 48 ≤ c.toNat ∧ c.toNat ≤ 57 := of_decide_eq_true (h c (by simp))
  have e1 : (c == 45) = false := by rw [beq_eq_false_iff_ne]; rintro rfl; exact absurd hc (by decide)
  have e2 : (c == 43) = false := by rw [beq_eq_false_iff_ne]; rintro rfl; exact absurd hc (by decide)
  unfold valL Lib.atoi
  dsimp only
  rw [e1, e2]
  simp only [Bool.false_eq_true, if_false, Lib.decNat, List.isEmpty_cons]
  rw [vf_dec _ _ h]
  rfl
theorem dg_ne (c : UInt8) (h : dg c = true) : (c == 32) = false := by
  rw [beq_eq_false_iff_ne]; rintro rfl; exact absurd h (by decide)
theorem lexF_num (c : UInt8) (t : List UInt8) (x : List S39) (hd : dg c = true) : lexF (c :: t) x =
    if c = 48 ∧ 1 < ((c :: t).takeWhile dg).length then some ([], 2)
    else if 2147483647 < vf 0 ((c :: t).takeWhile dg) then some ([], 3)
    else lexF ((c :: t).drop ((c :: t).takeWhile dg).length) (x ++ [(⟨1, (vf 0 ((c :: t).takeWhile dg) : Int)⟩ : S39)]) := by
  rw [lexF_eq]
  have hdw : (c :: t).dropWhile (· == 32) = c :: t := by rw [List.dropWhile_cons, dg_ne c hd]; rfl
  rw [hdw]
  dsimp only
  rw [if_pos hd]
  have hall := tw_dg (c :: t)
  have htw : (c :: t).takeWhile dg = c :: t.takeWhile dg := by rw [List.takeWhile_cons, if_pos hd]
  rw [htw] at hall ⊢
  rw [valL_dg c _ hall]
  by_cases h1 : c = 48 ∧ 1 < (c :: t.takeWhile dg).length
  · rw [if_pos h1, if_pos h1]
  · rw [if_neg h1, if_neg h1]
    by_cases h2 : 10 < (c :: t.takeWhile dg).length
    · rw [if_pos h2, if_pos]
      have hc : 48 ≤ c.toNat ∧ c.toNat ≤ 57 := of_decide_eq_true hd
      have hc48 : c.toNat ≠ 48 := fun h => h1 ⟨UInt8.toNat_inj.1 h, by omega⟩
      rw [vf_cons]
      have hdv := dv_eq c
      have h3 := vf_ge (t.takeWhile dg) (0 * 10 + dv c)
      rw [List.length_cons] at h2
      have h4 : 10 ^ 10 ≤ 10 ^ (t.takeWhile dg).length := Nat.pow_le_pow_right (by decide) (by omega)
      have h5 : 1 * 10 ^ (t.takeWhile dg).length ≤ (0 * 10 + dv c) * 10 ^ (t.takeWhile dg).length := Nat.mul_le_mul_right _ (by omega)
      have h6 : (10 : Nat) ^ 10 = 10000000000 := by decide
      omega
    · rw [if_neg h2]
      by_cases h3 : 2147483647 < vf 0 (c :: t.takeWhile dg)
      · rw [if_pos h3, if_pos (by omega)]
      · rw [if_neg h3, if_neg (by omega)]
theorem lexF_low (c : UInt8) (t : List UInt8) (x : List S39) (hw : lw c = true) : lexF (c :: t) x = lexF t (x ++ [(⟨2, (c.toNat : Int) - 97⟩ : S39)]) := by
  have hc : 97 ≤ c.toNat ∧ c.toNat ≤ 122 := of_decide_eq_true hw
  have h32 : (c == 32) = false := by rw [beq_eq_false_iff_ne]; rintro rfl; exact absurd hc (by decide)
  have hd : dg c = false := decide_eq_false (by omega)
  rw [lexF_eq, List.dropWhile_cons, h32]
  simp only [Bool.false_eq_true, if_false]
  rw [if_neg (by rw [hd]; decide), if_pos hw]
theorem lexF_sym (c : UInt8) (t : List UInt8) (x : List S39) (h32 : c ≠ 32) (hd : dg c = false) (hw : lw c = false) : lexF (c :: t) x =
    if (longL (c :: t) 19).2 = 0 then some ([], 2) else lexF ((c :: t).drop (longL (c :: t) 19).2.toNat) (x ++ [(⟨(longL (c :: t) 19).1, 0⟩ : S39)]) := by
  have h : (c == 32) = false := by rw [beq_eq_false_iff_ne]; exact h32
  rw [lexF_eq, List.dropWhile_cons, h]
  simp only [Bool.false_eq_true, if_false]
  rw [if_neg (by rw [hd]; decide), if_neg (by rw [hw]; decide)]
theorem lexF_symN (c : UInt8) (t : List UInt8) (x : List S39) (h32 : c ≠ 32) (hd : dg c = false) (hw : lw c = false) (n : Nat) (hn : n = 19) : lexF (c :: t) x =
    if (longL (c :: t) n).2 = 0 then some ([], 2) else lexF ((c :: t).drop (longL (c :: t) n).2.toNat) (x ++ [(⟨(longL (c :: t) n).1, 0⟩ : S39)]) := by
  subst hn
  exact lexF_sym c t x h32 hd hw
theorem lexT_size (k : Nat) : (lexT.getD k ⟨#[]⟩).size ≤ 2 := by
  by_cases hk : k < 19
  · have : ∀ j : Fin 19, (lexT.getD j.val ⟨#[]⟩).size ≤ 2 := by decide
    exact this ⟨k, hk⟩
  · have e : lexT.getD k ⟨#[]⟩ = ⟨#[]⟩ := by rw [List.getD_eq_getElem?_getD, List.getElem?_eq_none (by show 19 ≤ k; omega)]; rfl
    rw [e]; exact Nat.zero_le _
theorem lexT_small (k : Nat) (hk : k < 3) : (lexT.getD k ⟨#[]⟩).size = 0 := by
  rcases (by omega : k = 0 ∨ k = 1 ∨ k = 2) with rfl | rfl | rfl
  all_goals rfl
/-- What the longest sign found so far is. -/
theorem longL_ok (D : List UInt8) : ∀ i, longL D i = (0, 0) ∨ ∃ q : Nat, 3 ≤ q ∧ q < i ∧ longL D i = ((q : Int), ((lexT.getD q ⟨#[]⟩).size : Int)) ∧ 0 < (lexT.getD q ⟨#[]⟩).size ∧ Lib.hasPrefix D (lexT.getD q ⟨#[]⟩).data.toList = true
  | 0 => Or.inl rfl
  | i + 1 => by
    have ih := longL_ok D i
    have hp := longL_pos D i
    unfold longL
    by_cases h : (longL D i).2 < ((lexT.getD i ⟨#[]⟩).size : Int) ∧ Lib.hasPrefix D (lexT.getD i ⟨#[]⟩).data.toList = true
    · rw [if_pos h]
      have h3 : 3 ≤ i := by
        rcases Nat.lt_or_ge i 3 with h3 | h3
        · have := lexT_small i h3
          omega
        · exact h3
      exact Or.inr ⟨i, h3, by omega, rfl, by omega, h.2⟩
    · rw [if_neg h]
      rcases ih with e | ⟨q, q1, q2, e, q3, q4⟩
      · exact Or.inl e
      · exact Or.inr ⟨q, q1, by omega, e, q3, q4⟩
end Go.Proofs.YtikbgoppmailjaaGreatDoor.Pure
/- guard.Parse: lexes, reads, gives up by a panic that its deferred closure takes. -/
namespace Go.Proofs.YtikbgoppmailjaaGreatDoor.H
open Go.RowKit Go.HK Go.Proofs.YtikbgoppmailjaaGreatDoorW.PrintWords Go.Proofs.YtikbgoppmailjaaGreatDoorW.PrintLast Go.Proofs.YtikbgoppmailjaaGreatDoorW.PrintMore
set_option linter.unusedVariables false
set_option linter.unusedSimpArgs false
def guard_Parse.fin (r : Rz) : Option (List S39 × Int) :=
  match r with
  | none => none
  | some none => some ([], 2)
  | some (some (l, o)) => match l with | [] => some (o, 0) | _ :: _ => some ([], 2)
def guard_Parse.f (k : Nat) (a0 : ByteArray) : Option (List S39 × Int) :=
  (lex_Lex.f a0).bind fun x => if x.2 = 0 then guard_Parse.fin (PF k 0 (x.1, [])) else some ([], x.2)
theorem guard_Parse.mono : ∀ a0 k, LeO (guard_Parse.f k a0) (guard_Parse.f (k + 1) a0) := by
  intro a0 k r h
  unfold guard_Parse.f at h ⊢
  cases e : lex_Lex.f a0 with
  | none => rw [e] at h; cases h
  | some x =>
    rw [e] at h
    simp only [Option.bind_some] at h ⊢
    split at h
    · rename_i c
      rw [if_pos c]
      cases e2 : PF k 0 (x.1, []) with
      | none => rw [e2] at h; cases h
      | some q => rw [Pure.PF_mono1 _ _ _ _ e2, ← e2]; exact h
    · rename_i c
      rw [if_neg c]; exact h
theorem catch_panicking (p q : Addr) (x y : Value) (u : TypeId) (pv : Value) (older : List PanicEntry) (w : World) (hp : w.cell? p = some x) (hx : x.oneCell' = true) (hzp : w.frozen? p = false) (hq : (w.setCell p (.slice none 0 0)).cell? q = some y) (hy : y.oneCell' = true) (hzq : (w.setCell p (.slice none 0 0)).frozen? q = false) :
    CallsD Tryz.prog 17 #[.pointer (some p), .pointer (some q)] (.panicking ({ v := .iface u pv, recovered := false } :: older)) w fun e u' w' =>
      e = .returned (.tuple #[]) ∧ u' = .panicking ({ v := .iface u pv, recovered := true } :: older) ∧ w' = (w.setCell p (.slice none 0 0)).setCell q (.int .i64 2) := by
  refine callsD_of_wpS Tryz.func17 rfl fun c₀ cs hu => ?_
  apply wpS_seq
  apply wpS_region
  simp [wpOpsS, go_sem, recoverD, hu, Tryz.ntmps17, Exit.thenS]
  refine wpS_cond (t := true) (by simp [Act.eval, Array.replicate]) ?_
  simp only [if_true]
  apply wpS_region
  simp [wpOpsS, go_sem, hp, hzp, hq, hzq, bodyPostS, results, Tryz.results17]
theorem catch_idle (p q : Addr) (w : World) :
    CallsD Tryz.prog 17 #[.pointer (some p), .pointer (some q)] .returning w fun e u' w' => e = .returned (.tuple #[]) ∧ u' = .returning ∧ w' = w := by
  refine callsD_of_wpS Tryz.func17 rfl fun c₀ cs hu => ?_
  apply wpS_seq
  apply wpS_region
  simp [wpOpsS, go_sem, recoverD, hu, Tryz.ntmps17, Exit.thenS]
  refine wpS_cond (t := false) (by simp [Act.eval, Array.replicate]) ?_
  simp only [Bool.false_eq_true, if_false]
  refine wpS_of_wp (wp_skip ?_)
  cases c₀
  simp_all [bodyPostS, results, Tryz.results17]
def ParsePost (r1 : List S39) (r2 : Int) (w : World) (e : Ending) (w' : World) : Prop :=
  ∃ v0_ : Value, e = .returned (.tuple #[v0_, .int .i64 r2]) ∧ Kd.R k39 39 w' w.heap.size (fun _ => True) v0_ r1 ∧ Below w.heap.size w w'
theorem two_blocks (w : World) (o1 o2 : Obj) : ((w.alloc o1).alloc o2).heap[w.heap.size]? = some o1 ∧ ((w.alloc o1).alloc o2).heap[w.heap.size + 1]? = some o2 := by
  have e : (w.alloc o1).heap.size = w.heap.size + 1 := by simp
  refine ⟨(Below.heap_alloc _ _ _ (by rw [e]; omega)).trans (heap_alloc_last w o1), ?_⟩
  have := heap_alloc_last (w.alloc o1) o2
  rw [e] at this
  exact this
theorem wr_of {w W : World} (hT : Tabs2 w) (hb : Below w.heap.size w W) : Wr w.heap.size W := by
  obtain ⟨T, pv, hc⟩ := hT.wrong
  have hlt : 0 < w.heap.size := World.block_lt_of_cell? w _ hc
  exact ⟨T, pv, (hb.cell (p := ⟨0, 0, none⟩) hlt).trans hc, hlt⟩
/-- The reader as it is laid: and the two results' cells, which no step of the reader turns. -/
theorem parse_start {w w1 : World} {As : Option Addr} {cs base : Nat} {x : List S39} (ho : Kd.R k39 39 w1 base (fun _ => True) (.slice As x.length cs) x)
    (b0 : w1.heap[w.heap.size]? = some (.cells #[.slice none 0 0] 23 (0, 0))) (b1 : w1.heap[w.heap.size + 1]? = some (.cells #[.int .i64 0] 24 (0, 0))) (hlc : x.length ≤ cs) (hbw : Below w.heap.size w w1) :
    let W := (w1.setCell ⟨w.heap.size + 1, 0, none⟩ (.int .i64 0)).alloc (.cells #[.slice As x.length cs, .slice none 0 0] 42)
    Below w.heap.size w W ∧ RS w.heap.size w1.heap.size (.slice none 0 0) W (x, []) ∧
      ∀ W', KeepBut W W' w1.heap.size (Value.slice none 0 0).ownBlock → W'.heap[w.heap.size]? = some (.cells #[.slice none 0 0] 23 (0, 0)) ∧ W'.heap[w.heap.size + 1]? = some (.cells #[.int .i64 0] 24 (0, 0)) := by
  intro W
  have l1 := blk_lt b1
  have hsz : (w1.setCell ⟨w.heap.size + 1, 0, none⟩ (.int .i64 0)).heap.size = w1.heap.size := by simp [World.setCell]
  have b0' := blk_far b0 (p := ⟨w.heap.size + 1, 0, none⟩) (by show w.heap.size ≠ w.heap.size + 1; omega) (.int .i64 0)
  have b1' := blk_set b1 0 (.int .i64 0)
  have ho' := Kd.R_bound (Kd.R_set ho b1 (by decide) 0 (.int .i64 0))
  have hW : W.heap.size = w1.heap.size + 1 := by show (World.alloc _ _).heap.size = _; simp [hsz]
  have hg : W.heap[w1.heap.size]? = some (.cells #[.slice As x.length cs, .slice none 0 0] 42 (0, 0)) := by
    have := heap_alloc_last (w1.setCell ⟨w.heap.size + 1, 0, none⟩ (.int .i64 0)) (.cells #[.slice As x.length cs, .slice none 0 0] 42)
    rw [hsz] at this
    exact this
  have b0W : W.heap[w.heap.size]? = _ := (Below.heap_alloc _ _ _ (by rw [hsz]; omega)).trans b0'
  have b1W : W.heap[w.heap.size + 1]? = _ := (Below.heap_alloc _ _ _ (by rw [hsz]; omega)).trans b1'
  refine ⟨(hbw.setCell (by show w.heap.size ≤ w.heap.size + 1; omega) _).alloc (by rw [hsz]; omega) _, ⟨As, cs, hg, hlc, ?_, Kd.R_nil _ _ _ _ _, by omega⟩, fun W' hk => ⟨(hk.2 _ (by rw [hW]; omega) (by omega) (by simp [Value.ownBlock])).trans b0W, (hk.2 _ (by rw [hW]; omega) (by omega) (by simp [Value.ownBlock])).trans b1W⟩⟩
  exact Kd.C_foot_own (Kd.R_alloc ho' _) (fun k hk => by have := hk.2.2.1; rw [hsz] at this; omega)
set_option maxRecDepth 100000 in
theorem guard_Parse.calls (k : Nat) (a0 : ByteArray) (r1 : List S39) (r2 : Int) (w : World) (hT : Tabs2 w) (h : guard_Parse.f k a0 = some (r1, r2)) :
  Calls Tryz.prog 6 #[.string a0] w fun e w' => ∃ v0_ : Value, e = .returned (.tuple #[v0_, .int .i64 r2]) ∧ Kd.R k39 39 w' w.heap.size (fun _ => True) v0_ r1 ∧ Below w.heap.size w w' := by
 unfold guard_Parse.f at h
 have hmf : ∀ (fn : Fn) (first cap : Array Value) (w : World), (Instr.makeFunc fn first cap).run Tryz.prog w = .ok (.func fn first cap) w := fun _ _ _ _ => rfl
 cases hx : lex_Lex.f a0 with
 | none => rw [hx] at h; cases h
 | some xe =>
  obtain ⟨x, e⟩ := xe
  rw [hx] at h
  simp only [Option.bind_some] at h
  have HX := Aside0.mk hx
  clear hx
  by_cases he : e = 0
  ·subst he
   rw [if_pos rfl] at h
   have hlen : x.length ≤ 60 := by
    rw [Pure.lex_list] at HX
    have hx := HX.out
    split at hx
    ·obtain ⟨rfl, -⟩ := Prod.mk.inj (Option.some.inj hx); simp
    ·have := Pure.lexF_len _ _ _ _ _ (Nat.le_refl _) hx
     rw [data_len] at this
     simp only [List.length_nil] at this
     omega
   have HLX := Aside0.mk (show ((x, []) : ST).2.length + ((x, []) : ST).1.length ≤ 100000 by simp; omega)
   have HWR := Aside0.mk (fun (W : World) (hb : Below w.heap.size w W) => wr_of hT hb)
   cases hp : PF k 0 (x, []) with
   | none => rw [hp] at h; cases h
   | some res =>
    rw [hp] at h
    have HP := Aside0.mk hp
    cases res with
    | none =>
     obtain ⟨rfl, rfl⟩ := Prod.mk.inj (Option.some.inj (show some ([], 2) = some (r1, r2) from h))
     clear h hT hlen hp
     refine Calls.mono (R := ParsePost [] 2 w) ?_ (fun _ _ h => h)
     go_enter_defers Tryz.func6, Tryz.ntmps6
     go_wp2_with (first | (go_at_call 16; refine (lex_Lex.calls a0 x 0 _ HX.out).mono ?_; rintro e1 w1 ⟨v1, rfl, ho, hb⟩; obtain ⟨As, cs, es, hlc, _⟩ := Kd.R_reads ho; subst es; obtain ⟨q0, q1⟩ := two_blocks w (.cells #[.slice none 0 0] 23) (.cells #[.int .i64 0] 24); have b0 := (hb.block w.heap.size (by simp; omega)).trans q0; have b1 := (hb.block (w.heap.size + 1) (by simp)).trans q1; have c0 := bce b0 0; have c1 := bce b1 0; have f0 := bfz b0 0; have f1 := bfz b1 0; have HB0 := Aside0.mk b0; have HB1 := Aside0.mk b1; have HO := Aside0.mk ho; have HB := Aside0.mk hb; have HLC := Aside0.mk hlc; have HS := Aside0.mk (parse_start ho b0 b1 hlc ((((Below.refl _ _).alloc (Nat.le_refl _) _).alloc (by simp) _).trans (hb.mono (by simp; omega)))); clear ho hb q0 q1 b0 b1 hlc) | (go_at_call 18; obtain ⟨hs1, hs2, hs3⟩ := HS.out; refine (PF_calls k 0 (by omega) w.heap.size _ _ _ (x, []) none (HWR.out _ hs1) hs2 HLX.out HP.out).mono ?_; rintro e2 w4 ⟨v4, hm, T, pv, rfl⟩; have HM := Aside0.mk hm; obtain ⟨b0, b1⟩ := hs3 _ hm.2.1; have HB0b := Aside0.mk b0; have HB1b := Aside0.mk b1; have c0 := bce b0 0; have c1 := bce b1 0; have f0 := bfz b0 0; have f1 := bfz b1 0; clear b0 b1; clear hm hs1 hs2 hs3))
     refine leaves_cons (f := 17) (args := #[.pointer (some ⟨w.heap.size, 0, none⟩), .pointer (some ⟨w.heap.size + 1, 0, none⟩)]) (by simp) (by simp [go_sem]) ?_
     have b1' := blk_far HB1b.out (p := ⟨w.heap.size, 0, none⟩) (by show w.heap.size + 1 ≠ w.heap.size; omega) (.slice none 0 0)
     refine (catch_panicking ⟨w.heap.size, 0, none⟩ ⟨w.heap.size + 1, 0, none⟩ (.slice none 0 0) (.int .i64 0) T pv [] _ c0 rfl f0 (bce b1' 0) rfl (bfz b1' 0)).mono ?_
     rintro e u' w'' ⟨rfl, rfl, rfl⟩
     have hb4 := HS.out.1.trans HM.out.1
     have b1'' := blk_set b1' 0 (.int .i64 2)
     have b0'' := blk_far (blk_set HB0b.out 0 (.slice none 0 0)) (p := ⟨w.heap.size + 1, 0, none⟩) (by show w.heap.size ≠ w.heap.size + 1; omega) (.int .i64 2)
     have k0 := bce b0'' 0
     have k1 := bce b1'' 0
     have hend := (hb4.setCell (p := ⟨w.heap.size, 0, none⟩) (Nat.le_refl _) (.slice none 0 0)).setCell (p := ⟨w.heap.size + 1, 0, none⟩) (by show w.heap.size ≤ w.heap.size + 1; omega) (.int .i64 2)
     generalize (w4.setCell ⟨w.heap.size, 0, none⟩ (.slice none 0 0)).setCell ⟨w.heap.size + 1, 0, none⟩ (.int .i64 2) = w5 at *
     clear c0 c1 f0 f1
     show Leaves _ _ _ _ [] .returning w5
     refine ⟨.tuple #[.slice none 0 0, .int .i64 2], ?_, ⟨_, rfl, Kd.R_nil _ _ _ _ _, hend⟩⟩
     simp [results, Tryz.results6, go_sem, k0, k1]
    | some s =>
     obtain ⟨l, o⟩ := s
     cases l with
     | nil =>
      obtain ⟨rfl, rfl⟩ := Prod.mk.inj (Option.some.inj (show some (o, 0) = some (r1, r2) from h))
      clear h hT hlen hp
      refine Calls.mono (R := ParsePost o 0 w) ?_ (fun _ _ h => h)
      go_enter_defers Tryz.func6, Tryz.ntmps6
      go_wp2_with (first | (go_at_call 16; refine (lex_Lex.calls a0 x 0 _ HX.out).mono ?_; rintro e1 w1 ⟨v1, rfl, ho, hb⟩; obtain ⟨As, cs, es, hlc, _⟩ := Kd.R_reads ho; subst es; obtain ⟨q0, q1⟩ := two_blocks w (.cells #[.slice none 0 0] 23) (.cells #[.int .i64 0] 24); have b0 := (hb.block w.heap.size (by simp; omega)).trans q0; have b1 := (hb.block (w.heap.size + 1) (by simp)).trans q1; have c0 := bce b0 0; have c1 := bce b1 0; have f0 := bfz b0 0; have f1 := bfz b1 0; have HB0 := Aside0.mk b0; have HB1 := Aside0.mk b1; have HO := Aside0.mk ho; have HB := Aside0.mk hb; have HLC := Aside0.mk hlc; have HS := Aside0.mk (parse_start ho b0 b1 hlc ((((Below.refl _ _).alloc (Nat.le_refl _) _).alloc (by simp) _).trans (hb.mono (by simp; omega)))); clear ho hb q0 q1 b0 b1 hlc) | (go_at_call 18; obtain ⟨hs1, hs2, hs3⟩ := HS.out; refine (PF_calls k 0 (by omega) w.heap.size _ _ _ (x, []) (some ([], o)) (HWR.out _ hs1) hs2 HLX.out HP.out).mono ?_; rintro e2 w4 ⟨v4, hm, rfl, hr4⟩; have HM := Aside0.mk hm; obtain ⟨b0, b1⟩ := hs3 _ hm.2.1; have HB0b := Aside0.mk b0; have HB1b := Aside0.mk b1; have c0 := bce b0 0; have c1 := bce b1 0; have f0 := bfz b0 0; have f1 := bfz b1 0; clear b0 b1; obtain ⟨A4, c4, h41, h42, h43, h44, _⟩ := hr4; have hcr0 : w4.cell? ⟨w1.heap.size, 0, none⟩ = some (.slice A4 0 c4) := bce h41 0; obtain ⟨A5, c5, e5, _, _⟩ := Kd.R_reads h44; subst e5; have hcr1 : w4.cell? ⟨w1.heap.size, 1, none⟩ = some (.slice A5 o.length c5) := bce h41 1; have H41 := Aside0.mk h41; have H44 := Aside0.mk h44; clear h41 h43 h44 hm hs1 hs2 hs3))
      refine leaves_cons (f := 17) (args := #[.pointer (some ⟨w.heap.size, 0, none⟩), .pointer (some ⟨w.heap.size + 1, 0, none⟩)]) (by simp) (by simp [go_sem]) ?_
      refine (catch_idle ⟨w.heap.size, 0, none⟩ ⟨w.heap.size + 1, 0, none⟩ _).mono ?_
      rintro e u' w'' ⟨rfl, rfl, rfl⟩
      have hb4 := HS.out.1.trans HM.out.1
      have b1' := blk_far HB1b.out (p := ⟨w.heap.size, 0, none⟩) (by show w.heap.size + 1 ≠ w.heap.size; omega) (.slice A5 o.length c5)
      have b1'' := blk_set b1' 0 (.int .i64 0)
      have b0'' := blk_far (blk_set HB0b.out 0 (.slice A5 o.length c5)) (p := ⟨w.heap.size + 1, 0, none⟩) (by show w.heap.size ≠ w.heap.size + 1; omega) (.int .i64 0)
      have k0 := bce b0'' 0
      have k1 := bce b1'' 0
      have hr5 := Kd.R_set (Kd.R_set H44.out HB0b.out (by decide) 0 (.slice A5 o.length c5)) b1' (by decide) 0 (.int .i64 0)
      have hend := (hb4.setCell (p := ⟨w.heap.size, 0, none⟩) (Nat.le_refl _) (.slice A5 o.length c5)).setCell (p := ⟨w.heap.size + 1, 0, none⟩) (by show w.heap.size ≤ w.heap.size + 1; omega) (.int .i64 0)
      generalize (w4.setCell ⟨w.heap.size, 0, none⟩ (.slice A5 o.length c5)).setCell ⟨w.heap.size + 1, 0, none⟩ (.int .i64 0) = w5 at *
      clear c0 c1 f0 f1
      show Leaves _ _ _ _ [] .returning w5
      refine ⟨.tuple #[.slice A5 o.length c5, .int .i64 0], ?_, ⟨_, rfl, hr5, hend⟩⟩
      simp [results, Tryz.results6, go_sem, k0, k1]
     | cons a l =>
      obtain ⟨rfl, rfl⟩ := Prod.mk.inj (Option.some.inj (show some ([], 2) = some (r1, r2) from h))
      clear h hT hlen hp
      refine Calls.mono (R := ParsePost [] 2 w) ?_ (fun _ _ h => h)
      go_enter_defers Tryz.func6, Tryz.ntmps6
      go_wp2_with (first | (go_at_call 16; refine (lex_Lex.calls a0 x 0 _ HX.out).mono ?_; rintro e1 w1 ⟨v1, rfl, ho, hb⟩; obtain ⟨As, cs, es, hlc, _⟩ := Kd.R_reads ho; subst es; obtain ⟨q0, q1⟩ := two_blocks w (.cells #[.slice none 0 0] 23) (.cells #[.int .i64 0] 24); have b0 := (hb.block w.heap.size (by simp; omega)).trans q0; have b1 := (hb.block (w.heap.size + 1) (by simp)).trans q1; have c0 := bce b0 0; have c1 := bce b1 0; have f0 := bfz b0 0; have f1 := bfz b1 0; have HB0 := Aside0.mk b0; have HB1 := Aside0.mk b1; have HO := Aside0.mk ho; have HB := Aside0.mk hb; have HLC := Aside0.mk hlc; have HS := Aside0.mk (parse_start ho b0 b1 hlc ((((Below.refl _ _).alloc (Nat.le_refl _) _).alloc (by simp) _).trans (hb.mono (by simp; omega)))); clear ho hb q0 q1 b0 b1 hlc) | (go_at_call 18; obtain ⟨hs1, hs2, hs3⟩ := HS.out; refine (PF_calls k 0 (by omega) w.heap.size _ _ _ (x, []) (some (a :: l, o)) (HWR.out _ hs1) hs2 HLX.out HP.out).mono ?_; rintro e2 w4 ⟨v4, hm, rfl, hr4⟩; have HM := Aside0.mk hm; obtain ⟨b0, b1⟩ := hs3 _ hm.2.1; have HB0b := Aside0.mk b0; have HB1b := Aside0.mk b1; have c0 := bce b0 0; have c1 := bce b1 0; have f0 := bfz b0 0; have f1 := bfz b1 0; clear b0 b1; obtain ⟨A4, c4, h41, h42, h43, h44, _⟩ := hr4; have hcr0 : w4.cell? ⟨w1.heap.size, 0, none⟩ = some (.slice A4 (l.length + 1) c4) := bce h41 0; obtain ⟨T, pv, hwr, _⟩ := HWR.out _ (HS.out.1.trans HM.out.1); clear h41 h43 h44 hm hs1 hs2 hs3))
      refine leaves_cons (f := 17) (args := #[.pointer (some ⟨w.heap.size, 0, none⟩), .pointer (some ⟨w.heap.size + 1, 0, none⟩)]) (by simp) (by simp [go_sem]) ?_
      have b1' := blk_far HB1b.out (p := ⟨w.heap.size, 0, none⟩) (by show w.heap.size + 1 ≠ w.heap.size; omega) (.slice none 0 0)
      refine (catch_panicking ⟨w.heap.size, 0, none⟩ ⟨w.heap.size + 1, 0, none⟩ (.slice none 0 0) (.int .i64 0) T pv [] _ c0 rfl f0 (bce b1' 0) rfl (bfz b1' 0)).mono ?_
      rintro e u' w'' ⟨rfl, rfl, rfl⟩
      have hb4 := HS.out.1.trans HM.out.1
      have b1'' := blk_set b1' 0 (.int .i64 2)
      have b0'' := blk_far (blk_set HB0b.out 0 (.slice none 0 0)) (p := ⟨w.heap.size + 1, 0, none⟩) (by show w.heap.size ≠ w.heap.size + 1; omega) (.int .i64 2)
      have k0 := bce b0'' 0
      have k1 := bce b1'' 0
      have hend := (hb4.setCell (p := ⟨w.heap.size, 0, none⟩) (Nat.le_refl _) (.slice none 0 0)).setCell (p := ⟨w.heap.size + 1, 0, none⟩) (by show w.heap.size ≤ w.heap.size + 1; omega) (.int .i64 2)
      generalize (w4.setCell ⟨w.heap.size, 0, none⟩ (.slice none 0 0)).setCell ⟨w.heap.size + 1, 0, none⟩ (.int .i64 2) = w5 at *
      clear c0 c1 f0 f1
      show Leaves _ _ _ _ [] .returning w5
      refine ⟨.tuple #[.slice none 0 0, .int .i64 2], ?_, ⟨_, rfl, Kd.R_nil _ _ _ _ _, hend⟩⟩
      simp [results, Tryz.results6, go_sem, k0, k1]
  ·rw [if_neg he] at h
   obtain ⟨rfl, rfl⟩ := Prod.mk.inj (Option.some.inj h)
   have hne : (e != 0) = true := bne_iff_ne.2 he
   clear h hT
   refine Calls.mono (R := ParsePost [] e w) ?_ (fun _ _ h => h)
   go_enter_defers Tryz.func6, Tryz.ntmps6
   go_wp2_with (first | (go_at_call 16; refine (lex_Lex.calls a0 x e _ HX.out).mono ?_; rintro e1 w1 ⟨v1, rfl, ho, hb⟩; obtain ⟨As, cs, es, hlc, _⟩ := Kd.R_reads ho; subst es; obtain ⟨q0, q1⟩ := two_blocks w (.cells #[.slice none 0 0] 23) (.cells #[.int .i64 0] 24); have b0 := (hb.block w.heap.size (by simp; omega)).trans q0; have b1 := (hb.block (w.heap.size + 1) (by simp)).trans q1; have c0 := bce b0 0; have c1 := bce b1 0; have f0 := bfz b0 0; have f1 := bfz b1 0; have HB0 := Aside0.mk b0; have HB1 := Aside0.mk b1; have HO := Aside0.mk ho; have HB := Aside0.mk hb; have HLC := Aside0.mk hlc; clear ho hb q0 q1 b0 b1 hlc))
   go_region
   all_goals go_wp2
   have hbw : Below w.heap.size w w1 := (((Below.refl _ _).alloc (Nat.le_refl _) _).alloc (by simp) _).trans (HB.out.mono (by simp; omega))
   refine ⟨.tuple #[.slice none 0 0, .int .i64 e], ?_, ⟨_, rfl, Kd.R_nil _ _ _ _ _, ?_⟩⟩
   ·simp [results, Tryz.results6, go_sem, c0, c1]
   ·exact (((hbw.setCell (by simp) _).setCell (by simp) _).setCell (by simp) _).drew
end Go.Proofs.YtikbgoppmailjaaGreatDoor.H
