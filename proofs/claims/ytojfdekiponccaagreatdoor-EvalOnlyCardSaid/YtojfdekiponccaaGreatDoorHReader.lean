import Derived.Test.YtojfdekiponccaaGreatDoorPG
import Derived.Test.YtojfdekiponccaaGreatDoorHKit
import Derived.Test.YtojfdekiponccaaGreatDoorHTabs2
import Derived.Test.YtojfdekiponccaaGreatDoorHx3
import Derived.Test.YtojfdekiponccaaGreatDoorHx3
import Derived.Recover
/- guard's reader: what each of its methods does to the signs that are left and to those that are laid behind; or it gives up. -/
namespace Go.Proofs.YtojfdekiponccaaGreatDoor.H
open Go.RowKit Go.HK Go.Proofs.YtojfdekiponccaaGreatDoorW.PrintWords Go.Proofs.YtojfdekiponccaaGreatDoorW.PrintLast Go.Proofs.YtojfdekiponccaaGreatDoorW.PrintMore
set_option linter.unusedVariables false
set_option linter.unusedSimpArgs false
def RS (b g : Nat) (v : Value) (w : World) (st : ST) : Prop :=
  ∃ A c, w.heap[g]? = some (.cells #[.slice A st.1.length c, v] 36 (0, 0)) ∧ st.1.length ≤ c ∧ (∀ W', KeepBut w W' g v.ownBlock → Kd.C k46 W' A st.1.length st.1) ∧ Kd.R k46 46 w b (fun _ => True) v st.2 ∧ b ≤ g
def Mv (b g : Nat) (v : Value) (w : World) (v' : Value) (w' : World) : Prop := Below b w w' ∧ KeepBut w w' g v.ownBlock ∧ (v'.ownBlock = v.ownBlock ∨ ∃ q, v'.ownBlock = some q ∧ w.heap.size ≤ q)
def Wr (b : Nat) (w : World) : Prop := ∃ T pv, w.cell? ⟨0, 0, none⟩ = some (.iface T pv) ∧ 0 < b
def Gone (e : Ending) : Prop := ∃ T pv, e = .panicked [{ v := .iface T pv, recovered := false }]
def Post (b g : Nat) (v : Value) (w : World) (res : Option ST) (e : Ending) (w' : World) : Prop :=
  ∃ v', Mv b g v w v' w' ∧ (match res with | none => Gone e | some st => e = .returned (.tuple #[]) ∧ RS b g v' w' st)
section
variable {b g : Nat} {v v1 v2 : Value} {w w1 w2 : World} {st : ST}
theorem Mv.refl : Mv b g v w v w := ⟨Below.refl _ _, KeepBut.refl _ _ _, .inl rfl⟩
theorem Mv.trans (h : Mv b g v w v1 w1) (k : Mv b g v1 w1 v2 w2) : Mv b g v w v2 w2 := by
  refine ⟨h.1.trans k.1, h.2.1.trans k.2.1 h.2.2, ?_⟩
  rcases k.2.2 with e | ⟨q, e, hq⟩
  · rw [e]; exact h.2.2
  · exact .inr ⟨q, e, Nat.le_trans h.2.1.1 hq⟩
theorem RS.lt (h : RS b g v w st) : g < w.heap.size := by obtain ⟨A, c, h1, _⟩ := h; exact blk_lt h1
theorem RS.base (h : RS b g v w st) : b ≤ w.heap.size := by have := h.lt; obtain ⟨A, c, _, _, _, _, h5⟩ := h; omega
theorem Mv.of_below (h : Below w.heap.size w w1) (hb : b ≤ w.heap.size) : Mv b g v w v w1 := ⟨h.mono hb, KeepBut.of_below h _ _, .inl rfl⟩
theorem RS.below (h : RS b g v w st) (hb : Below w.heap.size w w1) : RS b g v w1 st := by
  obtain ⟨A, c, h1, h2, h3, h4, h5⟩ := h
  exact ⟨A, c, (hb.block g (blk_lt h1)).trans h1, h2, fun W' hk => h3 W' ((KeepBut.of_below hb g _).trans hk (.inl rfl)), Kd.R_below h4 hb, h5⟩
theorem Wr.mv (h : Wr b w) (k : Mv b g v w v1 w1) : Wr b w1 := by
  obtain ⟨T, pv, hc, hlt⟩ := h
  exact ⟨T, pv, (k.1.cell (p := ⟨0, 0, none⟩) hlt).trans hc, hlt⟩
theorem RS.ne (h : RS b g v w st) : some g ≠ v.ownBlock := by
  obtain ⟨A, c, h1, h2, h3, h4, h5⟩ := h
  exact Kd.R_ne h4 h1 (by decide)
end
theorem RS.stored {b g : Nat} {v v1 : Value} {w w1 : World} {st : ST} {out1 : List S46} (h : RS b g v w st) (HO1 : Kd.R k46 46 w1 b (fun _ => True) v1 out1) (HB1 : Below b w w1) (HG1 : w.grownBy w1 v.ownBlock)
    (HA1 : v1.ownBlock = v.ownBlock ∨ ∃ q, v1.ownBlock = some q ∧ w.heap.size ≤ q) : Mv b g v w v1 (w1.setCell ⟨g, 1, none⟩ v1) ∧ RS b g v1 (w1.setCell ⟨g, 1, none⟩ v1) (st.1, out1) := by
  have hne := h.ne
  obtain ⟨A, c, h1, h2, h3, h4, h5⟩ := h
  have hb1 := blk_grown h1 HG1 hne
  have hk : KeepBut w (w1.setCell ⟨g, 1, none⟩ v1) g v.ownBlock := (KeepBut.of_grown HG1 g).set_ 1 v1
  refine ⟨⟨HB1.setCell h5 v1, hk, HA1⟩, A, c, blk_set hb1 1 v1, h2, fun W' q => h3 W' (hk.trans q HA1), Kd.R_set HO1 hb1 (by decide) 1 v1, h5⟩
theorem RS.cut {b g : Nat} {v : Value} {w : World} {a : S46} {l o : List S46} {A : Option Addr} {c : Nat} (h : RS b g v w (a :: l, o)) (h1 : w.heap[g]? = some (.cells #[.slice A (a :: l).length c, v] 36 (0, 0))) :
    Mv b g v w v (w.setCell ⟨g, 0, none⟩ (.slice (if c = 1 then A else A.map (·.add 2)) l.length (c - 1))) ∧ RS b g v (w.setCell ⟨g, 0, none⟩ (.slice (if c = 1 then A else A.map (·.add 2)) l.length (c - 1))) (l, o) := by
  obtain ⟨A', c', h1', h2, h3, h4, h5⟩ := h
  rw [h1] at h1'
  injection h1' with h1'
  injection h1' with h1' _
  injection h1' with h1'
  injection h1' with h1' _
  injection h1' with e1 _ e2
  subst e1; subst e2
  have hk : KeepBut w (w.setCell ⟨g, 0, none⟩ (.slice (if c = 1 then A else A.map (·.add 2)) l.length (c - 1))) g v.ownBlock := (KeepBut.refl w g _).set_ 0 _
  refine ⟨⟨(Below.refl b w).setCell h5 _, hk, .inl rfl⟩, _, _, blk_set h1 0 _, ?_, fun W' q => ?_, Kd.R_set h4 h1 (by decide) 0 _, h5⟩
  · simp only [List.length_cons] at h2 ⊢; omega
  · exact Kd.C_drop (m := 1) (h3 W' (hk.trans q (.inl rfl))) (by simp) h2
/-! ### the walks -/
theorem sees_calls {b g : Nat} {v : Value} {w : World} {st : ST} (kind : Int) (r : Bool) (h : RS b g v w st) (hr : seesF kind st = r) :
    Calls Tryz.prog 65 #[.pointer (some ⟨g, 0, none⟩), .int .i64 kind] w fun e w' => e = .returned (.bool r) ∧ Below w.heap.size w w' := by
  obtain ⟨A, c, h1, h2, h3, h4, h5⟩ := h
  have hc0 := blk_cell h1 0
  have hC := h3 w (KeepBut.refl _ _ _)
  obtain ⟨rest, out⟩ := st
  cases rest with
  | nil =>
    subst hr
    have hc0 : w.cell? ⟨g, 0, none⟩ = some (.slice A 0 c) := hc0
    clear h1 h2 h3 h4 h5 hC
    go_enter Tryz.func65, Tryz.ntmps65
    go_wp2
    go_ret
    exact ⟨rfl, Below.refl _ _⟩
  | cons a r1 =>
    obtain ⟨ad, rfl, e0, e1⟩ := at_T46 hC 0 (by omega) (by simp)
    have e0 : w.cell? ad = some (.int .i64 a.f0) := by simpa [Addr.add, rd_T46] using e0
    have hc0 : w.cell? ⟨g, 0, none⟩ = some (.slice (some ad) (r1.length + 1) c) := hc0
    have hr : (a.f0 == kind) = r := hr
    have HR := Lib.hid hr
    clear h1 h2 h3 h4 h5 hC e1 hr
    go_enter Tryz.func65, Tryz.ntmps65
    go_wp2
    go_ret
    exact ⟨by first | rfl | (rw [← HR.out]; rfl), Below.refl _ _⟩
theorem put_calls {b g : Nat} {v : Value} {w : World} {st : ST} (kind : Int) (h : RS b g v w st) (hl : st.2.length < 8796093022208) :
    Calls Tryz.prog 39 #[.pointer (some ⟨g, 0, none⟩), .int .i64 kind] w (Post b g v w (some (st.1, st.2 ++ [(⟨kind, 0⟩ : S46)]))) := by
  have HH := Aside0.mk h
  have hbs := h.base
  have hne := h.ne
  obtain ⟨A, c, h1, h2, h3, h4, h5⟩ := h
  have hc1 : w.cell? ⟨g, 1, none⟩ = some v := blk_cell h1 1
  have HO := Aside0.mk h4
  have HB := Aside0.mk (Below.refl b w)
  have HS := Aside0.mk hbs
  have H1 := Aside0.mk h1
  have H3 := Aside0.mk h3
  have HN := Aside0.mk hne
  clear h4 h1 h3 hne
  go_enter Tryz.func39, Tryz.ntmps39
  go_wp2_with (first | (at_builtin; refine Kd.R_append k46 (w0 := w) b rfl (.tmp 8) (.tmp 11) 24 46 (.agg #[(.int .i64 0), (.int .i64 0)]) 16 rfl Tryz.underlying24 info46 rfl (by decide) (by omega) v st.2 (⟨kind, 0⟩ : S46) [.int .i64 kind, .int .i64 0] (fun _ => True) (fun _ => False) rfl rfl ?aP (fun _ hk => hk.elim) ?aF ?aO ?aB ?aS ?aL ?_; (case aP => exact k46_mkM _ _ _ (⟨kind, 0⟩ : S46)); (case aB => exact (by repeat (first | (with_reducible first | exact HB.out | apply below_alloc | apply pw_below_drewN | apply below_drew1) | exact HB.out))); (case aF => exact (fun _ _ => trivial)); (case aO => exact (by (with_reducible repeat (first | apply Kd.R_alloc | apply Kd.R_drewN | apply Kd.R_drew)); exact HO.out)); (case aS => exact HS.out); (case aL => omega); intro v1 w1 ho hb hg hat; obtain ⟨A1, c1, e1, _, _⟩ := Kd.R_reads ho; subst e1; have hb1 := blk_grown H1.out hg HN.out; have hcell : w1.cell? ⟨g, 1, none⟩ = some v := blk_cell hb1 1; have hfr : w1.frozen? ⟨g, 1, none⟩ = false := blk_frozen hb1 1; have H1b := Aside0.mk hb1; have HO1 := Aside0.mk ho; have HB1 := Aside0.mk hb; have HG1 := Aside0.mk hg; have HA1 := Aside0.mk hat; clear ho hb hg hat hb1))
  go_end0
  obtain ⟨q1, q2⟩ := RS.stored HH.out HO1.out HB1.out HG1.out HA1.out
  have e : st.2.length + 1 = (st.2 ++ [(⟨kind, 0⟩ : S46)]).length := by simp
  rw [e]
  exact ⟨_, q1, rfl, q2⟩
theorem take_calls {b g : Nat} {v : Value} {w : World} {st : ST} (kind : Int) (h : RS b g v w st) (hW : Wr b w) (res : Option ST) (hres : takeF kind st = some res) :
    Calls Tryz.prog 38 #[.pointer (some ⟨g, 0, none⟩), .int .i64 kind] w (Post b g v w res) := by
  have HH := Aside0.mk h
  cases hs : seesF kind st
  · have HS := Lib.hid hs
    unfold takeF at hres
    rw [if_neg (by rw [hs]; decide)] at hres
    obtain rfl := Option.some.inj hres
    have HW := Aside0.mk hW
    clear h hs hW
    go_enter Tryz.func38, Tryz.ntmps38
    go_wp2_with (first | (go_at_call 65; refine (sees_calls _ _ HH.out HS.out).mono ?_; rintro e w1 ⟨rfl, hb⟩; have HM := Aside0.mk (Mv.of_below (v := v) (g := g) hb HH.out.base); clear hb; obtain ⟨T, pv, hwr, _⟩ := Wr.mv HW.out HM.out))
    exact ⟨rfl, v, HM.out, T, pv, rfl⟩
  · have HS := Lib.hid hs
    unfold takeF at hres
    rw [if_pos hs] at hres
    obtain rfl := Option.some.inj hres
    obtain ⟨rest, out⟩ := st
    cases rest with
    | nil => cases hs
    | cons a l =>
      clear h hs hW
      go_enter Tryz.func38, Tryz.ntmps38
      go_wp2_with (first | (go_at_call 65; refine (sees_calls _ _ HH.out HS.out).mono ?_; rintro e w1 ⟨rfl, hb⟩; have HM := Aside0.mk (Mv.of_below (v := v) (g := g) hb HH.out.base); have hr1 := RS.below HH.out hb; clear hb; have HR1 := Aside0.mk hr1; obtain ⟨A, c, h1, h2, h3, h4, h5⟩ := hr1; have hc0 : w1.cell? ⟨g, 0, none⟩ = some (.slice A (l.length + 1) c) := blk_cell h1 0; have hfr := blk_frozen h1 0; have H1 := Aside0.mk h1; clear h1 h3 h4))
      all_goals
        go_end0
        obtain ⟨q1, q2⟩ := RS.cut HR1.out H1.out
        have q3 := HM.out.trans q1
        refine ⟨v, ?_, rfl, ?_⟩
        · simpa [h, Addr.add] using q3
        · simpa [h, Addr.add] using q2
def fnOf : Nat → Nat
  | 0 => 10
  | 1 => 23
  | 2 => 40
  | 3 => 66
  | 4 => 79
  | _ => 88
def Can (R : Nat → ST → Rz) (lev : Nat) : Prop := ∀ (b g : Nat) (v : Value) (w : World) (st : ST) (res : Option ST), Wr b w → RS b g v w st → st.2.length + st.1.length ≤ 100000 → R lev st = some res → Calls Tryz.prog (fnOf lev) #[.pointer (some ⟨g, 0, none⟩)] w (Post b g v w res)
def Fine (R : Nat → ST → Rz) (lev : Nat) : Prop := ∀ (st s : ST), R lev st = some (some s) → s.2.length + s.1.length ≤ st.2.length + st.1.length
def Kinds (w : World) (g : Nat) (v : Value) (A : Option Addr) (ks : List Int) : Prop := ∀ W', KeepBut w W' g v.ownBlock → Kd.C (Kd.int .i64) W' A ks.length ks
def RowI (th : ST → Rz) (ks : List Int) (res : Option ST) (b g : Nat) (v : Value) (w : World) (kq : Nat) (wr : World) : Prop :=
  ∃ s v', rowL th ks kq s = some res ∧ s.2.length + s.1.length ≤ 100000 ∧ Mv b g v w v' wr ∧ RS b g v' wr s
theorem rowL_stop' {th : ST → Rz} {ks : List Int} {k : Nat} {a : S46} {l o : List S46} (hc : ks.contains a.f0 = false) : rowL th ks (k + 1) (a :: l, o) = some (some (a :: l, o)) := by
  simp only [rowL]
  rw [if_neg (by rw [hc]; decide)]
theorem rowL_go' {th : ST → Rz} {ks : List Int} {k : Nat} {a : S46} {l o : List S46} (hc : ks.contains a.f0 = true) {l1 o1 : List S46} (h : th (l, o) = some (some (l1, o1))) : rowL th ks (k + 1) (a :: l, o) = rowL th ks k (l1, o1 ++ [(⟨a.f0, 0⟩ : S46)]) := by
  simp only [rowL]
  rw [if_pos hc, h]
  rfl
theorem con1 (x y : Int) {r : Bool} (h : List.contains [x] y = r) : slices_Contains_int_int.f 5 [x] y = some r := by
  subst h
  by_cases c : y = x
  · simp [slices_Contains_int_int.f, slices_Index_int_int.f, slices_Index_int_int.l0, rd, rdOf, c]
  · simp [slices_Contains_int_int.f, slices_Index_int_int.f, slices_Index_int_int.l0, rd, rdOf, c, wrap64]
theorem con2 (x z y : Int) {r : Bool} (h : List.contains [x, z] y = r) : slices_Contains_int_int.f 5 [x, z] y = some r := by
  subst h
  by_cases c : y = x
  · simp [slices_Contains_int_int.f, slices_Index_int_int.f, slices_Index_int_int.l0, rd, rdOf, c]
  · by_cases d : y = z
    · have c' : ¬ z = x := by rw [← d]; exact c
      simp [slices_Contains_int_int.f, slices_Index_int_int.f, slices_Index_int_int.l0, rd, rdOf, c', d, wrap64]
    · simp [slices_Contains_int_int.f, slices_Index_int_int.f, slices_Index_int_int.l0, rd, rdOf, c, d, wrap64]
set_option maxRecDepth 100000 in
theorem row_some {R : Nat → ST → Rz} (hC : Can R 1) (hF : Fine R 1) {b g : Nat} {v : Value} {w : World} {st : ST} (A : Option Addr) (c n : Nat) (res : Option ST) (hW : Wr b w) (h : RS b g v w st) (hl : st.2.length + st.1.length ≤ 100000) (hk : Kinds w g v A [13]) (hc : 1 ≤ c)
    (hr : rowF (R 1) [13] n st = some res) : Calls Tryz.prog 22 #[.pointer (some ⟨g, 0, none⟩), .func (.func 23) #[.pointer (some ⟨g, 0, none⟩)] #[], .slice A 1 c] w (Post b g v w res) := by
  have HW := Aside0.mk hW
  have HR := Aside0.mk h
  have HL := Aside0.mk hl
  have HC := Aside0.mk hC
  have HK := Aside0.mk hk
  have HX := Aside0.mk hF
  unfold rowF at hr
  cases ht : R 1 st with
  | none => rw [ht] at hr; cases hr
  | some r1 =>
    have HT := Aside0.mk ht
    rw [ht] at hr
    cases r1 with
    | none =>
      obtain rfl := Option.some.inj hr
      clear hr ht hC hF hW h hl hk
      go_enter Tryz.func22, Tryz.ntmps22
      go_wp2_with (first | (go_at_call 23; refine (HC.out _ _ _ _ _ _ HW.out HR.out HL.out HT.out).mono ?_; rintro e w2 ⟨v2, hm2, T, pv, rfl⟩; have HM := Aside0.mk hm2; clear hm2))
      exact ⟨rfl, v2, HM.out, T, pv, rfl⟩
    | some s1 =>
      have HN := Aside0.mk (show rowL (R 1) [13] n s1 = some res from hr)
      have HS := Aside0.mk (Nat.le_trans (hF st s1 ht) hl)
      clear hr ht hC hF hW h hl hk
      go_enter Tryz.func22, Tryz.ntmps22
      go_wp2_with (first | (go_at_call 23; refine (HC.out _ _ _ _ _ _ HW.out HR.out HL.out HT.out).mono ?_; rintro e w2 ⟨v2, hm2, rfl, hr2⟩; have HM2 := Aside0.mk hm2; have HR2 := Aside0.mk hr2; clear hm2 hr2))
      go_loopg [6] n (fun kq v6 wr => RowI (R 1) [13] res b g v w kq wr)
      case atStart => exact ⟨s1, v2, HN.out, HS.out, HM2.out, HR2.out⟩
      case round =>
        obtain ⟨⟨l, o⟩, v3, hn, hs, hm, hrs⟩ := hrel
        clear HM2 HR2 HN HS HT HR HL
        have HM3 := Aside0.mk hm
        have HR3 := Aside0.mk hrs
        have HL3 := Aside0.mk hs
        obtain ⟨A0, c0, h1, h2, h3, h4, h5⟩ := hrs
        have hc0 := blk_cell h1 0
        have hC0 := h3 wr (KeepBut.refl _ _ _)
        clear h1 h2 h3 h4 h5 hm hs
        cases gk with
        | zero => exact absurd hn (by simp [rowL])
        | succ gk =>
          cases l with
          | nil =>
            obtain rfl := Option.some.inj hn
            have hc0 : wr.cell? ⟨g, 0, none⟩ = some (.slice A0 0 c0) := hc0
            clear hC0 hn
            go_wp2
            go_end0
            exact ⟨v3, HM3.out, rfl, HR3.out⟩
          | cons a l =>
            obtain ⟨ad, rfl, e0, e1⟩ := at_T46 hC0 0 (by omega) (by simp)
            have e0 : wr.cell? ad = some (.int .i64 a.f0) := by simpa [Addr.add, rd_T46] using e0
            have hc0 : wr.cell? ⟨g, 0, none⟩ = some (.slice (some ad) (l.length + 1) c0) := hc0
            clear hC0 e1
            cases hcc : List.contains [13] a.f0
            · have HCN := Aside0.mk (con1 13 a.f0 hcc)
              rw [rowL_stop' hcc] at hn
              obtain rfl := Option.some.inj hn
              clear hn hcc
              go_wp2_with (first | (go_at_call 37; refine (slices_Contains_int_int.calls 5 _ _ [13] _ _ _ (HK.out _ HM3.out.2.1) hc HCN.out).mono ?_; rintro e w3 ⟨rfl, hd⟩; have HD := Aside0.mk hd.below; clear hd))
              go_end0
              exact ⟨v3, HM3.out.trans (Mv.of_below HD.out HR3.out.base), rfl, HR3.out.below HD.out⟩
            · have HCN := Aside0.mk (con1 13 a.f0 hcc)
              have hl1 : o.length + l.length ≤ 100000 := by have := HL3.out; simp only [List.length_cons] at this; omega
              have HL4 := Aside0.mk hl1
              cases ht : R 1 (l, o) with
              | none => simp only [rowL, hcc, if_true, ht, bnd] at hn; cases hn
              | some r1 =>
                have HT := Aside0.mk ht
                cases r1 with
                | none =>
                  simp only [rowL, hcc, if_true, ht, bnd] at hn
                  obtain rfl := Option.some.inj hn
                  clear hn hcc hl1 ht
                  go_wp2_with (first | (go_at_call 37; refine (slices_Contains_int_int.calls 5 _ _ [13] _ _ _ (HK.out _ HM3.out.2.1) hc HCN.out).mono ?_; rintro e w3 ⟨rfl, hd⟩; have hb3 := hd.below; have hc3 : w3.cell? ⟨g, 0, none⟩ = some (.slice (some ad) (l.length + 1) c0) := (hb3.cell (p := ⟨g, 0, none⟩) HR3.out.lt).trans hc0; have e3 : w3.cell? ad = some (.int .i64 a.f0) := (hb3.cell (World.block_lt_of_cell? wr _ e0)).trans e0; have HR4 := Aside0.mk (HR3.out.below hb3); have HM4 := Aside0.mk (HM3.out.trans (Mv.of_below hb3 HR3.out.base)); have HW4 := Aside0.mk (HW.out.mv HM4.out); clear hd hb3) | (go_at_call 38; refine (take_calls a.f0 HR4.out HW4.out (some (l, o)) (by simp [takeF, seesF])).mono ?_; rintro e w5 ⟨v5, hm5, rfl, hr5⟩; have HM5 := Aside0.mk (HM4.out.trans hm5); have HR5 := Aside0.mk hr5; have HW5 := Aside0.mk (HW.out.mv HM5.out); clear hm5 hr5) | (go_at_call 23; refine (HC.out _ _ _ _ _ _ HW5.out HR5.out HL4.out HT.out).mono ?_; rintro e w6 ⟨v6, hm6, T, pv, rfl⟩; have HM6 := Aside0.mk (HM5.out.trans hm6); clear hm6))
                  exact ⟨rfl, v6, HM6.out, T, pv, rfl⟩
                | some s2 =>
                  obtain ⟨l2, o2⟩ := s2
                  rw [rowL_go' hcc ht] at hn
                  have HN := Aside0.mk hn
                  have hf2 := HX.out _ _ ht
                  dsimp only at hf2
                  have hl2 : o2.length < 8796093022208 := by have := HL4.out; omega
                  have hl3 : (o2 ++ [(⟨a.f0, 0⟩ : S46)]).length + l2.length ≤ 100000 := by
                    have := HL3.out
                    simp only [List.length_cons, List.length_append, List.length_nil] at this ⊢; omega
                  have HL6 := Aside0.mk hl2
                  have HL7 := Aside0.mk hl3
                  clear hn hcc hl1 ht hf2 hl2 hl3
                  go_wp2_with (first | (go_at_call 37; refine (slices_Contains_int_int.calls 5 _ _ [13] _ _ _ (HK.out _ HM3.out.2.1) hc HCN.out).mono ?_; rintro e w3 ⟨rfl, hd⟩; have hb3 := hd.below; have hc3 : w3.cell? ⟨g, 0, none⟩ = some (.slice (some ad) (l.length + 1) c0) := (hb3.cell (p := ⟨g, 0, none⟩) HR3.out.lt).trans hc0; have e3 : w3.cell? ad = some (.int .i64 a.f0) := (hb3.cell (World.block_lt_of_cell? wr _ e0)).trans e0; have HR4 := Aside0.mk (HR3.out.below hb3); have HM4 := Aside0.mk (HM3.out.trans (Mv.of_below hb3 HR3.out.base)); have HW4 := Aside0.mk (HW.out.mv HM4.out); clear hd hb3) | (go_at_call 38; refine (take_calls a.f0 HR4.out HW4.out (some (l, o)) (by simp [takeF, seesF])).mono ?_; rintro e w5 ⟨v5, hm5, rfl, hr5⟩; have HM5 := Aside0.mk (HM4.out.trans hm5); have HR5 := Aside0.mk hr5; have HW5 := Aside0.mk (HW.out.mv HM5.out); clear hm5 hr5) | (go_at_call 23; refine (HC.out _ _ _ _ _ _ HW5.out HR5.out HL4.out HT.out).mono ?_; rintro e w6 ⟨v6, hm6, rfl, hr6⟩; have HM6 := Aside0.mk (HM5.out.trans hm6); have HR6 := Aside0.mk hr6; clear hm6 hr6) | (go_at_call 39; refine (put_calls a.f0 HR6.out HL6.out).mono ?_; rintro e w7 ⟨v7, hm7, rfl, hr7⟩; have HM7 := Aside0.mk (HM6.out.trans hm7); have HR7 := Aside0.mk hr7; clear hm7 hr7))
                  go_roundg gk
                  case measure => omega
                  case rel => exact ⟨(l2, o2 ++ [(⟨a.f0, 0⟩ : S46)]), v7, HN.out, HL7.out, HM7.out, HR7.out⟩
set_option maxRecDepth 100000 in
theorem row_one {R : Nat → ST → Rz} (hC : Can R 2) (hF : Fine R 2) {b g : Nat} {v : Value} {w : World} {st : ST} (A : Option Addr) (c n : Nat) (res : Option ST) (hW : Wr b w) (h : RS b g v w st) (hl : st.2.length + st.1.length ≤ 100000) (hk : Kinds w g v A [12]) (hc : 1 ≤ c)
    (hr : rowF (R 2) [12] n st = some res) : Calls Tryz.prog 22 #[.pointer (some ⟨g, 0, none⟩), .func (.func 40) #[.pointer (some ⟨g, 0, none⟩)] #[], .slice A 1 c] w (Post b g v w res) := by
  have HW := Aside0.mk hW
  have HR := Aside0.mk h
  have HL := Aside0.mk hl
  have HC := Aside0.mk hC
  have HK := Aside0.mk hk
  have HX := Aside0.mk hF
  unfold rowF at hr
  cases ht : R 2 st with
  | none => rw [ht] at hr; cases hr
  | some r1 =>
    have HT := Aside0.mk ht
    rw [ht] at hr
    cases r1 with
    | none =>
      obtain rfl := Option.some.inj hr
      clear hr ht hC hF hW h hl hk
      go_enter Tryz.func22, Tryz.ntmps22
      go_wp2_with (first | (go_at_call 40; refine (HC.out _ _ _ _ _ _ HW.out HR.out HL.out HT.out).mono ?_; rintro e w2 ⟨v2, hm2, T, pv, rfl⟩; have HM := Aside0.mk hm2; clear hm2))
      exact ⟨rfl, v2, HM.out, T, pv, rfl⟩
    | some s1 =>
      have HN := Aside0.mk (show rowL (R 2) [12] n s1 = some res from hr)
      have HS := Aside0.mk (Nat.le_trans (hF st s1 ht) hl)
      clear hr ht hC hF hW h hl hk
      go_enter Tryz.func22, Tryz.ntmps22
      go_wp2_with (first | (go_at_call 40; refine (HC.out _ _ _ _ _ _ HW.out HR.out HL.out HT.out).mono ?_; rintro e w2 ⟨v2, hm2, rfl, hr2⟩; have HM2 := Aside0.mk hm2; have HR2 := Aside0.mk hr2; clear hm2 hr2))
      go_loopg [6] n (fun kq v6 wr => RowI (R 2) [12] res b g v w kq wr)
      case atStart => exact ⟨s1, v2, HN.out, HS.out, HM2.out, HR2.out⟩
      case round =>
        obtain ⟨⟨l, o⟩, v3, hn, hs, hm, hrs⟩ := hrel
        clear HM2 HR2 HN HS HT HR HL
        have HM3 := Aside0.mk hm
        have HR3 := Aside0.mk hrs
        have HL3 := Aside0.mk hs
        obtain ⟨A0, c0, h1, h2, h3, h4, h5⟩ := hrs
        have hc0 := blk_cell h1 0
        have hC0 := h3 wr (KeepBut.refl _ _ _)
        clear h1 h2 h3 h4 h5 hm hs
        cases gk with
        | zero => exact absurd hn (by simp [rowL])
        | succ gk =>
          cases l with
          | nil =>
            obtain rfl := Option.some.inj hn
            have hc0 : wr.cell? ⟨g, 0, none⟩ = some (.slice A0 0 c0) := hc0
            clear hC0 hn
            go_wp2
            go_end0
            exact ⟨v3, HM3.out, rfl, HR3.out⟩
          | cons a l =>
            obtain ⟨ad, rfl, e0, e1⟩ := at_T46 hC0 0 (by omega) (by simp)
            have e0 : wr.cell? ad = some (.int .i64 a.f0) := by simpa [Addr.add, rd_T46] using e0
            have hc0 : wr.cell? ⟨g, 0, none⟩ = some (.slice (some ad) (l.length + 1) c0) := hc0
            clear hC0 e1
            cases hcc : List.contains [12] a.f0
            · have HCN := Aside0.mk (con1 12 a.f0 hcc)
              rw [rowL_stop' hcc] at hn
              obtain rfl := Option.some.inj hn
              clear hn hcc
              go_wp2_with (first | (go_at_call 37; refine (slices_Contains_int_int.calls 5 _ _ [12] _ _ _ (HK.out _ HM3.out.2.1) hc HCN.out).mono ?_; rintro e w3 ⟨rfl, hd⟩; have HD := Aside0.mk hd.below; clear hd))
              go_end0
              exact ⟨v3, HM3.out.trans (Mv.of_below HD.out HR3.out.base), rfl, HR3.out.below HD.out⟩
            · have HCN := Aside0.mk (con1 12 a.f0 hcc)
              have hl1 : o.length + l.length ≤ 100000 := by have := HL3.out; simp only [List.length_cons] at this; omega
              have HL4 := Aside0.mk hl1
              cases ht : R 2 (l, o) with
              | none => simp only [rowL, hcc, if_true, ht, bnd] at hn; cases hn
              | some r1 =>
                have HT := Aside0.mk ht
                cases r1 with
                | none =>
                  simp only [rowL, hcc, if_true, ht, bnd] at hn
                  obtain rfl := Option.some.inj hn
                  clear hn hcc hl1 ht
                  go_wp2_with (first | (go_at_call 37; refine (slices_Contains_int_int.calls 5 _ _ [12] _ _ _ (HK.out _ HM3.out.2.1) hc HCN.out).mono ?_; rintro e w3 ⟨rfl, hd⟩; have hb3 := hd.below; have hc3 : w3.cell? ⟨g, 0, none⟩ = some (.slice (some ad) (l.length + 1) c0) := (hb3.cell (p := ⟨g, 0, none⟩) HR3.out.lt).trans hc0; have e3 : w3.cell? ad = some (.int .i64 a.f0) := (hb3.cell (World.block_lt_of_cell? wr _ e0)).trans e0; have HR4 := Aside0.mk (HR3.out.below hb3); have HM4 := Aside0.mk (HM3.out.trans (Mv.of_below hb3 HR3.out.base)); have HW4 := Aside0.mk (HW.out.mv HM4.out); clear hd hb3) | (go_at_call 38; refine (take_calls a.f0 HR4.out HW4.out (some (l, o)) (by simp [takeF, seesF])).mono ?_; rintro e w5 ⟨v5, hm5, rfl, hr5⟩; have HM5 := Aside0.mk (HM4.out.trans hm5); have HR5 := Aside0.mk hr5; have HW5 := Aside0.mk (HW.out.mv HM5.out); clear hm5 hr5) | (go_at_call 40; refine (HC.out _ _ _ _ _ _ HW5.out HR5.out HL4.out HT.out).mono ?_; rintro e w6 ⟨v6, hm6, T, pv, rfl⟩; have HM6 := Aside0.mk (HM5.out.trans hm6); clear hm6))
                  exact ⟨rfl, v6, HM6.out, T, pv, rfl⟩
                | some s2 =>
                  obtain ⟨l2, o2⟩ := s2
                  rw [rowL_go' hcc ht] at hn
                  have HN := Aside0.mk hn
                  have hf2 := HX.out _ _ ht
                  dsimp only at hf2
                  have hl2 : o2.length < 8796093022208 := by have := HL4.out; omega
                  have hl3 : (o2 ++ [(⟨a.f0, 0⟩ : S46)]).length + l2.length ≤ 100000 := by
                    have := HL3.out
                    simp only [List.length_cons, List.length_append, List.length_nil] at this ⊢; omega
                  have HL6 := Aside0.mk hl2
                  have HL7 := Aside0.mk hl3
                  clear hn hcc hl1 ht hf2 hl2 hl3
                  go_wp2_with (first | (go_at_call 37; refine (slices_Contains_int_int.calls 5 _ _ [12] _ _ _ (HK.out _ HM3.out.2.1) hc HCN.out).mono ?_; rintro e w3 ⟨rfl, hd⟩; have hb3 := hd.below; have hc3 : w3.cell? ⟨g, 0, none⟩ = some (.slice (some ad) (l.length + 1) c0) := (hb3.cell (p := ⟨g, 0, none⟩) HR3.out.lt).trans hc0; have e3 : w3.cell? ad = some (.int .i64 a.f0) := (hb3.cell (World.block_lt_of_cell? wr _ e0)).trans e0; have HR4 := Aside0.mk (HR3.out.below hb3); have HM4 := Aside0.mk (HM3.out.trans (Mv.of_below hb3 HR3.out.base)); have HW4 := Aside0.mk (HW.out.mv HM4.out); clear hd hb3) | (go_at_call 38; refine (take_calls a.f0 HR4.out HW4.out (some (l, o)) (by simp [takeF, seesF])).mono ?_; rintro e w5 ⟨v5, hm5, rfl, hr5⟩; have HM5 := Aside0.mk (HM4.out.trans hm5); have HR5 := Aside0.mk hr5; have HW5 := Aside0.mk (HW.out.mv HM5.out); clear hm5 hr5) | (go_at_call 40; refine (HC.out _ _ _ _ _ _ HW5.out HR5.out HL4.out HT.out).mono ?_; rintro e w6 ⟨v6, hm6, rfl, hr6⟩; have HM6 := Aside0.mk (HM5.out.trans hm6); have HR6 := Aside0.mk hr6; clear hm6 hr6) | (go_at_call 39; refine (put_calls a.f0 HR6.out HL6.out).mono ?_; rintro e w7 ⟨v7, hm7, rfl, hr7⟩; have HM7 := Aside0.mk (HM6.out.trans hm7); have HR7 := Aside0.mk hr7; clear hm7 hr7))
                  go_roundg gk
                  case measure => omega
                  case rel => exact ⟨(l2, o2 ++ [(⟨a.f0, 0⟩ : S46)]), v7, HN.out, HL7.out, HM7.out, HR7.out⟩
set_option maxRecDepth 100000 in
theorem row_product {R : Nat → ST → Rz} (hC : Can R 4) (hF : Fine R 4) {b g : Nat} {v : Value} {w : World} {st : ST} (A : Option Addr) (c n : Nat) (res : Option ST) (hW : Wr b w) (h : RS b g v w st) (hl : st.2.length + st.1.length ≤ 100000) (hk : Kinds w g v A [3, 4]) (hc : 2 ≤ c)
    (hr : rowF (R 4) [3, 4] n st = some res) : Calls Tryz.prog 22 #[.pointer (some ⟨g, 0, none⟩), .func (.func 79) #[.pointer (some ⟨g, 0, none⟩)] #[], .slice A 2 c] w (Post b g v w res) := by
  have HW := Aside0.mk hW
  have HR := Aside0.mk h
  have HL := Aside0.mk hl
  have HC := Aside0.mk hC
  have HK := Aside0.mk hk
  have HX := Aside0.mk hF
  unfold rowF at hr
  cases ht : R 4 st with
  | none => rw [ht] at hr; cases hr
  | some r1 =>
    have HT := Aside0.mk ht
    rw [ht] at hr
    cases r1 with
    | none =>
      obtain rfl := Option.some.inj hr
      clear hr ht hC hF hW h hl hk
      go_enter Tryz.func22, Tryz.ntmps22
      go_wp2_with (first | (go_at_call 79; refine (HC.out _ _ _ _ _ _ HW.out HR.out HL.out HT.out).mono ?_; rintro e w2 ⟨v2, hm2, T, pv, rfl⟩; have HM := Aside0.mk hm2; clear hm2))
      exact ⟨rfl, v2, HM.out, T, pv, rfl⟩
    | some s1 =>
      have HN := Aside0.mk (show rowL (R 4) [3, 4] n s1 = some res from hr)
      have HS := Aside0.mk (Nat.le_trans (hF st s1 ht) hl)
      clear hr ht hC hF hW h hl hk
      go_enter Tryz.func22, Tryz.ntmps22
      go_wp2_with (first | (go_at_call 79; refine (HC.out _ _ _ _ _ _ HW.out HR.out HL.out HT.out).mono ?_; rintro e w2 ⟨v2, hm2, rfl, hr2⟩; have HM2 := Aside0.mk hm2; have HR2 := Aside0.mk hr2; clear hm2 hr2))
      go_loopg [6] n (fun kq v6 wr => RowI (R 4) [3, 4] res b g v w kq wr)
      case atStart => exact ⟨s1, v2, HN.out, HS.out, HM2.out, HR2.out⟩
      case round =>
        obtain ⟨⟨l, o⟩, v3, hn, hs, hm, hrs⟩ := hrel
        clear HM2 HR2 HN HS HT HR HL
        have HM3 := Aside0.mk hm
        have HR3 := Aside0.mk hrs
        have HL3 := Aside0.mk hs
        obtain ⟨A0, c0, h1, h2, h3, h4, h5⟩ := hrs
        have hc0 := blk_cell h1 0
        have hC0 := h3 wr (KeepBut.refl _ _ _)
        clear h1 h2 h3 h4 h5 hm hs
        cases gk with
        | zero => exact absurd hn (by simp [rowL])
        | succ gk =>
          cases l with
          | nil =>
            obtain rfl := Option.some.inj hn
            have hc0 : wr.cell? ⟨g, 0, none⟩ = some (.slice A0 0 c0) := hc0
            clear hC0 hn
            go_wp2
            go_end0
            exact ⟨v3, HM3.out, rfl, HR3.out⟩
          | cons a l =>
            obtain ⟨ad, rfl, e0, e1⟩ := at_T46 hC0 0 (by omega) (by simp)
            have e0 : wr.cell? ad = some (.int .i64 a.f0) := by simpa [Addr.add, rd_T46] using e0
            have hc0 : wr.cell? ⟨g, 0, none⟩ = some (.slice (some ad) (l.length + 1) c0) := hc0
            clear hC0 e1
            cases hcc : List.contains [3, 4] a.f0
            · have HCN := Aside0.mk (con2 3 4 a.f0 hcc)
              rw [rowL_stop' hcc] at hn
              obtain rfl := Option.some.inj hn
              clear hn hcc
              go_wp2_with (first | (go_at_call 37; refine (slices_Contains_int_int.calls 5 _ _ [3, 4] _ _ _ (HK.out _ HM3.out.2.1) hc HCN.out).mono ?_; rintro e w3 ⟨rfl, hd⟩; have HD := Aside0.mk hd.below; clear hd))
              go_end0
              exact ⟨v3, HM3.out.trans (Mv.of_below HD.out HR3.out.base), rfl, HR3.out.below HD.out⟩
            · have HCN := Aside0.mk (con2 3 4 a.f0 hcc)
              have hl1 : o.length + l.length ≤ 100000 := by have := HL3.out; simp only [List.length_cons] at this; omega
              have HL4 := Aside0.mk hl1
              cases ht : R 4 (l, o) with
              | none => simp only [rowL, hcc, if_true, ht, bnd] at hn; cases hn
              | some r1 =>
                have HT := Aside0.mk ht
                cases r1 with
                | none =>
                  simp only [rowL, hcc, if_true, ht, bnd] at hn
                  obtain rfl := Option.some.inj hn
                  clear hn hcc hl1 ht
                  go_wp2_with (first | (go_at_call 37; refine (slices_Contains_int_int.calls 5 _ _ [3, 4] _ _ _ (HK.out _ HM3.out.2.1) hc HCN.out).mono ?_; rintro e w3 ⟨rfl, hd⟩; have hb3 := hd.below; have hc3 : w3.cell? ⟨g, 0, none⟩ = some (.slice (some ad) (l.length + 1) c0) := (hb3.cell (p := ⟨g, 0, none⟩) HR3.out.lt).trans hc0; have e3 : w3.cell? ad = some (.int .i64 a.f0) := (hb3.cell (World.block_lt_of_cell? wr _ e0)).trans e0; have HR4 := Aside0.mk (HR3.out.below hb3); have HM4 := Aside0.mk (HM3.out.trans (Mv.of_below hb3 HR3.out.base)); have HW4 := Aside0.mk (HW.out.mv HM4.out); clear hd hb3) | (go_at_call 38; refine (take_calls a.f0 HR4.out HW4.out (some (l, o)) (by simp [takeF, seesF])).mono ?_; rintro e w5 ⟨v5, hm5, rfl, hr5⟩; have HM5 := Aside0.mk (HM4.out.trans hm5); have HR5 := Aside0.mk hr5; have HW5 := Aside0.mk (HW.out.mv HM5.out); clear hm5 hr5) | (go_at_call 79; refine (HC.out _ _ _ _ _ _ HW5.out HR5.out HL4.out HT.out).mono ?_; rintro e w6 ⟨v6, hm6, T, pv, rfl⟩; have HM6 := Aside0.mk (HM5.out.trans hm6); clear hm6))
                  exact ⟨rfl, v6, HM6.out, T, pv, rfl⟩
                | some s2 =>
                  obtain ⟨l2, o2⟩ := s2
                  rw [rowL_go' hcc ht] at hn
                  have HN := Aside0.mk hn
                  have hf2 := HX.out _ _ ht
                  dsimp only at hf2
                  have hl2 : o2.length < 8796093022208 := by have := HL4.out; omega
                  have hl3 : (o2 ++ [(⟨a.f0, 0⟩ : S46)]).length + l2.length ≤ 100000 := by
                    have := HL3.out
                    simp only [List.length_cons, List.length_append, List.length_nil] at this ⊢; omega
                  have HL6 := Aside0.mk hl2
                  have HL7 := Aside0.mk hl3
                  clear hn hcc hl1 ht hf2 hl2 hl3
                  go_wp2_with (first | (go_at_call 37; refine (slices_Contains_int_int.calls 5 _ _ [3, 4] _ _ _ (HK.out _ HM3.out.2.1) hc HCN.out).mono ?_; rintro e w3 ⟨rfl, hd⟩; have hb3 := hd.below; have hc3 : w3.cell? ⟨g, 0, none⟩ = some (.slice (some ad) (l.length + 1) c0) := (hb3.cell (p := ⟨g, 0, none⟩) HR3.out.lt).trans hc0; have e3 : w3.cell? ad = some (.int .i64 a.f0) := (hb3.cell (World.block_lt_of_cell? wr _ e0)).trans e0; have HR4 := Aside0.mk (HR3.out.below hb3); have HM4 := Aside0.mk (HM3.out.trans (Mv.of_below hb3 HR3.out.base)); have HW4 := Aside0.mk (HW.out.mv HM4.out); clear hd hb3) | (go_at_call 38; refine (take_calls a.f0 HR4.out HW4.out (some (l, o)) (by simp [takeF, seesF])).mono ?_; rintro e w5 ⟨v5, hm5, rfl, hr5⟩; have HM5 := Aside0.mk (HM4.out.trans hm5); have HR5 := Aside0.mk hr5; have HW5 := Aside0.mk (HW.out.mv HM5.out); clear hm5 hr5) | (go_at_call 79; refine (HC.out _ _ _ _ _ _ HW5.out HR5.out HL4.out HT.out).mono ?_; rintro e w6 ⟨v6, hm6, rfl, hr6⟩; have HM6 := Aside0.mk (HM5.out.trans hm6); have HR6 := Aside0.mk hr6; clear hm6 hr6) | (go_at_call 39; refine (put_calls a.f0 HR6.out HL6.out).mono ?_; rintro e w7 ⟨v7, hm7, rfl, hr7⟩; have HM7 := Aside0.mk (HM6.out.trans hm7); have HR7 := Aside0.mk hr7; clear hm7 hr7))
                  go_roundg gk
                  case measure => omega
                  case rel => exact ⟨(l2, o2 ++ [(⟨a.f0, 0⟩ : S46)]), v7, HN.out, HL7.out, HM7.out, HR7.out⟩
set_option maxRecDepth 100000 in
theorem row_factor {R : Nat → ST → Rz} (hC : Can R 5) (hF : Fine R 5) {b g : Nat} {v : Value} {w : World} {st : ST} (A : Option Addr) (c n : Nat) (res : Option ST) (hW : Wr b w) (h : RS b g v w st) (hl : st.2.length + st.1.length ≤ 100000) (hk : Kinds w g v A [5]) (hc : 1 ≤ c)
    (hr : rowF (R 5) [5] n st = some res) : Calls Tryz.prog 22 #[.pointer (some ⟨g, 0, none⟩), .func (.func 88) #[.pointer (some ⟨g, 0, none⟩)] #[], .slice A 1 c] w (Post b g v w res) := by
  have HW := Aside0.mk hW
  have HR := Aside0.mk h
  have HL := Aside0.mk hl
  have HC := Aside0.mk hC
  have HK := Aside0.mk hk
  have HX := Aside0.mk hF
  unfold rowF at hr
  cases ht : R 5 st with
  | none => rw [ht] at hr; cases hr
  | some r1 =>
    have HT := Aside0.mk ht
    rw [ht] at hr
    cases r1 with
    | none =>
      obtain rfl := Option.some.inj hr
      clear hr ht hC hF hW h hl hk
      go_enter Tryz.func22, Tryz.ntmps22
      go_wp2_with (first | (go_at_call 88; refine (HC.out _ _ _ _ _ _ HW.out HR.out HL.out HT.out).mono ?_; rintro e w2 ⟨v2, hm2, T, pv, rfl⟩; have HM := Aside0.mk hm2; clear hm2))
      exact ⟨rfl, v2, HM.out, T, pv, rfl⟩
    | some s1 =>
      have HN := Aside0.mk (show rowL (R 5) [5] n s1 = some res from hr)
      have HS := Aside0.mk (Nat.le_trans (hF st s1 ht) hl)
      clear hr ht hC hF hW h hl hk
      go_enter Tryz.func22, Tryz.ntmps22
      go_wp2_with (first | (go_at_call 88; refine (HC.out _ _ _ _ _ _ HW.out HR.out HL.out HT.out).mono ?_; rintro e w2 ⟨v2, hm2, rfl, hr2⟩; have HM2 := Aside0.mk hm2; have HR2 := Aside0.mk hr2; clear hm2 hr2))
      go_loopg [6] n (fun kq v6 wr => RowI (R 5) [5] res b g v w kq wr)
      case atStart => exact ⟨s1, v2, HN.out, HS.out, HM2.out, HR2.out⟩
      case round =>
        obtain ⟨⟨l, o⟩, v3, hn, hs, hm, hrs⟩ := hrel
        clear HM2 HR2 HN HS HT HR HL
        have HM3 := Aside0.mk hm
        have HR3 := Aside0.mk hrs
        have HL3 := Aside0.mk hs
        obtain ⟨A0, c0, h1, h2, h3, h4, h5⟩ := hrs
        have hc0 := blk_cell h1 0
        have hC0 := h3 wr (KeepBut.refl _ _ _)
        clear h1 h2 h3 h4 h5 hm hs
        cases gk with
        | zero => exact absurd hn (by simp [rowL])
        | succ gk =>
          cases l with
          | nil =>
            obtain rfl := Option.some.inj hn
            have hc0 : wr.cell? ⟨g, 0, none⟩ = some (.slice A0 0 c0) := hc0
            clear hC0 hn
            go_wp2
            go_end0
            exact ⟨v3, HM3.out, rfl, HR3.out⟩
          | cons a l =>
            obtain ⟨ad, rfl, e0, e1⟩ := at_T46 hC0 0 (by omega) (by simp)
            have e0 : wr.cell? ad = some (.int .i64 a.f0) := by simpa [Addr.add, rd_T46] using e0
            have hc0 : wr.cell? ⟨g, 0, none⟩ = some (.slice (some ad) (l.length + 1) c0) := hc0
            clear hC0 e1
            cases hcc : List.contains [5] a.f0
            · have HCN := Aside0.mk (con1 5 a.f0 hcc)
              rw [rowL_stop' hcc] at hn
              obtain rfl := Option.some.inj hn
              clear hn hcc
              go_wp2_with (first | (go_at_call 37; refine (slices_Contains_int_int.calls 5 _ _ [5] _ _ _ (HK.out _ HM3.out.2.1) hc HCN.out).mono ?_; rintro e w3 ⟨rfl, hd⟩; have HD := Aside0.mk hd.below; clear hd))
              go_end0
              exact ⟨v3, HM3.out.trans (Mv.of_below HD.out HR3.out.base), rfl, HR3.out.below HD.out⟩
            · have HCN := Aside0.mk (con1 5 a.f0 hcc)
              have hl1 : o.length + l.length ≤ 100000 := by have := HL3.out; simp only [List.length_cons] at this; omega
              have HL4 := Aside0.mk hl1
              cases ht : R 5 (l, o) with
              | none => simp only [rowL, hcc, if_true, ht, bnd] at hn; cases hn
              | some r1 =>
                have HT := Aside0.mk ht
                cases r1 with
                | none =>
                  simp only [rowL, hcc, if_true, ht, bnd] at hn
                  obtain rfl := Option.some.inj hn
                  clear hn hcc hl1 ht
                  go_wp2_with (first | (go_at_call 37; refine (slices_Contains_int_int.calls 5 _ _ [5] _ _ _ (HK.out _ HM3.out.2.1) hc HCN.out).mono ?_; rintro e w3 ⟨rfl, hd⟩; have hb3 := hd.below; have hc3 : w3.cell? ⟨g, 0, none⟩ = some (.slice (some ad) (l.length + 1) c0) := (hb3.cell (p := ⟨g, 0, none⟩) HR3.out.lt).trans hc0; have e3 : w3.cell? ad = some (.int .i64 a.f0) := (hb3.cell (World.block_lt_of_cell? wr _ e0)).trans e0; have HR4 := Aside0.mk (HR3.out.below hb3); have HM4 := Aside0.mk (HM3.out.trans (Mv.of_below hb3 HR3.out.base)); have HW4 := Aside0.mk (HW.out.mv HM4.out); clear hd hb3) | (go_at_call 38; refine (take_calls a.f0 HR4.out HW4.out (some (l, o)) (by simp [takeF, seesF])).mono ?_; rintro e w5 ⟨v5, hm5, rfl, hr5⟩; have HM5 := Aside0.mk (HM4.out.trans hm5); have HR5 := Aside0.mk hr5; have HW5 := Aside0.mk (HW.out.mv HM5.out); clear hm5 hr5) | (go_at_call 88; refine (HC.out _ _ _ _ _ _ HW5.out HR5.out HL4.out HT.out).mono ?_; rintro e w6 ⟨v6, hm6, T, pv, rfl⟩; have HM6 := Aside0.mk (HM5.out.trans hm6); clear hm6))
                  exact ⟨rfl, v6, HM6.out, T, pv, rfl⟩
                | some s2 =>
                  obtain ⟨l2, o2⟩ := s2
                  rw [rowL_go' hcc ht] at hn
                  have HN := Aside0.mk hn
                  have hf2 := HX.out _ _ ht
                  dsimp only at hf2
                  have hl2 : o2.length < 8796093022208 := by have := HL4.out; omega
                  have hl3 : (o2 ++ [(⟨a.f0, 0⟩ : S46)]).length + l2.length ≤ 100000 := by
                    have := HL3.out
                    simp only [List.length_cons, List.length_append, List.length_nil] at this ⊢; omega
                  have HL6 := Aside0.mk hl2
                  have HL7 := Aside0.mk hl3
                  clear hn hcc hl1 ht hf2 hl2 hl3
                  go_wp2_with (first | (go_at_call 37; refine (slices_Contains_int_int.calls 5 _ _ [5] _ _ _ (HK.out _ HM3.out.2.1) hc HCN.out).mono ?_; rintro e w3 ⟨rfl, hd⟩; have hb3 := hd.below; have hc3 : w3.cell? ⟨g, 0, none⟩ = some (.slice (some ad) (l.length + 1) c0) := (hb3.cell (p := ⟨g, 0, none⟩) HR3.out.lt).trans hc0; have e3 : w3.cell? ad = some (.int .i64 a.f0) := (hb3.cell (World.block_lt_of_cell? wr _ e0)).trans e0; have HR4 := Aside0.mk (HR3.out.below hb3); have HM4 := Aside0.mk (HM3.out.trans (Mv.of_below hb3 HR3.out.base)); have HW4 := Aside0.mk (HW.out.mv HM4.out); clear hd hb3) | (go_at_call 38; refine (take_calls a.f0 HR4.out HW4.out (some (l, o)) (by simp [takeF, seesF])).mono ?_; rintro e w5 ⟨v5, hm5, rfl, hr5⟩; have HM5 := Aside0.mk (HM4.out.trans hm5); have HR5 := Aside0.mk hr5; have HW5 := Aside0.mk (HW.out.mv HM5.out); clear hm5 hr5) | (go_at_call 88; refine (HC.out _ _ _ _ _ _ HW5.out HR5.out HL4.out HT.out).mono ?_; rintro e w6 ⟨v6, hm6, rfl, hr6⟩; have HM6 := Aside0.mk (HM5.out.trans hm6); have HR6 := Aside0.mk hr6; clear hm6 hr6) | (go_at_call 39; refine (put_calls a.f0 HR6.out HL6.out).mono ?_; rintro e w7 ⟨v7, hm7, rfl, hr7⟩; have HM7 := Aside0.mk (HM6.out.trans hm7); have HR7 := Aside0.mk hr7; clear hm7 hr7))
                  go_roundg gk
                  case measure => omega
                  case rel => exact ⟨(l2, o2 ++ [(⟨a.f0, 0⟩ : S46)]), v7, HN.out, HL7.out, HM7.out, HR7.out⟩
theorem kinds_new {b g : Nat} {v : Value} {w : World} {st : ST} (h : RS b g v w st) (ks : List Int) (hn : ks.length ≤ 1000) (T : Nat) : Kinds (w.alloc (.cells (ks.map (Value.int .i64)).toArray T)) g v (some ⟨w.heap.size, 0, none⟩) ks := by
  intro W' hk
  have hg := h.lt
  obtain ⟨A, c, h1, h2, h3, h4, h5⟩ := h
  have hb0 := Kd.R_bound h4
  have hsz : (w.alloc (.cells (ks.map (Value.int .i64)).toArray T)).heap.size = w.heap.size + 1 := by simp
  have hne : some w.heap.size ≠ v.ownBlock := fun e => by
    have := (hb0.1 _ e.symm).2.2.1
    omega
  have hb : W'.heap[w.heap.size]? = some (.cells (ks.map (Value.int .i64)).toArray T (0, 0)) := (hk.2 w.heap.size (by rw [hsz]; omega) (by omega) hne).trans (heap_alloc_last w _)
  refine ⟨rfl, by omega, fun _ => ⟨_, rfl, fun j p hj => ⟨[.int .i64 p], rfl, rfl, fun i u hu => ?_⟩⟩⟩
  have hi : i = 0 := by
    have := (List.getElem?_eq_some_iff.1 hu).1
    simpa using this
  subst hi
  obtain rfl : Value.int .i64 p = u := by simpa using hu
  have hc := blk_cell hb j
  have e : (⟨w.heap.size, 0, none⟩ : Addr).add (j * (Kd.int .i64).sz + 0) = ⟨w.heap.size, j, none⟩ := by
    show (⟨w.heap.size, 0, none⟩ : Addr).add (j * 1 + 0) = _
    unfold Addr.add
    split
    · rename_i q; simp at q; subst q; rfl
    · simp
  rw [e, hc]
  simp [hj]
theorem top_guard {R : Nat → ST → Rz} (hC : Can R 1) (hF : Fine R 1) {b g : Nat} {v : Value} {w : World} {st : ST} (k : Nat) (res : Option ST) (hW : Wr b w) (h : RS b g v w st) (hl : st.2.length + st.1.length ≤ 100000) (hr : rowF (R 1) [13] k st = some res) : Calls Tryz.prog 10 #[.pointer (some ⟨g, 0, none⟩)] w (Post b g v w res) := by
  have HW := Aside0.mk hW
  have HR := Aside0.mk h
  have HL := Aside0.mk hl
  have HC := Aside0.mk hC
  have HX := Aside0.mk hF
  have HT := Aside0.mk hr
  cases res with
  | none =>
    have hmf : ∀ (fn : Fn) (first cap : Array Value) (w : World), (Instr.makeFunc fn first cap).run Tryz.prog w = .ok (.func fn first cap) w := fun _ _ _ _ => rfl
    clear hC hF hW h hl hr
    go_enter Tryz.func10, Tryz.ntmps10
    go_wp2_with (first | (have hba := (Below.refl w.heap.size w).alloc (Nat.le_refl _) (.cells (List.map (Value.int .i64) [13]).toArray 3); have HM1 := Aside0.mk (Mv.of_below (v := v) (g := g) hba HR.out.base); have HR1 := Aside0.mk (HR.out.below hba); have HW1 := Aside0.mk (HW.out.mv HM1.out); have HK1 := Aside0.mk (kinds_new HR.out [13] (by decide) 3); clear hba; (go_at_call 22; refine (row_some HC.out HX.out _ 1 k _ HW1.out HR1.out HL.out HK1.out (Nat.le_refl _) HT.out).mono ?_; rintro e w2 ⟨v2, hm2, T, pv, rfl⟩; have HM2 := Aside0.mk (HM1.out.trans hm2); clear hm2)))
    exact ⟨rfl, v2, HM2.out, T, pv, rfl⟩
  | some s =>
    have hmf : ∀ (fn : Fn) (first cap : Array Value) (w : World), (Instr.makeFunc fn first cap).run Tryz.prog w = .ok (.func fn first cap) w := fun _ _ _ _ => rfl
    clear hC hF hW h hl hr
    go_enter Tryz.func10, Tryz.ntmps10
    go_wp2_with (first | (have hba := (Below.refl w.heap.size w).alloc (Nat.le_refl _) (.cells (List.map (Value.int .i64) [13]).toArray 3); have HM1 := Aside0.mk (Mv.of_below (v := v) (g := g) hba HR.out.base); have HR1 := Aside0.mk (HR.out.below hba); have HW1 := Aside0.mk (HW.out.mv HM1.out); have HK1 := Aside0.mk (kinds_new HR.out [13] (by decide) 3); clear hba; (go_at_call 22; refine (row_some HC.out HX.out _ 1 k _ HW1.out HR1.out HL.out HK1.out (Nat.le_refl _) HT.out).mono ?_; rintro e w2 ⟨v2, hm2, rfl, hr2⟩; have HM2 := Aside0.mk (HM1.out.trans hm2); have HR2 := Aside0.mk hr2; clear hm2 hr2)))
    go_end0
    exact ⟨v2, HM2.out, rfl, HR2.out⟩
theorem top_some {R : Nat → ST → Rz} (hC : Can R 2) (hF : Fine R 2) {b g : Nat} {v : Value} {w : World} {st : ST} (k : Nat) (res : Option ST) (hW : Wr b w) (h : RS b g v w st) (hl : st.2.length + st.1.length ≤ 100000) (hr : rowF (R 2) [12] k st = some res) : Calls Tryz.prog 23 #[.pointer (some ⟨g, 0, none⟩)] w (Post b g v w res) := by
  have HW := Aside0.mk hW
  have HR := Aside0.mk h
  have HL := Aside0.mk hl
  have HC := Aside0.mk hC
  have HX := Aside0.mk hF
  have HT := Aside0.mk hr
  cases res with
  | none =>
    have hmf : ∀ (fn : Fn) (first cap : Array Value) (w : World), (Instr.makeFunc fn first cap).run Tryz.prog w = .ok (.func fn first cap) w := fun _ _ _ _ => rfl
    clear hC hF hW h hl hr
    go_enter Tryz.func23, Tryz.ntmps23
    go_wp2_with (first | (have hba := (Below.refl w.heap.size w).alloc (Nat.le_refl _) (.cells (List.map (Value.int .i64) [12]).toArray 3); have HM1 := Aside0.mk (Mv.of_below (v := v) (g := g) hba HR.out.base); have HR1 := Aside0.mk (HR.out.below hba); have HW1 := Aside0.mk (HW.out.mv HM1.out); have HK1 := Aside0.mk (kinds_new HR.out [12] (by decide) 3); clear hba; (go_at_call 22; refine (row_one HC.out HX.out _ 1 k _ HW1.out HR1.out HL.out HK1.out (Nat.le_refl _) HT.out).mono ?_; rintro e w2 ⟨v2, hm2, T, pv, rfl⟩; have HM2 := Aside0.mk (HM1.out.trans hm2); clear hm2)))
    exact ⟨rfl, v2, HM2.out, T, pv, rfl⟩
  | some s =>
    have hmf : ∀ (fn : Fn) (first cap : Array Value) (w : World), (Instr.makeFunc fn first cap).run Tryz.prog w = .ok (.func fn first cap) w := fun _ _ _ _ => rfl
    clear hC hF hW h hl hr
    go_enter Tryz.func23, Tryz.ntmps23
    go_wp2_with (first | (have hba := (Below.refl w.heap.size w).alloc (Nat.le_refl _) (.cells (List.map (Value.int .i64) [12]).toArray 3); have HM1 := Aside0.mk (Mv.of_below (v := v) (g := g) hba HR.out.base); have HR1 := Aside0.mk (HR.out.below hba); have HW1 := Aside0.mk (HW.out.mv HM1.out); have HK1 := Aside0.mk (kinds_new HR.out [12] (by decide) 3); clear hba; (go_at_call 22; refine (row_one HC.out HX.out _ 1 k _ HW1.out HR1.out HL.out HK1.out (Nat.le_refl _) HT.out).mono ?_; rintro e w2 ⟨v2, hm2, rfl, hr2⟩; have HM2 := Aside0.mk (HM1.out.trans hm2); have HR2 := Aside0.mk hr2; clear hm2 hr2)))
    go_end0
    exact ⟨v2, HM2.out, rfl, HR2.out⟩
theorem top_sum {R : Nat → ST → Rz} (hC : Can R 4) (hF : Fine R 4) {b g : Nat} {v : Value} {w : World} {st : ST} (k : Nat) (res : Option ST) (hW : Wr b w) (h : RS b g v w st) (hl : st.2.length + st.1.length ≤ 100000) (hr : rowF (R 4) [3, 4] k st = some res) : Calls Tryz.prog 66 #[.pointer (some ⟨g, 0, none⟩)] w (Post b g v w res) := by
  have HW := Aside0.mk hW
  have HR := Aside0.mk h
  have HL := Aside0.mk hl
  have HC := Aside0.mk hC
  have HX := Aside0.mk hF
  have HT := Aside0.mk hr
  cases res with
  | none =>
    have hmf : ∀ (fn : Fn) (first cap : Array Value) (w : World), (Instr.makeFunc fn first cap).run Tryz.prog w = .ok (.func fn first cap) w := fun _ _ _ _ => rfl
    clear hC hF hW h hl hr
    go_enter Tryz.func66, Tryz.ntmps66
    go_wp2_with (first | (have hba := (Below.refl w.heap.size w).alloc (Nat.le_refl _) (.cells (List.map (Value.int .i64) [3, 4]).toArray 3); have HM1 := Aside0.mk (Mv.of_below (v := v) (g := g) hba HR.out.base); have HR1 := Aside0.mk (HR.out.below hba); have HW1 := Aside0.mk (HW.out.mv HM1.out); have HK1 := Aside0.mk (kinds_new HR.out [3, 4] (by decide) 3); clear hba; (go_at_call 22; refine (row_product HC.out HX.out _ 2 k _ HW1.out HR1.out HL.out HK1.out (Nat.le_refl _) HT.out).mono ?_; rintro e w2 ⟨v2, hm2, T, pv, rfl⟩; have HM2 := Aside0.mk (HM1.out.trans hm2); clear hm2)))
    exact ⟨rfl, v2, HM2.out, T, pv, rfl⟩
  | some s =>
    have hmf : ∀ (fn : Fn) (first cap : Array Value) (w : World), (Instr.makeFunc fn first cap).run Tryz.prog w = .ok (.func fn first cap) w := fun _ _ _ _ => rfl
    clear hC hF hW h hl hr
    go_enter Tryz.func66, Tryz.ntmps66
    go_wp2_with (first | (have hba := (Below.refl w.heap.size w).alloc (Nat.le_refl _) (.cells (List.map (Value.int .i64) [3, 4]).toArray 3); have HM1 := Aside0.mk (Mv.of_below (v := v) (g := g) hba HR.out.base); have HR1 := Aside0.mk (HR.out.below hba); have HW1 := Aside0.mk (HW.out.mv HM1.out); have HK1 := Aside0.mk (kinds_new HR.out [3, 4] (by decide) 3); clear hba; (go_at_call 22; refine (row_product HC.out HX.out _ 2 k _ HW1.out HR1.out HL.out HK1.out (Nat.le_refl _) HT.out).mono ?_; rintro e w2 ⟨v2, hm2, rfl, hr2⟩; have HM2 := Aside0.mk (HM1.out.trans hm2); have HR2 := Aside0.mk hr2; clear hm2 hr2)))
    go_end0
    exact ⟨v2, HM2.out, rfl, HR2.out⟩
theorem top_product {R : Nat → ST → Rz} (hC : Can R 5) (hF : Fine R 5) {b g : Nat} {v : Value} {w : World} {st : ST} (k : Nat) (res : Option ST) (hW : Wr b w) (h : RS b g v w st) (hl : st.2.length + st.1.length ≤ 100000) (hr : rowF (R 5) [5] k st = some res) : Calls Tryz.prog 79 #[.pointer (some ⟨g, 0, none⟩)] w (Post b g v w res) := by
  have HW := Aside0.mk hW
  have HR := Aside0.mk h
  have HL := Aside0.mk hl
  have HC := Aside0.mk hC
  have HX := Aside0.mk hF
  have HT := Aside0.mk hr
  cases res with
  | none =>
    have hmf : ∀ (fn : Fn) (first cap : Array Value) (w : World), (Instr.makeFunc fn first cap).run Tryz.prog w = .ok (.func fn first cap) w := fun _ _ _ _ => rfl
    clear hC hF hW h hl hr
    go_enter Tryz.func79, Tryz.ntmps79
    go_wp2_with (first | (have hba := (Below.refl w.heap.size w).alloc (Nat.le_refl _) (.cells (List.map (Value.int .i64) [5]).toArray 3); have HM1 := Aside0.mk (Mv.of_below (v := v) (g := g) hba HR.out.base); have HR1 := Aside0.mk (HR.out.below hba); have HW1 := Aside0.mk (HW.out.mv HM1.out); have HK1 := Aside0.mk (kinds_new HR.out [5] (by decide) 3); clear hba; (go_at_call 22; refine (row_factor HC.out HX.out _ 1 k _ HW1.out HR1.out HL.out HK1.out (Nat.le_refl _) HT.out).mono ?_; rintro e w2 ⟨v2, hm2, T, pv, rfl⟩; have HM2 := Aside0.mk (HM1.out.trans hm2); clear hm2)))
    exact ⟨rfl, v2, HM2.out, T, pv, rfl⟩
  | some s =>
    have hmf : ∀ (fn : Fn) (first cap : Array Value) (w : World), (Instr.makeFunc fn first cap).run Tryz.prog w = .ok (.func fn first cap) w := fun _ _ _ _ => rfl
    clear hC hF hW h hl hr
    go_enter Tryz.func79, Tryz.ntmps79
    go_wp2_with (first | (have hba := (Below.refl w.heap.size w).alloc (Nat.le_refl _) (.cells (List.map (Value.int .i64) [5]).toArray 3); have HM1 := Aside0.mk (Mv.of_below (v := v) (g := g) hba HR.out.base); have HR1 := Aside0.mk (HR.out.below hba); have HW1 := Aside0.mk (HW.out.mv HM1.out); have HK1 := Aside0.mk (kinds_new HR.out [5] (by decide) 3); clear hba; (go_at_call 22; refine (row_factor HC.out HX.out _ 1 k _ HW1.out HR1.out HL.out HK1.out (Nat.le_refl _) HT.out).mono ?_; rintro e w2 ⟨v2, hm2, rfl, hr2⟩; have HM2 := Aside0.mk (HM1.out.trans hm2); have HR2 := Aside0.mk hr2; clear hm2 hr2)))
    go_end0
    exact ⟨v2, HM2.out, rfl, HR2.out⟩
end Go.Proofs.YtojfdekiponccaaGreatDoor.H
