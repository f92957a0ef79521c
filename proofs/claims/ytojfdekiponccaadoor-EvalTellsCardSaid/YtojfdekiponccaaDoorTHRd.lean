import Derived.Test.YtojfdekiponccaaDoorTPG
import Derived.Test.YtojfdekiponccaaDoorTHKit
import Derived.Test.YtojfdekiponccaaDoorTHTabs2
import Derived.Test.YtojfdekiponccaaDoorTHx8
import Derived.Test.YtojfdekiponccaaDoorTHx1
import Derived.Recover
/- guard's reader: what each of its methods does to the signs that are left and to those that are laid behind; or it gives up. -/
namespace Go.Proofs.YtojfdekiponccaaDoor.H
open Go.RowKit Go.HK Go.Proofs.YtojfdekiponccaaDoorW.PrintWords Go.Proofs.YtojfdekiponccaaDoorW.PrintLast Go.Proofs.YtojfdekiponccaaDoorW.PrintMore
set_option linter.unusedVariables false
set_option linter.unusedSimpArgs false
def RS (b g : Nat) (v : Value) (w : World) (st : ST) : Prop :=
  ∃ A c, w.heap[g]? = some (.cells #[.slice A st.1.length c, v] 107 (0, 0)) ∧ st.1.length ≤ c ∧ (∀ W', KeepBut w W' g v.ownBlock → Kd.C k35 W' A st.1.length st.1) ∧ Kd.R k35 35 w b (fun _ => True) v st.2 ∧ b ≤ g
def Mv (b g : Nat) (v : Value) (w : World) (v' : Value) (w' : World) : Prop := Below b w w' ∧ KeepBut w w' g v.ownBlock ∧ (v'.ownBlock = v.ownBlock ∨ ∃ q, v'.ownBlock = some q ∧ w.heap.size ≤ q)
def Wr (b : Nat) (w : World) : Prop := ∃ T pv, w.cell? ⟨0, 0, none⟩ = some (.iface T pv) ∧ 0 < b
def Gone (e : Ending) : Prop := ∃ T pv, e = .panicked [{ v := .iface T pv, recovered := false }]
def Post (b g : Nat) (v : Value) (w : World) (res : Option ST) (e : Ending) (w' : World) : Prop :=
  ∃ v', Mv b g v w v' w' ∧ (match res with | none => Gone e | some st => e = .returned (.tuple #[]) ∧ RS b g v' w' st)
section
variable {b g : Nat} {v v1 v2 : Value} {w w1 w2 : World} {st : ST}
theorem Mv.refl : Mv b g v w v w := ⟨Below.refl _ _, KeepBut.refl _ _ _, .inl rfl⟩
theorem Mv.trans (h : Mv b g v w v1 w1) (k : Mv b g v1 w1 v2 w2) : Mv b g v w v2 w2 := by
  refine ⟨h.1.trans k.1, h.2.1.trans k.2.1 h.2.2, ?_⟩
  rcases k.2.2 with e | ⟨q, e, hq⟩
  · rw [e]; exact h.2.2
  · exact .inr ⟨q, e, Nat.le_trans h.2.1.1 hq⟩
theorem RS.lt (h : RS b g v w st) : g < w.heap.size := by obtain ⟨A, c, h1, _⟩ := h; exact blk_lt h1
theorem RS.base (h : RS b g v w st) : b ≤ w.heap.size := by have := h.lt; obtain ⟨A, c, _, _, _, _, h5⟩ := h; omega
theorem Mv.of_below (h : Below w.heap.size w w1) (hb : b ≤ w.heap.size) : Mv b g v w v w1 := ⟨h.mono hb, KeepBut.of_below h _ _, .inl rfl⟩
theorem RS.below (h : RS b g v w st) (hb : Below w.heap.size w w1) : RS b g v w1 st := by
  obtain ⟨A, c, h1, h2, h3, h4, h5⟩ := h
  exact ⟨A, c, (hb.block g (blk_lt h1)).trans h1, h2, fun W' hk => h3 W' ((KeepBut.of_below hb g _).trans hk (.inl rfl)), Kd.R_below h4 hb, h5⟩
theorem Wr.mv (h : Wr b w) (k : Mv b g v w v1 w1) : Wr b w1 := by
  obtain ⟨T, pv, hc, hlt⟩ := h
  exact ⟨T, pv, (k.1.cell (p := ⟨0, 0, none⟩) hlt).trans hc, hlt⟩
theorem RS.ne (h : RS b g v w st) : some g ≠ v.ownBlock := by
  obtain ⟨A, c, h1, h2, h3, h4, h5⟩ := h
  exact Kd.R_ne h4 h1 (by decide)
end
theorem RS.stored {b g : Nat} {v v1 : Value} {w w1 : World} {st : ST} {out1 : List S35} (h : RS b g v w st) (HO1 : Kd.R k35 35 w1 b (fun _ => True) v1 out1) (HB1 : Below b w w1) (HG1 : w.grownBy w1 v.ownBlock)
    (HA1 : v1.ownBlock = v.ownBlock ∨ ∃ q, v1.ownBlock = some q ∧ w.heap.size ≤ q) : Mv b g v w v1 (w1.setCell ⟨g, 1, none⟩ v1) ∧ RS b g v1 (w1.setCell ⟨g, 1, none⟩ v1) (st.1, out1) := by
  have hne := h.ne
  obtain ⟨A, c, h1, h2, h3, h4, h5⟩ := h
  have hb1 := blk_grown h1 HG1 hne
  have hk : KeepBut w (w1.setCell ⟨g, 1, none⟩ v1) g v.ownBlock := (KeepBut.of_grown HG1 g).set_ 1 v1
  refine ⟨⟨HB1.setCell h5 v1, hk, HA1⟩, A, c, blk_set hb1 1 v1, h2, fun W' q => h3 W' (hk.trans q HA1), Kd.R_set HO1 hb1 (by decide) 1 v1, h5⟩
theorem RS.cut {b g : Nat} {v : Value} {w : World} {a : S35} {l o : List S35} {A : Option Addr} {c : Nat} (h : RS b g v w (a :: l, o)) (h1 : w.heap[g]? = some (.cells #[.slice A (a :: l).length c, v] 107 (0, 0))) :
    Mv b g v w v (w.setCell ⟨g, 0, none⟩ (.slice (if c = 1 then A else A.map (·.add 2)) l.length (c - 1))) ∧ RS b g v (w.setCell ⟨g, 0, none⟩ (.slice (if c = 1 then A else A.map (·.add 2)) l.length (c - 1))) (l, o) := by
  obtain ⟨A', c', h1', h2, h3, h4, h5⟩ := h
  rw [h1] at h1'
  injection h1' with h1'
  injection h1' with h1' _
  injection h1' with h1'
  injection h1' with h1' _
  injection h1' with e1 _ e2
  subst e1; subst e2
  have hk : KeepBut w (w.setCell ⟨g, 0, none⟩ (.slice (if c = 1 then A else A.map (·.add 2)) l.length (c - 1))) g v.ownBlock := (KeepBut.refl w g _).set_ 0 _
  refine ⟨⟨(Below.refl b w).setCell h5 _, hk, .inl rfl⟩, _, _, blk_set h1 0 _, ?_, fun W' q => ?_, Kd.R_set h4 h1 (by decide) 0 _, h5⟩
  · simp only [List.length_cons] at h2 ⊢; omega
  · exact Kd.C_drop (m := 1) (h3 W' (hk.trans q (.inl rfl))) (by simp) h2
/-! ### the walks -/
theorem sees_calls {b g : Nat} {v : Value} {w : World} {st : ST} (kind : Int) (r : Bool) (h : RS b g v w st) (hr : seesF kind st = r) :
    Calls Tryd.prog 114 #[.pointer (some ⟨g, 0, none⟩), .int .i64 kind] w fun e w' => e = .returned (.bool r) ∧ Below w.heap.size w w' := by
  obtain ⟨A, c, h1, h2, h3, h4, h5⟩ := h
  have hc0 := blk_cell h1 0
  have hC := h3 w (KeepBut.refl _ _ _)
  obtain ⟨rest, out⟩ := st
  cases rest with
  | nil =>
    subst hr
    have hc0 : w.cell? ⟨g, 0, none⟩ = some (.slice A 0 c) := hc0
    clear h1 h2 h3 h4 h5 hC
    go_enter Tryd.func114, Tryd.ntmps114
    go_wp2
    go_ret
    exact ⟨rfl, Below.refl _ _⟩
  | cons a r1 =>
    obtain ⟨ad, rfl, e0, e1⟩ := at_T35 hC 0 (by omega) (by simp)
    have e0 : w.cell? ad = some (.int .i64 a.f0) := by simpa [Addr.add, rd_T35] using e0
    have hc0 : w.cell? ⟨g, 0, none⟩ = some (.slice (some ad) (r1.length + 1) c) := hc0
    have hr : (a.f0 == kind) = r := hr
    have HR := Lib.hid hr
    clear h1 h2 h3 h4 h5 hC e1 hr
    go_enter Tryd.func114, Tryd.ntmps114
    go_wp2
    go_ret
    exact ⟨by first | rfl | (rw [← HR.out]; rfl), Below.refl _ _⟩
theorem put_calls {b g : Nat} {v : Value} {w : World} {st : ST} (kind : Int) (h : RS b g v w st) (hl : st.2.length < 8796093022208) :
    Calls Tryd.prog 99 #[.pointer (some ⟨g, 0, none⟩), .int .i64 kind] w (Post b g v w (some (st.1, st.2 ++ [(⟨kind, 0⟩ : S35)]))) := by
  have HH := Aside0.mk h
  have hbs := h.base
  have hne := h.ne
  obtain ⟨A, c, h1, h2, h3, h4, h5⟩ := h
  have hc1 : w.cell? ⟨g, 1, none⟩ = some v := blk_cell h1 1
  have HO := Aside0.mk h4
  have HB := Aside0.mk (Below.refl b w)
  have HS := Aside0.mk hbs
  have H1 := Aside0.mk h1
  have H3 := Aside0.mk h3
  have HN := Aside0.mk hne
  clear h4 h1 h3 hne
  go_enter Tryd.func99, Tryd.ntmps99
  go_wp2_with (first | (at_builtin; refine Kd.R_append k35 (w0 := w) b rfl (.tmp 8) (.tmp 11) 22 35 (.agg #[(.int .i64 0), (.int .i64 0)]) 16 rfl Tryd.underlying22 info35 rfl (by decide) (by omega) v st.2 (⟨kind, 0⟩ : S35) [.int .i64 kind, .int .i64 0] (fun _ => True) (fun _ => False) rfl rfl ?aP (fun _ hk => hk.elim) ?aF ?aO ?aB ?aS ?aL ?_; (case aP => exact k35_mkM _ _ _ (⟨kind, 0⟩ : S35)); (case aB => exact (by repeat (first | (with_reducible first | exact HB.out | apply below_alloc | apply pw_below_drewN | apply below_drew1) | exact HB.out))); (case aF => exact (fun _ _ => trivial)); (case aO => exact (by (with_reducible repeat (first | apply Kd.R_alloc | apply Kd.R_drewN | apply Kd.R_drew)); exact HO.out)); (case aS => exact HS.out); (case aL => omega); intro v1 w1 ho hb hg hat; obtain ⟨A1, c1, e1, _, _⟩ := Kd.R_reads ho; subst e1; have hb1 := blk_grown H1.out hg HN.out; have hcell : w1.cell? ⟨g, 1, none⟩ = some v := blk_cell hb1 1; have hfr : w1.frozen? ⟨g, 1, none⟩ = false := blk_frozen hb1 1; have H1b := Aside0.mk hb1; have HO1 := Aside0.mk ho; have HB1 := Aside0.mk hb; have HG1 := Aside0.mk hg; have HA1 := Aside0.mk hat; clear ho hb hg hat hb1))
  go_end0
  obtain ⟨q1, q2⟩ := RS.stored HH.out HO1.out HB1.out HG1.out HA1.out
  have e : st.2.length + 1 = (st.2 ++ [(⟨kind, 0⟩ : S35)]).length := by simp
  rw [e]
  exact ⟨_, q1, rfl, q2⟩
theorem take_calls {b g : Nat} {v : Value} {w : World} {st : ST} (kind : Int) (h : RS b g v w st) (hW : Wr b w) (res : Option ST) (hres : takeF kind st = some res) :
    Calls Tryd.prog 98 #[.pointer (some ⟨g, 0, none⟩), .int .i64 kind] w (Post b g v w res) := by
  have HH := Aside0.mk h
  cases hs : seesF kind st
  · have HS := Lib.hid hs
    unfold takeF at hres
    rw [if_neg (by rw [hs]; decide)] at hres
    obtain rfl := Option.some.inj hres
    have HW := Aside0.mk hW
    clear h hs hW
    go_enter Tryd.func98, Tryd.ntmps98
    go_wp2_with (first | (go_at_call 114; refine (sees_calls _ _ HH.out HS.out).mono ?_; rintro e w1 ⟨rfl, hb⟩; have HM := Aside0.mk (Mv.of_below (v := v) (g := g) hb HH.out.base); clear hb; obtain ⟨T, pv, hwr, _⟩ := Wr.mv HW.out HM.out))
    exact ⟨rfl, v, HM.out, T, pv, rfl⟩
  · have HS := Lib.hid hs
    unfold takeF at hres
    rw [if_pos hs] at hres
    obtain rfl := Option.some.inj hres
    obtain ⟨rest, out⟩ := st
    cases rest with
    | nil => cases hs
    | cons a l =>
      clear h hs hW
      go_enter Tryd.func98, Tryd.ntmps98
      go_wp2_with (first | (go_at_call 114; refine (sees_calls _ _ HH.out HS.out).mono ?_; rintro e w1 ⟨rfl, hb⟩; have HM := Aside0.mk (Mv.of_below (v := v) (g := g) hb HH.out.base); have hr1 := RS.below HH.out hb; clear hb; have HR1 := Aside0.mk hr1; obtain ⟨A, c, h1, h2, h3, h4, h5⟩ := hr1; have hc0 : w1.cell? ⟨g, 0, none⟩ = some (.slice A (l.length + 1) c) := blk_cell h1 0; have hfr := blk_frozen h1 0; have H1 := Aside0.mk h1; clear h1 h3 h4))
      all_goals
        go_end0
        obtain ⟨q1, q2⟩ := RS.cut HR1.out H1.out
        have q3 := HM.out.trans q1
        refine ⟨v, ?_, rfl, ?_⟩
        · simpa [h, Addr.add] using q3
        · simpa [h, Addr.add] using q2
def fnOf : Nat → Nat
  | 0 => 62
  | 1 => 82
  | 2 => 100
  | 3 => 115
  | 4 => 121
  | _ => 124
def Can (R : Nat → ST → Rz) (lev : Nat) : Prop := ∀ (b g : Nat) (v : Value) (w : World) (st : ST) (res : Option ST), Wr b w → RS b g v w st → st.2.length + st.1.length ≤ 100000 → R lev st = some res → Calls Tryd.prog (fnOf lev) #[.pointer (some ⟨g, 0, none⟩)] w (Post b g v w res)
def Fine (R : Nat → ST → Rz) (lev : Nat) : Prop := ∀ (st s : ST), R lev st = some (some s) → s.2.length + s.1.length ≤ st.2.length + st.1.length
def Kinds (w : World) (g : Nat) (v : Value) (A : Option Addr) (ks : List Int) : Prop := ∀ W', KeepBut w W' g v.ownBlock → Kd.C (Kd.int .i64) W' A ks.length ks
def RowI (th : ST → Rz) (ks : List Int) (res : Option ST) (b g : Nat) (v : Value) (w : World) (kq : Nat) (wr : World) : Prop :=
  ∃ s v', rowL th ks kq s = some res ∧ s.2.length + s.1.length ≤ 100000 ∧ Mv b g v w v' wr ∧ RS b g v' wr s
theorem rowL_stop' {th : ST → Rz} {ks : List Int} {k : Nat} {a : S35} {l o : List S35} (hc : ks.contains a.f0 = false) : rowL th ks (k + 1) (a :: l, o) = some (some (a :: l, o)) := by
  simp only [rowL]
  rw [if_neg (by rw [hc]; decide)]
theorem rowL_go' {th : ST → Rz} {ks : List Int} {k : Nat} {a : S35} {l o : List S35} (hc : ks.contains a.f0 = true) {l1 o1 : List S35} (h : th (l, o) = some (some (l1, o1))) : rowL th ks (k + 1) (a :: l, o) = rowL th ks k (l1, o1 ++ [(⟨a.f0, 0⟩ : S35)]) := by
  simp only [rowL]
  rw [if_pos hc, h]
  rfl
theorem con1 (x y : Int) {r : Bool} (h : List.contains [x] y = r) : slices_Contains_int_int.f 5 [x] y = some r := by
  subst h
  by_cases c : y = x
  · simp [slices_Contains_int_int.f, slices_Index_int_int.f, slices_Index_int_int.l0, rd, rdOf, c]
  · simp [slices_Contains_int_int.f, slices_Index_int_int.f, slices_Index_int_int.l0, rd, rdOf, c, wrap64]
theorem con2 (x z y : Int) {r : Bool} (h : List.contains [x, z] y = r) : slices_Contains_int_int.f 5 [x, z] y = some r := by
  subst h
  by_cases c : y = x
  · simp [slices_Contains_int_int.f, slices_Index_int_int.f, slices_Index_int_int.l0, rd, rdOf, c]
  · by_cases d : y = z
    · have c' : ¬ z = x := by rw [← d]; exact c
      simp [slices_Contains_int_int.f, slices_Index_int_int.f, slices_Index_int_int.l0, rd, rdOf, c', d, wrap64]
    · simp [slices_Contains_int_int.f, slices_Index_int_int.f, slices_Index_int_int.l0, rd, rdOf, c, d, wrap64]
set_option maxRecDepth 100000 in
theorem row_some {R : Nat → ST → Rz} (hC : Can R 1) (hF : Fine R 1) {b g : Nat} {v : Value} {w : World} {st : ST} (A : Option Addr) (c n : Nat) (res : Option ST) (hW : Wr b w) (h : RS b g v w st) (hl : st.2.length + st.1.length ≤ 100000) (hk : Kinds w g v A [13]) (hc : 1 ≤ c)
    (hr : rowF (R 1) [13] n st = some res) : Calls Tryd.prog 81 #[.pointer (some ⟨g, 0, none⟩), .func (.func 82) #[.pointer (some ⟨g, 0, none⟩)] #[], .slice A 1 c] w (Post b g v w res) := by
  have HW := Aside0.mk hW
  have HR := Aside0.mk h
  have HL := Aside0.mk hl
  have HC := Aside0.mk hC
  have HK := Aside0.mk hk
  have HX := Aside0.mk hF
  unfold rowF at hr
  cases ht : R 1 st with
  | none => rw [ht] at hr; cases hr
  | some r1 =>
    have HT := Aside0.mk ht
    rw [ht] at hr
    cases r1 with
    | none =>
      obtain rfl := Option.some.inj hr
      clear hr ht hC hF hW h hl hk
      go_enter Tryd.func81, Tryd.ntmps81
      go_wp2_with (first | (go_at_call 82; refine (HC.out _ _ _ _ _ _ HW.out HR.out HL.out HT.out).mono ?_; rintro e w2 ⟨v2, hm2, T, pv, rfl⟩; have HM := Aside0.mk hm2; clear hm2))
      exact ⟨rfl, v2, HM.out, T, pv, rfl⟩
    | some s1 =>
      have HN := Aside0.mk (show rowL (R 1) [13] n s1 = some res from hr)
      have HS := Aside0.mk (Nat.le_trans (hF st s1 ht) hl)
      clear hr ht hC hF hW h hl hk
      go_enter Tryd.func81, Tryd.ntmps81
      go_wp2_with (first | (go_at_call 82; refine (HC.out _ _ _ _ _ _ HW.out HR.out HL.out HT.out).mono ?_; rintro e w2 ⟨v2, hm2, rfl, hr2⟩; have HM2 := Aside0.mk hm2; have HR2 := Aside0.mk hr2; clear hm2 hr2))
      go_loopg [6] n (fun kq v6 wr => RowI (R 1) [13] res b g v w kq wr)
      case atStart => exact ⟨s1, v2, HN.out, HS.out, HM2.out, HR2.out⟩
      case round =>
        obtain ⟨⟨l, o⟩, v3, hn, hs, hm, hrs⟩ := hrel
        clear HM2 HR2 HN HS HT HR HL
        have HM3 := Aside0.mk hm
        have HR3 := Aside0.mk hrs
        have HL3 := Aside0.mk hs
        obtain ⟨A0, c0, h1, h2, h3, h4, h5⟩ := hrs
        have hc0 := blk_cell h1 0
        have hC0 := h3 wr (KeepBut.refl _ _ _)
        clear h1 h2 h3 h4 h5 hm hs
        cases gk with
        | zero => exact absurd hn (by simp [rowL])
        | succ gk =>
          cases l with
          | nil =>
            obtain rfl := Option.some.inj hn
            have hc0 : wr.cell? ⟨g, 0, none⟩ = some (.slice A0 0 c0) := hc0
            clear hC0 hn
            go_wp2
            go_end0
            exact ⟨v3, HM3.out, rfl, HR3.out⟩
          | cons a l =>
            obtain ⟨ad, rfl, e0, e1⟩ := at_T35 hC0 0 (by omega) (by simp)
            have e0 : wr.cell? ad = some (.int .i64 a.f0) := by simpa [Addr.add, rd_T35] using e0
            have hc0 : wr.cell? ⟨g, 0, none⟩ = some (.slice (some ad) (l.length + 1) c0) := hc0
            clear hC0 e1
            cases hcc : List.contains [13] a.f0
            · have HCN := Aside0.mk (con1 13 a.f0 hcc)
              rw [rowL_stop' hcc] at hn
              obtain rfl := Option.some.inj hn
              clear hn hcc
              go_wp2_with (first | (go_at_call 97; refine (slices_Contains_int_int.calls 5 _ _ [13] _ _ _ (HK.out _ HM3.out.2.1) hc HCN.out).mono ?_; rintro e w3 ⟨rfl, hd⟩; have HD := Aside0.mk hd.below; clear hd))
              go_end0
              exact ⟨v3, HM3.out.trans (Mv.of_below HD.out HR3.out.base), rfl, HR3.out.below HD.out⟩
            · have HCN := Aside0.mk (con1 13 a.f0 hcc)
              have hl1 : o.length + l.length ≤ 100000 := by have := HL3.out; simp only [List.length_cons] at this; omega
              have HL4 := Aside0.mk hl1
              cases ht : R 1 (l, o) with
              | none => simp only [rowL, hcc, if_true, ht, bnd] at hn; cases hn
              | some r1 =>
                have HT := Aside0.mk ht
                cases r1 with
                | none =>
                  simp only [rowL, hcc, if_true, ht, bnd] at hn
                  obtain rfl := Option.some.inj hn
                  clear hn hcc hl1 ht
                  go_wp2_with (first | (go_at_call 97; refine (slices_Contains_int_int.calls 5 _ _ [13] _ _ _ (HK.out _ HM3.out.2.1) hc HCN.out).mono ?_; rintro e w3 ⟨rfl, hd⟩; have hb3 := hd.below; have hc3 : w3.cell? ⟨g, 0, none⟩ = some (.slice (some ad) (l.length + 1) c0) := (hb3.cell (p := ⟨g, 0, none⟩) HR3.out.lt).trans hc0; have e3 : w3.cell? ad = some (.int .i64 a.f0) := (hb3.cell (World.block_lt_of_cell? wr _ e0)).trans e0; have HR4 := Aside0.mk (HR3.out.below hb3); have HM4 := Aside0.mk (HM3.out.trans (Mv.of_below hb3 HR3.out.base)); have HW4 := Aside0.mk (HW.out.mv HM4.out); clear hd hb3) | (go_at_call 98; refine (take_calls a.f0 HR4.out HW4.out (some (l, o)) (by simp [takeF, seesF])).mono ?_; rintro e w5 ⟨v5, hm5, rfl, hr5⟩; have HM5 := Aside0.mk (HM4.out.trans hm5); have HR5 := Aside0.mk hr5; have HW5 := Aside0.mk (HW.out.mv HM5.out); clear hm5 hr5) | (go_at_call 82; refine (HC.out _ _ _ _ _ _ HW5.out HR5.out HL4.out HT.out).mono ?_; rintro e w6 ⟨v6, hm6, T, pv, rfl⟩; have HM6 := Aside0.mk (HM5.out.trans hm6); clear hm6))
                  exact ⟨rfl, v6, HM6.out, T, pv, rfl⟩
                | some s2 =>
                  obtain ⟨l2, o2⟩ := s2
                  rw [rowL_go' hcc ht] at hn
                  have HN := Aside0.mk hn
                  have hf2 := HX.out _ _ ht
                  dsimp only at hf2
                  have hl2 : o2.length < 8796093022208 := by have := HL4.out; omega
                  have hl3 : (o2 ++ [(⟨a.f0, 0⟩ : S35)]).length + l2.length ≤ 100000 := by
                    have := HL3.out
                    simp only [List.length_cons, List.length_append, List.length_nil] at this ⊢; omega
                  have HL6 := Aside0.mk hl2
                  have HL7 := Aside0.mk hl3
                  clear hn hcc hl1 ht hf2 hl2 hl3
                  go_wp2_with (first | (go_at_call 97; refine (slices_Contains_int_int.calls 5 _ _ [13] _ _ _ (HK.out _ HM3.out.2.1) hc HCN.out).mono ?_; rintro e w3 ⟨rfl, hd⟩; have hb3 := hd.below; have hc3 : w3.cell? ⟨g, 0, none⟩ = some (.slice (some ad) (l.length + 1) c0) := (hb3.cell (p := ⟨g, 0, none⟩) HR3.out.lt).trans hc0; have e3 : w3.cell? ad = some (.int .i64 a.f0) := (hb3.cell (World.block_lt_of_cell? wr _ e0)).trans e0; have HR4 := Aside0.mk (HR3.out.below hb3); have HM4 := Aside0.mk (HM3.out.trans (Mv.of_below hb3 HR3.out.base)); have HW4 := Aside0.mk (HW.out.mv HM4.out); clear hd hb3) | (go_at_call 98; refine (take_calls a.f0 HR4.out HW4.out (some (l, o)) (by simp [takeF, seesF])).mono ?_; rintro e w5 ⟨v5, hm5, rfl, hr5⟩; have HM5 := Aside0.mk (HM4.out.trans hm5); have HR5 := Aside0.mk hr5; have HW5 := Aside0.mk (HW.out.mv HM5.out); clear hm5 hr5) | (go_at_call 82; refine (HC.out _ _ _ _ _ _ HW5.out HR5.out HL4.out HT.out).mono ?_; rintro e w6 ⟨v6, hm6, rfl, hr6⟩; have HM6 := Aside0.mk (HM5.out.trans hm6); have HR6 := Aside0.mk hr6; clear hm6 hr6) | (go_at_call 99; refine (put_calls a.f0 HR6.out HL6.out).mono ?_; rintro e w7 ⟨v7, hm7, rfl, hr7⟩; have HM7 := Aside0.mk (HM6.out.trans hm7); have HR7 := Aside0.mk hr7; clear hm7 hr7))
                  go_roundg gk
                  case measure => omega
                  case rel => exact ⟨(l2, o2 ++ [(⟨a.f0, 0⟩ : S35)]), v7, HN.out, HL7.out, HM7.out, HR7.out⟩
set_option maxRecDepth 100000 in
theorem row_one {R : Nat → ST → Rz} (hC : Can R 2) (hF : Fine R 2) {b g : Nat} {v : Value} {w : World} {st : ST} (A : Option Addr) (c n : Nat) (res : Option ST) (hW : Wr b w) (h : RS b g v w st) (hl : st.2.length + st.1.length ≤ 100000) (hk : Kinds w g v A [12]) (hc : 1 ≤ c)
    (hr : rowF (R 2) [12] n st = some res) : Calls Tryd.prog 81 #[.pointer (some ⟨g, 0, none⟩), .func (.func 100) #[.pointer (some ⟨g, 0, none⟩)] #[], .slice A 1 c] w (Post b g v w res) := by
  have HW := Aside0.mk hW
  have HR := Aside0.mk h
  have HL := Aside0.mk hl
  have HC := Aside0.mk hC
  have HK := Aside0.mk hk
  have HX := Aside0.mk hF
  unfold rowF at hr
  cases ht : R 2 st with
  | none => rw [ht] at hr; cases hr
  | some r1 =>
    have HT := Aside0.mk ht
    rw [ht] at hr
    cases r1 with
    | none =>
      obtain rfl := Option.some.inj hr
      clear hr ht hC hF hW h hl hk
      go_enter Tryd.func81, Tryd.ntmps81
      go_wp2_with (first | (go_at_call 100; refine (HC.out _ _ _ _ _ _ HW.out HR.out HL.out HT.out).mono ?_; rintro e w2 ⟨v2, hm2, T, pv, rfl⟩; have HM := Aside0.mk hm2; clear hm2))
      exact ⟨rfl, v2, HM.out, T, pv, rfl⟩
    | some s1 =>
      have HN := Aside0.mk (show rowL (R 2) [12] n s1 = some res from hr)
      have HS := Aside0.mk (Nat.le_trans (hF st s1 ht) hl)
      clear hr ht hC hF hW h hl hk
      go_enter Tryd.func81, Tryd.ntmps81
      go_wp2_with (first | (go_at_call 100; refine (HC.out _ _ _ _ _ _ HW.out HR.out HL.out HT.out).mono ?_; rintro e w2 ⟨v2, hm2, rfl, hr2⟩; have HM2 := Aside0.mk hm2; have HR2 := Aside0.mk hr2; clear hm2 hr2))
      go_loopg [6] n (fun kq v6 wr => RowI (R 2) [12] res b g v w kq wr)
      case atStart => exact ⟨s1, v2, HN.out, HS.out, HM2.out, HR2.out⟩
      case round =>
        obtain ⟨⟨l, o⟩, v3, hn, hs, hm, hrs⟩ := hrel
        clear HM2 HR2 HN HS HT HR HL
        have HM3 := Aside0.mk hm
        have HR3 := Aside0.mk hrs
        have HL3 := Aside0.mk hs
        obtain ⟨A0, c0, h1, h2, h3, h4, h5⟩ := hrs
        have hc0 := blk_cell h1 0
        have hC0 := h3 wr (KeepBut.refl _ _ _)
        clear h1 h2 h3 h4 h5 hm hs
        cases gk with
        | zero => exact absurd hn (by simp [rowL])
        | succ gk =>
          cases l with
          | nil =>
            obtain rfl := Option.some.inj hn
            have hc0 : wr.cell? ⟨g, 0, none⟩ = some (.slice A0 0 c0) := hc0
            clear hC0 hn
            go_wp2
            go_end0
            exact ⟨v3, HM3.out, rfl, HR3.out⟩
          | cons a l =>
            obtain ⟨ad, rfl, e0, e1⟩ := at_T35 hC0 0 (by omega) (by simp)
            have e0 : wr.cell? ad = some (.int .i64 a.f0) := by simpa [Addr.add, rd_T35] using e0
            have hc0 : wr.cell? ⟨g, 0, none⟩ = some (.slice (some ad) (l.length + 1) c0) := hc0
            clear hC0 e1
            cases hcc : List.contains [12] a.f0
            · have HCN := Aside0.mk (con1 12 a.f0 hcc)
              rw [rowL_stop' hcc] at hn
              obtain rfl := Option.some.inj hn
              clear hn hcc
              go_wp2_with (first | (go_at_call 97; refine (slices_Contains_int_int.calls 5 _ _ [12] _ _ _ (HK.out _ HM3.out.2.1) hc HCN.out).mono ?_; rintro e w3 ⟨rfl, hd⟩; have HD := Aside0.mk hd.below; clear hd))
              go_end0
              exact ⟨v3, HM3.out.trans (Mv.of_below HD.out HR3.out.base), rfl, HR3.out.below HD.out⟩
            · have HCN := Aside0.mk (con1 12 a.f0 hcc)
              have hl1 : o.length + l.length ≤ 100000 := by have := HL3.out; simp only [List.length_cons] at this; omega
              have HL4 := Aside0.mk hl1
              cases ht : R 2 (l, o) with
              | none => simp only [rowL, hcc, if_true, ht, bnd] at hn; cases hn
              | some r1 =>
                have HT := Aside0.mk ht
                cases r1 with
                | none =>
                  simp only [rowL, hcc, if_true, ht, bnd] at hn
                  obtain rfl := Option.some.inj hn
                  clear hn hcc hl1 ht
                  go_wp2_with (first | (go_at_call 97; refine (slices_Contains_int_int.calls 5 _ _ [12] _ _ _ (HK.out _ HM3.out.2.1) hc HCN.out).mono ?_; rintro e w3 ⟨rfl, hd⟩; have hb3 := hd.below; have hc3 : w3.cell? ⟨g, 0, none⟩ = some (.slice (some ad) (l.length + 1) c0) := (hb3.cell (p := ⟨g, 0, none⟩) HR3.out.lt).trans hc0; have e3 : w3.cell? ad = some (.int .i64 a.f0) := (hb3.cell (World.block_lt_of_cell? wr _ e0)).trans e0; have HR4 := Aside0.mk (HR3.out.below hb3); have HM4 := Aside0.mk (HM3.out.trans (Mv.of_below hb3 HR3.out.base)); have HW4 := Aside0.mk (HW.out.mv HM4.out); clear hd hb3) | (go_at_call 98; refine (take_calls a.f0 HR4.out HW4.out (some (l, o)) (by simp [takeF, seesF])).mono ?_; rintro e w5 ⟨v5, hm5, rfl, hr5⟩; have HM5 := Aside0.mk (HM4.out.trans hm5); have HR5 := Aside0.mk hr5; have HW5 := Aside0.mk (HW.out.mv HM5.out); clear hm5 hr5) | (go_at_call 100; refine (HC.out _ _ _ _ _ _ HW5.out HR5.out HL4.out HT.out).mono ?_; rintro e w6 ⟨v6, hm6, T, pv, rfl⟩; have HM6 := Aside0.mk (HM5.out.trans hm6); clear hm6))
                  exact ⟨rfl, v6, HM6.out, T, pv, rfl⟩
                | some s2 =>
                  obtain ⟨l2, o2⟩ := s2
                  rw [rowL_go' hcc ht] at hn
                  have HN := Aside0.mk hn
                  have hf2 := HX.out _ _ ht
                  dsimp only at hf2
                  have hl2 : o2.length < 8796093022208 := by have := HL4.out; omega
                  have hl3 : (o2 ++ [(⟨a.f0, 0⟩ : S35)]).length + l2.length ≤ 100000 := by
                    have := HL3.out
                    simp only [List.length_cons, List.length_append, List.length_nil] at this ⊢; omega
                  have HL6 := Aside0.mk hl2
                  have HL7 := Aside0.mk hl3
                  clear hn hcc hl1 ht hf2 hl2 hl3
                  go_wp2_with (first | (go_at_call 97; refine (slices_Contains_int_int.calls 5 _ _ [12] _ _ _ (HK.out _ HM3.out.2.1) hc HCN.out).mono ?_; rintro e w3 ⟨rfl, hd⟩; have hb3 := hd.below; have hc3 : w3.cell? ⟨g, 0, none⟩ = some (.slice (some ad) (l.length + 1) c0) := (hb3.cell (p := ⟨g, 0, none⟩) HR3.out.lt).trans hc0; have e3 : w3.cell? ad = some (.int .i64 a.f0) := (hb3.cell (World.block_lt_of_cell? wr _ e0)).trans e0; have HR4 := Aside0.mk (HR3.out.below hb3); have HM4 := Aside0.mk (HM3.out.trans (Mv.of_below hb3 HR3.out.base)); have HW4 := Aside0.mk (HW.out.mv HM4.out); clear hd hb3) | (go_at_call 98; refine (take_calls a.f0 HR4.out HW4.out (some (l, o)) (by simp [takeF, seesF])).mono ?_; rintro e w5 ⟨v5, hm5, rfl, hr5⟩; have HM5 := Aside0.mk (HM4.out.trans hm5); have HR5 := Aside0.mk hr5; have HW5 := Aside0.mk (HW.out.mv HM5.out); clear hm5 hr5) | (go_at_call 100; refine (HC.out _ _ _ _ _ _ HW5.out HR5.out HL4.out HT.out).mono ?_; rintro e w6 ⟨v6, hm6, rfl, hr6⟩; have HM6 := Aside0.mk (HM5.out.trans hm6); have HR6 := Aside0.mk hr6; clear hm6 hr6) | (go_at_call 99; refine (put_calls a.f0 HR6.out HL6.out).mono ?_; rintro e w7 ⟨v7, hm7, rfl, hr7⟩; have HM7 := Aside0.mk (HM6.out.trans hm7); have HR7 := Aside0.mk hr7; clear hm7 hr7))
                  go_roundg gk
                  case measure => omega
                  case rel => exact ⟨(l2, o2 ++ [(⟨a.f0, 0⟩ : S35)]), v7, HN.out, HL7.out, HM7.out, HR7.out⟩
set_option maxRecDepth 100000 in
theorem row_product {R : Nat → ST → Rz} (hC : Can R 4) (hF : Fine R 4) {b g : Nat} {v : Value} {w : World} {st : ST} (A : Option Addr) (c n : Nat) (res : Option ST) (hW : Wr b w) (h : RS b g v w st) (hl : st.2.length + st.1.length ≤ 100000) (hk : Kinds w g v A [3, 4]) (hc : 2 ≤ c)
    (hr : rowF (R 4) [3, 4] n st = some res) : Calls Tryd.prog 81 #[.pointer (some ⟨g, 0, none⟩), .func (.func 121) #[.pointer (some ⟨g, 0, none⟩)] #[], .slice A 2 c] w (Post b g v w res) := by
  have HW := Aside0.mk hW
  have HR := Aside0.mk h
  have HL := Aside0.mk hl
  have HC := Aside0.mk hC
  have HK := Aside0.mk hk
  have HX := Aside0.mk hF
  unfold rowF at hr
  cases ht : R 4 st with
  | none => rw [ht] at hr; cases hr
  | some r1 =>
    have HT := Aside0.mk ht
    rw [ht] at hr
    cases r1 with
    | none =>
      obtain rfl := Option.some.inj hr
      clear hr ht hC hF hW h hl hk
      go_enter Tryd.func81, Tryd.ntmps81
      go_wp2_with (first | (go_at_call 121; refine (HC.out _ _ _ _ _ _ HW.out HR.out HL.out HT.out).mono ?_; rintro e w2 ⟨v2, hm2, T, pv, rfl⟩; have HM := Aside0.mk hm2; clear hm2))
      exact ⟨rfl, v2, HM.out, T, pv, rfl⟩
    | some s1 =>
      have HN := Aside0.mk (show rowL (R 4) [3, 4] n s1 = some res from hr)
      have HS := Aside0.mk (Nat.le_trans (hF st s1 ht) hl)
      clear hr ht hC hF hW h hl hk
      go_enter Tryd.func81, Tryd.ntmps81
      go_wp2_with (first | (go_at_call 121; refine (HC.out _ _ _ _ _ _ HW.out HR.out HL.out HT.out).mono ?_; rintro e w2 ⟨v2, hm2, rfl, hr2⟩; have HM2 := Aside0.mk hm2; have HR2 := Aside0.mk hr2; clear hm2 hr2))
      go_loopg [6] n (fun kq v6 wr => RowI (R 4) [3, 4] res b g v w kq wr)
      case atStart => exact ⟨s1, v2, HN.out, HS.out, HM2.out, HR2.out⟩
      case round =>
        obtain ⟨⟨l, o⟩, v3, hn, hs, hm, hrs⟩ := hrel
        clear HM2 HR2 HN HS HT HR HL
        have HM3 := Aside0.mk hm
        have HR3 := Aside0.mk hrs
        have HL3 := Aside0.mk hs
        obtain ⟨A0, c0, h1, h2, h3, h4, h5⟩ := hrs
        have hc0 := blk_cell h1 0
        have hC0 := h3 wr (KeepBut.refl _ _ _)
        clear h1 h2 h3 h4 h5 hm hs
        cases gk with
        | zero => exact absurd hn (by simp [rowL])
        | succ gk =>
          cases l with
          | nil =>
            obtain rfl := Option.some.inj hn
            have hc0 : wr.cell? ⟨g, 0, none⟩ = some (.slice A0 0 c0) := hc0
            clear hC0 hn
            go_wp2
            go_end0
            exact ⟨v3, HM3.out, rfl, HR3.out⟩
          | cons a l =>
            obtain ⟨ad, rfl, e0, e1⟩ := at_T35 hC0 0 (by omega) (by simp)
            have e0 : wr.cell? ad = some (.int .i64 a.f0) := by simpa [Addr.add, rd_T35] using e0
            have hc0 : wr.cell? ⟨g, 0, none⟩ = some (.slice (some ad) (l.length + 1) c0) := hc0
            clear hC0 e1
            cases hcc : List.contains [3, 4] a.f0
            · have HCN := Aside0.mk (con2 3 4 a.f0 hcc)
              rw [rowL_stop' hcc] at hn
              obtain rfl := Option.some.inj hn
              clear hn hcc
              go_wp2_with (first | (go_at_call 97; refine (slices_Contains_int_int.calls 5 _ _ [3, 4] _ _ _ (HK.out _ HM3.out.2.1) hc HCN.out).mono ?_; rintro e w3 ⟨rfl, hd⟩; have HD := Aside0.mk hd.below; clear hd))
              go_end0
              exact ⟨v3, HM3.out.trans (Mv.of_below HD.out HR3.out.base), rfl, HR3.out.below HD.out⟩
            · have HCN := Aside0.mk (con2 3 4 a.f0 hcc)
              have hl1 : o.length + l.length ≤ 100000 := by have := HL3.out; simp only [List.length_cons] at this; omega
              have HL4 := Aside0.mk hl1
              cases ht : R 4 (l, o) with
              | none => simp only [rowL, hcc, if_true, ht, bnd] at hn; cases hn
              | some r1 =>
                have HT := Aside0.mk ht
                cases r1 with
                | none =>
                  simp only [rowL, hcc, if_true, ht, bnd] at hn
                  obtain rfl := Option.some.inj hn
                  clear hn hcc hl1 ht
                  go_wp2_with (first | (go_at_call 97; refine (slices_Contains_int_int.calls 5 _ _ [3, 4] _ _ _ (HK.out _ HM3.out.2.1) hc HCN.out).mono ?_; rintro e w3 ⟨rfl, hd⟩; have hb3 := hd.below; have hc3 : w3.cell? ⟨g, 0, none⟩ = some (.slice (some ad) (l.length + 1) c0) := (hb3.cell (p := ⟨g, 0, none⟩) HR3.out.lt).trans hc0; have e3 : w3.cell? ad = some (.int .i64 a.f0) := (hb3.cell (World.block_lt_of_cell? wr _ e0)).trans e0; have HR4 := Aside0.mk (HR3.out.below hb3); have HM4 := Aside0.mk (HM3.out.trans (Mv.of_below hb3 HR3.out.base)); have HW4 := Aside0.mk (HW.out.mv HM4.out); clear hd hb3) | (go_at_call 98; refine (take_calls a.f0 HR4.out HW4.out (some (l, o)) (by simp [takeF, seesF])).mono ?_; rintro e w5 ⟨v5, hm5, rfl, hr5⟩; have HM5 := Aside0.mk (HM4.out.trans hm5); have HR5 := Aside0.mk hr5; have HW5 := Aside0.mk (HW.out.mv HM5.out); clear hm5 hr5) | (go_at_call 121; refine (HC.out _ _ _ _ _ _ HW5.out HR5.out HL4.out HT.out).mono ?_; rintro e w6 ⟨v6, hm6, T, pv, rfl⟩; have HM6 := Aside0.mk (HM5.out.trans hm6); clear hm6))
                  exact ⟨rfl, v6, HM6.out, T, pv, rfl⟩
                | some s2 =>
                  obtain ⟨l2, o2⟩ := s2
                  rw [rowL_go' hcc ht] at hn
                  have HN := Aside0.mk hn
                  have hf2 := HX.out _ _ ht
                  dsimp only at hf2
                  have hl2 : o2.length < 8796093022208 := by have := HL4.out; omega
                  have hl3 : (o2 ++ [(⟨a.f0, 0⟩ : S35)]).length + l2.length ≤ 100000 := by
                    have := HL3.out
                    simp only [List.length_cons, List.length_append, List.length_nil] at this ⊢; omega
                  have HL6 := Aside0.mk hl2
                  have HL7 := Aside0.mk hl3
                  clear hn hcc hl1 ht hf2 hl2 hl3
                  go_wp2_with (first | (go_at_call 97; refine (slices_Contains_int_int.calls 5 _ _ [3, 4] _ _ _ (HK.out _ HM3.out.2.1) hc HCN.out).mono ?_; rintro e w3 ⟨rfl, hd⟩; have hb3 := hd.below; have hc3 : w3.cell? ⟨g, 0, none⟩ = some (.slice (some ad) (l.length + 1) c0) := (hb3.cell (p := ⟨g, 0, none⟩) HR3.out.lt).trans hc0; have e3 : w3.cell? ad = some (.int .i64 a.f0) := (hb3.cell (World.block_lt_of_cell? wr _ e0)).trans e0; have HR4 := Aside0.mk (HR3.out.below hb3); have HM4 := Aside0.mk (HM3.out.trans (Mv.of_below hb3 HR3.out.base)); have HW4 := Aside0.mk (HW.out.mv HM4.out); clear hd hb3) | (go_at_call 98; refine (take_calls a.f0 HR4.out HW4.out (some (l, o)) (by simp [takeF, seesF])).mono ?_; rintro e w5 ⟨v5, hm5, rfl, hr5⟩; have HM5 := Aside0.mk (HM4.out.trans hm5); have HR5 := Aside0.mk hr5; have HW5 := Aside0.mk (HW.out.mv HM5.out); clear hm5 hr5) | (go_at_call 121; refine (HC.out _ _ _ _ _ _ HW5.out HR5.out HL4.out HT.out).mono ?_; rintro e w6 ⟨v6, hm6, rfl, hr6⟩; have HM6 := Aside0.mk (HM5.out.trans hm6); have HR6 := Aside0.mk hr6; clear hm6 hr6) | (go_at_call 99; refine (put_calls a.f0 HR6.out HL6.out).mono ?_; rintro e w7 ⟨v7, hm7, rfl, hr7⟩; have HM7 := Aside0.mk (HM6.out.trans hm7); have HR7 := Aside0.mk hr7; clear hm7 hr7))
                  go_roundg gk
                  case measure => omega
                  case rel => exact ⟨(l2, o2 ++ [(⟨a.f0, 0⟩ : S35)]), v7, HN.out, HL7.out, HM7.out, HR7.out⟩
set_option maxRecDepth 100000 in
theorem row_factor {R : Nat → ST → Rz} (hC : Can R 5) (hF : Fine R 5) {b g : Nat} {v : Value} {w : World} {st : ST} (A : Option Addr) (c n : Nat) (res : Option ST) (hW : Wr b w) (h : RS b g v w st) (hl : st.2.length + st.1.length ≤ 100000) (hk : Kinds w g v A [5]) (hc : 1 ≤ c)
    (hr : rowF (R 5) [5] n st = some res) : Calls Tryd.prog 81 #[.pointer (some ⟨g, 0, none⟩), .func (.func 124) #[.pointer (some ⟨g, 0, none⟩)] #[], .slice A 1 c] w (Post b g v w res) := by
  have HW := Aside0.mk hW
  have HR := Aside0.mk h
  have HL := Aside0.mk hl
  have HC := Aside0.mk hC
  have HK := Aside0.mk hk
  have HX := Aside0.mk hF
  unfold rowF at hr
  cases ht : R 5 st with
  | none => rw [ht] at hr; cases hr
  | some r1 =>
    have HT := Aside0.mk ht
    rw [ht] at hr
    cases r1 with
    | none =>
      obtain rfl := Option.some.inj hr
      clear hr ht hC hF hW h hl hk
      go_enter Tryd.func81, Tryd.ntmps81
      go_wp2_with (first | (go_at_call 124; refine (HC.out _ _ _ _ _ _ HW.out HR.out HL.out HT.out).mono ?_; rintro e w2 ⟨v2, hm2, T, pv, rfl⟩; have HM := Aside0.mk hm2; clear hm2))
      exact ⟨rfl, v2, HM.out, T, pv, rfl⟩
    | some s1 =>
      have HN := Aside0.mk (show rowL (R 5) [5] n s1 = some res from hr)
      have HS := Aside0.mk (Nat.le_trans (hF st s1 ht) hl)
      clear hr ht hC hF hW h hl hk
      go_enter Tryd.func81, Tryd.ntmps81
      go_wp2_with (first | (go_at_call 124; refine (HC.out _ _ _ _ _ _ HW.out HR.out HL.out HT.out).mono ?_; rintro e w2 ⟨v2, hm2, rfl, hr2⟩; have HM2 := Aside0.mk hm2; have HR2 := Aside0.mk hr2; clear hm2 hr2))
      go_loopg [6] n (fun kq v6 wr => RowI (R 5) [5] res b g v w kq wr)
      case atStart => exact ⟨s1, v2, HN.out, HS.out, HM2.out, HR2.out⟩
      case round =>
        obtain ⟨⟨l, o⟩, v3, hn, hs, hm, hrs⟩ := hrel
        clear HM2 HR2 HN HS HT HR HL
        have HM3 := Aside0.mk hm
        have HR3 := Aside0.mk hrs
        have HL3 := Aside0.mk hs
        obtain ⟨A0, c0, h1, h2, h3, h4, h5⟩ := hrs
        have hc0 := blk_cell h1 0
        have hC0 := h3 wr (KeepBut.refl _ _ _)
        clear h1 h2 h3 h4 h5 hm hs
        cases gk with
        | zero => exact absurd hn (by simp [rowL])
        | succ gk =>
          cases l with
          | nil =>
            obtain rfl := Option.some.inj hn
            have hc0 : wr.cell? ⟨g, 0, none⟩ = some (.slice A0 0 c0) := hc0
            clear hC0 hn
            go_wp2
            go_end0
            exact ⟨v3, HM3.out, rfl, HR3.out⟩
          | cons a l =>
            obtain ⟨ad, rfl, e0, e1⟩ := at_T35 hC0 0 (by omega) (by simp)
            have e0 : wr.cell? ad = some (.int .i64 a.f0) := by simpa [Addr.add, rd_T35] using e0
            have hc0 : wr.cell? ⟨g, 0, none⟩ = some (.slice (some ad) (l.length + 1) c0) := hc0
            clear hC0 e1
            cases hcc : List.contains [5] a.f0
            · have HCN := Aside0.mk (con1 5 a.f0 hcc)
              rw [rowL_stop' hcc] at hn
              obtain rfl := Option.some.inj hn
              clear hn hcc
              go_wp2_with (first | (go_at_call 97; refine (slices_Contains_int_int.calls 5 _ _ [5] _ _ _ (HK.out _ HM3.out.2.1) hc HCN.out).mono ?_; rintro e w3 ⟨rfl, hd⟩; have HD := Aside0.mk hd.below; clear hd))
              go_end0
              exact ⟨v3, HM3.out.trans (Mv.of_below HD.out HR3.out.base), rfl, HR3.out.below HD.out⟩
            · have HCN := Aside0.mk (con1 5 a.f0 hcc)
              have hl1 : o.length + l.length ≤ 100000 := by have := HL3.out; simp only [List.length_cons] at this; omega
              have HL4 := Aside0.mk hl1
              cases ht : R 5 (l, o) with
              | none => simp only [rowL, hcc, if_true, ht, bnd] at hn; cases hn
              | some r1 =>
                have HT := Aside0.mk ht
                cases r1 with
                | none =>
                  simp only [rowL, hcc, if_true, ht, bnd] at hn
                  obtain rfl := Option.some.inj hn
                  clear hn hcc hl1 ht
                  go_wp2_with (first | (go_at_call 97; refine (slices_Contains_int_int.calls 5 _ _ [5] _ _ _ (HK.out _ HM3.out.2.1) hc HCN.out).mono ?_; rintro e w3 ⟨rfl, hd⟩; have hb3 := hd.below; have hc3 : w3.cell? ⟨g, 0, none⟩ = some (.slice (some ad) (l.length + 1) c0) := (hb3.cell (p := ⟨g, 0, none⟩) HR3.out.lt).trans hc0; have e3 : w3.cell? ad = some (.int .i64 a.f0) := (hb3.cell (World.block_lt_of_cell? wr _ e0)).trans e0; have HR4 := Aside0.mk (HR3.out.below hb3); have HM4 := Aside0.mk (HM3.out.trans (Mv.of_below hb3 HR3.out.base)); have HW4 := Aside0.mk (HW.out.mv HM4.out); clear hd hb3) | (go_at_call 98; refine (take_calls a.f0 HR4.out HW4.out (some (l, o)) (by simp [takeF, seesF])).mono ?_; rintro e w5 ⟨v5, hm5, rfl, hr5⟩; have HM5 := Aside0.mk (HM4.out.trans hm5); have HR5 := Aside0.mk hr5; have HW5 := Aside0.mk (HW.out.mv HM5.out); clear hm5 hr5) | (go_at_call 124; refine (HC.out _ _ _ _ _ _ HW5.out HR5.out HL4.out HT.out).mono ?_; rintro e w6 ⟨v6, hm6, T, pv, rfl⟩; have HM6 := Aside0.mk (HM5.out.trans hm6); clear hm6))
                  exact ⟨rfl, v6, HM6.out, T, pv, rfl⟩
                | some s2 =>
                  obtain ⟨l2, o2⟩ := s2
                  rw [rowL_go' hcc ht] at hn
                  have HN := Aside0.mk hn
                  have hf2 := HX.out _ _ ht
                  dsimp only at hf2
                  have hl2 : o2.length < 8796093022208 := by have := HL4.out; omega
                  have hl3 : (o2 ++ [(⟨a.f0, 0⟩ : S35)]).length + l2.length ≤ 100000 := by
                    have := HL3.out
                    simp only [List.length_cons, List.length_append, List.length_nil] at this ⊢; omega
                  have HL6 := Aside0.mk hl2
                  have HL7 := Aside0.mk hl3
                  clear hn hcc hl1 ht hf2 hl2 hl3
                  go_wp2_with (first | (go_at_call 97; refine (slices_Contains_int_int.calls 5 _ _ [5] _ _ _ (HK.out _ HM3.out.2.1) hc HCN.out).mono ?_; rintro e w3 ⟨rfl, hd⟩; have hb3 := hd.below; have hc3 : w3.cell? ⟨g, 0, none⟩ = some (.slice (some ad) (l.length + 1) c0) := (hb3.cell (p := ⟨g, 0, none⟩) HR3.out.lt).trans hc0; have e3 : w3.cell? ad = some (.int .i64 a.f0) := (hb3.cell (World.block_lt_of_cell? wr _ e0)).trans e0; have HR4 := Aside0.mk (HR3.out.below hb3); have HM4 := Aside0.mk (HM3.out.trans (Mv.of_below hb3 HR3.out.base)); have HW4 := Aside0.mk (HW.out.mv HM4.out); clear hd hb3) | (go_at_call 98; refine (take_calls a.f0 HR4.out HW4.out (some (l, o)) (by simp [takeF, seesF])).mono ?_; rintro e w5 ⟨v5, hm5, rfl, hr5⟩; have HM5 := Aside0.mk (HM4.out.trans hm5); have HR5 := Aside0.mk hr5; have HW5 := Aside0.mk (HW.out.mv HM5.out); clear hm5 hr5) | (go_at_call 124; refine (HC.out _ _ _ _ _ _ HW5.out HR5.out HL4.out HT.out).mono ?_; rintro e w6 ⟨v6, hm6, rfl, hr6⟩; have HM6 := Aside0.mk (HM5.out.trans hm6); have HR6 := Aside0.mk hr6; clear hm6 hr6) | (go_at_call 99; refine (put_calls a.f0 HR6.out HL6.out).mono ?_; rintro e w7 ⟨v7, hm7, rfl, hr7⟩; have HM7 := Aside0.mk (HM6.out.trans hm7); have HR7 := Aside0.mk hr7; clear hm7 hr7))
                  go_roundg gk
                  case measure => omega
                  case rel => exact ⟨(l2, o2 ++ [(⟨a.f0, 0⟩ : S35)]), v7, HN.out, HL7.out, HM7.out, HR7.out⟩
theorem kinds_new {b g : Nat} {v : Value} {w : World} {st : ST} (h : RS b g v w st) (ks : List Int) (hn : ks.length ≤ 1000) (T : Nat) : Kinds (w.alloc (.cells (ks.map (Value.int .i64)).toArray T)) g v (some ⟨w.heap.size, 0, none⟩) ks := by
  intro W' hk
  have hg := h.lt
  obtain ⟨A, c, h1, h2, h3, h4, h5⟩ := h
  have hb0 := Kd.R_bound h4
  have hsz : (w.alloc (.cells (ks.map (Value.int .i64)).toArray T)).heap.size = w.heap.size + 1 := by simp
  have hne : some w.heap.size ≠ v.ownBlock := fun e => by
    have := (hb0.1 _ e.symm).2.2.1
    omega
  have hb : W'.heap[w.heap.size]? = some (.cells (ks.map (Value.int .i64)).toArray T (0, 0)) := (hk.2 w.heap.size (by rw [hsz]; omega) (by omega) hne).trans (heap_alloc_last w _)
  refine ⟨rfl, by omega, fun _ => ⟨_, rfl, fun j p hj => ⟨[.int .i64 p], rfl, rfl, fun i u hu => ?_⟩⟩⟩
  have hi : i = 0 := by
    have := (List.getElem?_eq_some_iff.1 hu).1
    simpa using this
  subst hi
  obtain rfl : Value.int .i64 p = u := by simpa using hu
  have hc := blk_cell hb j
  have e : (⟨w.heap.size, 0, none⟩ : Addr).add (j * (Kd.int .i64).sz + 0) = ⟨w.heap.size, j, none⟩ := by
    show (⟨w.heap.size, 0, none⟩ : Addr).add (j * 1 + 0) = _
    unfold Addr.add
    split
    · rename_i q; simp at q; subst q; rfl
    · simp
  rw [e, hc]
  simp [hj]
theorem top_guard {R : Nat → ST → Rz} (hC : Can R 1) (hF : Fine R 1) {b g : Nat} {v : Value} {w : World} {st : ST} (k : Nat) (res : Option ST) (hW : Wr b w) (h : RS b g v w st) (hl : st.2.length + st.1.length ≤ 100000) (hr : rowF (R 1) [13] k st = some res) : Calls Tryd.prog 62 #[.pointer (some ⟨g, 0, none⟩)] w (Post b g v w res) := by
  have HW := Aside0.mk hW
  have HR := Aside0.mk h
  have HL := Aside0.mk hl
  have HC := Aside0.mk hC
  have HX := Aside0.mk hF
  have HT := Aside0.mk hr
  cases res with
  | none =>
    have hmf : ∀ (fn : Fn) (first cap : Array Value) (w : World), (Instr.makeFunc fn first cap).run Tryd.prog w = .ok (.func fn first cap) w := fun _ _ _ _ => rfl
    clear hC hF hW h hl hr
    go_enter Tryd.func62, Tryd.ntmps62
    go_wp2_with (first | (have hba := (Below.refl w.heap.size w).alloc (Nat.le_refl _) (.cells (List.map (Value.int .i64) [13]).toArray 3); have HM1 := Aside0.mk (Mv.of_below (v := v) (g := g) hba HR.out.base); have HR1 := Aside0.mk (HR.out.below hba); have HW1 := Aside0.mk (HW.out.mv HM1.out); have HK1 := Aside0.mk (kinds_new HR.out [13] (by decide) 3); clear hba; (go_at_call 81; refine (row_some HC.out HX.out _ 1 k _ HW1.out HR1.out HL.out HK1.out (Nat.le_refl _) HT.out).mono ?_; rintro e w2 ⟨v2, hm2, T, pv, rfl⟩; have HM2 := Aside0.mk (HM1.out.trans hm2); clear hm2)))
    exact ⟨rfl, v2, HM2.out, T, pv, rfl⟩
  | some s =>
    have hmf : ∀ (fn : Fn) (first cap : Array Value) (w : World), (Instr.makeFunc fn first cap).run Tryd.prog w = .ok (.func fn first cap) w := fun _ _ _ _ => rfl
    clear hC hF hW h hl hr
    go_enter Tryd.func62, Tryd.ntmps62
    go_wp2_with (first | (have hba := (Below.refl w.heap.size w).alloc (Nat.le_refl _) (.cells (List.map (Value.int .i64) [13]).toArray 3); have HM1 := Aside0.mk (Mv.of_below (v := v) (g := g) hba HR.out.base); have HR1 := Aside0.mk (HR.out.below hba); have HW1 := Aside0.mk (HW.out.mv HM1.out); have HK1 := Aside0.mk (kinds_new HR.out [13] (by decide) 3); clear hba; (go_at_call 81; refine (row_some HC.out HX.out _ 1 k _ HW1.out HR1.out HL.out HK1.out (Nat.le_refl _) HT.out).mono ?_; rintro e w2 ⟨v2, hm2, rfl, hr2⟩; have HM2 := Aside0.mk (HM1.out.trans hm2); have HR2 := Aside0.mk hr2; clear hm2 hr2)))
    go_end0
    exact ⟨v2, HM2.out, rfl, HR2.out⟩
theorem top_some {R : Nat → ST → Rz} (hC : Can R 2) (hF : Fine R 2) {b g : Nat} {v : Value} {w : World} {st : ST} (k : Nat) (res : Option ST) (hW : Wr b w) (h : RS b g v w st) (hl : st.2.length + st.1.length ≤ 100000) (hr : rowF (R 2) [12] k st = some res) : Calls Tryd.prog 82 #[.pointer (some ⟨g, 0, none⟩)] w (Post b g v w res) := by
  have HW := Aside0.mk hW
  have HR := Aside0.mk h
  have HL := Aside0.mk hl
  have HC := Aside0.mk hC
  have HX := Aside0.mk hF
  have HT := Aside0.mk hr
  cases res with
  | none =>
    have hmf : ∀ (fn : Fn) (first cap : Array Value) (w : World), (Instr.makeFunc fn first cap).run Tryd.prog w = .ok (.func fn first cap) w := fun _ _ _ _ => rfl
    clear hC hF hW h hl hr
    go_enter Tryd.func82, Tryd.ntmps82
    go_wp2_with (first | (have hba := (Below.refl w.heap.size w).alloc (Nat.le_refl _) (.cells (List.map (Value.int .i64) [12]).toArray 3); have HM1 := Aside0.mk (Mv.of_below (v := v) (g := g) hba HR.out.base); have HR1 := Aside0.mk (HR.out.below hba); have HW1 := Aside0.mk (HW.out.mv HM1.out); have HK1 := Aside0.mk (kinds_new HR.out [12] (by decide) 3); clear hba; (go_at_call 81; refine (row_one HC.out HX.out _ 1 k _ HW1.out HR1.out HL.out HK1.out (Nat.le_refl _) HT.out).mono ?_; rintro e w2 ⟨v2, hm2, T, pv, rfl⟩; have HM2 := Aside0.mk (HM1.out.trans hm2); clear hm2)))
    exact ⟨rfl, v2, HM2.out, T, pv, rfl⟩
  | some s =>
    have hmf : ∀ (fn : Fn) (first cap : Array Value) (w : World), (Instr.makeFunc fn first cap).run Tryd.prog w = .ok (.func fn first cap) w := fun _ _ _ _ => rfl
    clear hC hF hW h hl hr
    go_enter Tryd.func82, Tryd.ntmps82
    go_wp2_with (first | (have hba := (Below.refl w.heap.size w).alloc (Nat.le_refl _) (.cells (List.map (Value.int .i64) [12]).toArray 3); have HM1 := Aside0.mk (Mv.of_below (v := v) (g := g) hba HR.out.base); have HR1 := Aside0.mk (HR.out.below hba); have HW1 := Aside0.mk (HW.out.mv HM1.out); have HK1 := Aside0.mk (kinds_new HR.out [12] (by decide) 3); clear hba; (go_at_call 81; refine (row_one HC.out HX.out _ 1 k _ HW1.out HR1.out HL.out HK1.out (Nat.le_refl _) HT.out).mono ?_; rintro e w2 ⟨v2, hm2, rfl, hr2⟩; have HM2 := Aside0.mk (HM1.out.trans hm2); have HR2 := Aside0.mk hr2; clear hm2 hr2)))
    go_end0
    exact ⟨v2, HM2.out, rfl, HR2.out⟩
theorem top_sum {R : Nat → ST → Rz} (hC : Can R 4) (hF : Fine R 4) {b g : Nat} {v : Value} {w : World} {st : ST} (k : Nat) (res : Option ST) (hW : Wr b w) (h : RS b g v w st) (hl : st.2.length + st.1.length ≤ 100000) (hr : rowF (R 4) [3, 4] k st = some res) : Calls Tryd.prog 115 #[.pointer (some ⟨g, 0, none⟩)] w (Post b g v w res) := by
  have HW := Aside0.mk hW
  have HR := Aside0.mk h
  have HL := Aside0.mk hl
  have HC := Aside0.mk hC
  have HX := Aside0.mk hF
  have HT := Aside0.mk hr
  cases res with
  | none =>
    have hmf : ∀ (fn : Fn) (first cap : Array Value) (w : World), (Instr.makeFunc fn first cap).run Tryd.prog w = .ok (.func fn first cap) w := fun _ _ _ _ => rfl
    clear hC hF hW h hl hr
    go_enter Tryd.func115, Tryd.ntmps115
    go_wp2_with (first | (have hba := (Below.refl w.heap.size w).alloc (Nat.le_refl _) (.cells (List.map (Value.int .i64) [3, 4]).toArray 3); have HM1 := Aside0.mk (Mv.of_below (v := v) (g := g) hba HR.out.base); have HR1 := Aside0.mk (HR.out.below hba); have HW1 := Aside0.mk (HW.out.mv HM1.out); have HK1 := Aside0.mk (kinds_new HR.out [3, 4] (by decide) 3); clear hba; (go_at_call 81; refine (row_product HC.out HX.out _ 2 k _ HW1.out HR1.out HL.out HK1.out (Nat.le_refl _) HT.out).mono ?_; rintro e w2 ⟨v2, hm2, T, pv, rfl⟩; have HM2 := Aside0.mk (HM1.out.trans hm2); clear hm2)))
    exact ⟨rfl, v2, HM2.out, T, pv, rfl⟩
  | some s =>
    have hmf : ∀ (fn : Fn) (first cap : Array Value) (w : World), (Instr.makeFunc fn first cap).run Tryd.prog w = .ok (.func fn first cap) w := fun _ _ _ _ => rfl
    clear hC hF hW h hl hr
    go_enter Tryd.func115, Tryd.ntmps115
    go_wp2_with (first | (have hba := (Below.refl w.heap.size w).alloc (Nat.le_refl _) (.cells (List.map (Value.int .i64) [3, 4]).toArray 3); have HM1 := Aside0.mk (Mv.of_below (v := v) (g := g) hba HR.out.base); have HR1 := Aside0.mk (HR.out.below hba); have HW1 := Aside0.mk (HW.out.mv HM1.out); have HK1 := Aside0.mk (kinds_new HR.out [3, 4] (by decide) 3); clear hba; (go_at_call 81; refine (row_product HC.out HX.out _ 2 k _ HW1.out HR1.out HL.out HK1.out (Nat.le_refl _) HT.out).mono ?_; rintro e w2 ⟨v2, hm2, rfl, hr2⟩; have HM2 := Aside0.mk (HM1.out.trans hm2); have HR2 := Aside0.mk hr2; clear hm2 hr2)))
    go_end0
    exact ⟨v2, HM2.out, rfl, HR2.out⟩
theorem top_product {R : Nat → ST → Rz} (hC : Can R 5) (hF : Fine R 5) {b g : Nat} {v : Value} {w : World} {st : ST} (k : Nat) (res : Option ST) (hW : Wr b w) (h : RS b g v w st) (hl : st.2.length + st.1.length ≤ 100000) (hr : rowF (R 5) [5] k st = some res) : Calls Tryd.prog 121 #[.pointer (some ⟨g, 0, none⟩)] w (Post b g v w res) := by
  have HW := Aside0.mk hW
  have HR := Aside0.mk h
  have HL := Aside0.mk hl
  have HC := Aside0.mk hC
  have HX := Aside0.mk hF
  have HT := Aside0.mk hr
  cases res with
  | none =>
    have hmf : ∀ (fn : Fn) (first cap : Array Value) (w : World), (Instr.makeFunc fn first cap).run Tryd.prog w = .ok (.func fn first cap) w := fun _ _ _ _ => rfl
    clear hC hF hW h hl hr
    go_enter Tryd.func121, Tryd.ntmps121
    go_wp2_with (first | (have hba := (Below.refl w.heap.size w).alloc (Nat.le_refl _) (.cells (List.map (Value.int .i64) [5]).toArray 3); have HM1 := Aside0.mk (Mv.of_below (v := v) (g := g) hba HR.out.base); have HR1 := Aside0.mk (HR.out.below hba); have HW1 := Aside0.mk (HW.out.mv HM1.out); have HK1 := Aside0.mk (kinds_new HR.out [5] (by decide) 3); clear hba; (go_at_call 81; refine (row_factor HC.out HX.out _ 1 k _ HW1.out HR1.out HL.out HK1.out (Nat.le_refl _) HT.out).mono ?_; rintro e w2 ⟨v2, hm2, T, pv, rfl⟩; have HM2 := Aside0.mk (HM1.out.trans hm2); clear hm2)))
    exact ⟨rfl, v2, HM2.out, T, pv, rfl⟩
  | some s =>
    have hmf : ∀ (fn : Fn) (first cap : Array Value) (w : World), (Instr.makeFunc fn first cap).run Tryd.prog w = .ok (.func fn first cap) w := fun _ _ _ _ => rfl
    clear hC hF hW h hl hr
    go_enter Tryd.func121, Tryd.ntmps121
    go_wp2_with (first | (have hba := (Below.refl w.heap.size w).alloc (Nat.le_refl _) (.cells (List.map (Value.int .i64) [5]).toArray 3); have HM1 := Aside0.mk (Mv.of_below (v := v) (g := g) hba HR.out.base); have HR1 := Aside0.mk (HR.out.below hba); have HW1 := Aside0.mk (HW.out.mv HM1.out); have HK1 := Aside0.mk (kinds_new HR.out [5] (by decide) 3); clear hba; (go_at_call 81; refine (row_factor HC.out HX.out _ 1 k _ HW1.out HR1.out HL.out HK1.out (Nat.le_refl _) HT.out).mono ?_; rintro e w2 ⟨v2, hm2, rfl, hr2⟩; have HM2 := Aside0.mk (HM1.out.trans hm2); have HR2 := Aside0.mk hr2; clear hm2 hr2)))
    go_end0
    exact ⟨v2, HM2.out, rfl, HR2.out⟩
end Go.Proofs.YtojfdekiponccaaDoor.H
/- guard's reader, second part: factor, one; and the whole. -/
namespace Go.Proofs.YtojfdekiponccaaDoor.H
open Go.RowKit Go.HK Go.Proofs.YtojfdekiponccaaDoorW.PrintWords Go.Proofs.YtojfdekiponccaaDoorW.PrintLast Go.Proofs.YtojfdekiponccaaDoorW.PrintMore
set_option linter.unusedVariables false
set_option linter.unusedSimpArgs false
theorem cell_alloc_keep {w : World} {ad : Addr} {v : Value} (o : Obj) (h : w.cell? ad = some v) : (w.alloc o).cell? ad = some v :=
  (((Below.refl w.heap.size w).alloc (Nat.le_refl _) o).cell (World.block_lt_of_cell? w _ h)).trans h
set_option maxRecDepth 100000 in
theorem factor_operand {b g : Nat} {v : Value} {w : World} {a : S35} {l o : List S35} (hk : a.f0 = 1 ∨ a.f0 = 2) (hW : Wr b w) (h : RS b g v w (a :: l, o)) (hl : o.length < 8796093022208) :
    Calls Tryd.prog 124 #[.pointer (some ⟨g, 0, none⟩)] w (Post b g v w (some (l, o ++ [a]))) := by
  have HW := Aside0.mk hW
  have HR0 := Aside0.mk h
  have HM0 := Aside0.mk (Mv.refl (b := b) (g := g) (v := v) (w := w))
  have HW0 := HW
  have main : ∀ (w3 : World), Mv b g v w v w3 → RS b g v w3 (a :: l, o) → True := fun _ _ _ => trivial
  rcases hk with hk | hk
  · have HS1 := Aside0.mk (show seesF 1 (a :: l, o) = true by simp [seesF, hk])
    have HL := Aside0.mk hl
    clear hW h hl main hk
    go_enter Tryd.func124, Tryd.ntmps124
    go_wp2_with (first | (go_at_call 114; (with_reducible refine (sees_calls 1 _ HR0.out HS1.out).mono ?_); rintro e w1 ⟨rfl, hb⟩; have HM1 := Aside0.mk (HM0.out.trans (Mv.of_below hb HR0.out.base)); have HR1 := Aside0.mk (HR0.out.below hb); have HW1 := Aside0.mk (HW.out.mv HM1.out); clear hb))
    have hr := HR1.out
    have HS := Aside0.mk hr.base
    have HN := Aside0.mk hr.ne
    obtain ⟨A0, c0, h1, h2, h3, h4, h5⟩ := hr
    have hc0 := blk_cell h1 0
    have hc1 : w1.cell? ⟨g, 1, none⟩ = some v := blk_cell h1 1
    have hC0 := h3 w1 (KeepBut.refl _ _ _)
    have HO := Aside0.mk h4
    have H1 := Aside0.mk h1
    obtain ⟨ad, rfl, e0, e1⟩ := at_T35 hC0 0 (by omega) (by simp)
    have e0 : w1.cell? ad = some (.int .i64 a.f0) := by simpa [Addr.add, rd_T35] using e0
    have e1 : w1.cell? ⟨ad.block, ad.off + 1, none⟩ = some (.int .i64 a.f1) := by simpa [Addr.add, rd_T35] using e1
    have hc0 : w1.cell? ⟨g, 0, none⟩ = some (.slice (some ad) (l.length + 1) c0) := hc0
    have hlo := HL.out
    clear h1 h2 h3 h4 h5 hC0
    refine start_ (n := 16) (S := fun w' => w'.cell? ⟨g, 0, none⟩ = some (.slice (some ad) (l.length + 1) c0) ∧ w'.cell? ⟨g, 1, none⟩ = some v ∧ w'.cell? ad = some (.int .i64 a.f0) ∧ w'.cell? ⟨ad.block, ad.off + 1, none⟩ = some (.int .i64 a.f1)) (ds := [12, 15]) #[false, false, false, false, false, false, false, false, false, false, false, false, false, false, false, false] (by kernel_rfl) rfl rfl ⟨hc0, hc1, e0, e1⟩ (fun hHeld => ?_)
    refine pure_ (i := 0) (N := some 13) (v := ?_) (a' := ?_) #[true, false, false, false, false, false, false, false, false, false, false, false, false, false, false, false] rfl rfl (by kernel_rfl) (fun _ _ _ h => h) (Or.inl ⟨by rfl, ?_⟩) ?_ ?_
    rotate_left
    · intro w'
      go_simp
      with_reducible rfl
    rotate_left
    · simp only [Act.put, List.setIfInBounds_toArray, List.set_cons_zero, List.set_cons_succ, i64_w, i32_w]
      rfl
    refine pure_ (i := 1) (N := some 14) (v := ?_) (a' := ?_) #[true, true, false, false, false, false, false, false, false, false, false, false, false, false, false, false] rfl rfl (by kernel_rfl) (fun _ _ _ h => h) (Or.inl ⟨by rfl, ?_⟩) ?_ ?_
    rotate_left
    · intro w'
      go_simp
      with_reducible rfl
    rotate_left
    · simp only [Act.put, List.setIfInBounds_toArray, List.set_cons_zero, List.set_cons_succ, i64_w, i32_w]
      rfl
    refine pure_ (i := 2) (N := some 15) (v := ?_) (a' := ?_) #[true, true, true, false, false, false, false, false, false, false, false, false, false, false, false, false] rfl rfl (by kernel_rfl) (fun _ _ _ h => h) (Or.inl ⟨by rfl, ?_⟩) ?_ ?_
    rotate_left
    · intro w'
      go_simp
      with_reducible rfl
    rotate_left
    · simp only [Act.put, List.setIfInBounds_toArray, List.set_cons_zero, List.set_cons_succ, i64_w, i32_w]
      rfl
    refine pure_ (i := 3) (N := some 16) (v := ?_) (a' := ?_) #[true, true, true, true, false, false, false, false, false, false, false, false, false, false, false, false] rfl rfl (by kernel_rfl) (fun _ _ _ h => h) (Or.inl ⟨by rfl, ?_⟩) ?_ ?_
    rotate_left
    · intro w'
      go_simp
      with_reducible rfl
    rotate_left
    · simp only [Act.put, List.setIfInBounds_toArray, List.set_cons_zero, List.set_cons_succ, i64_w, i32_w]
      rfl
    refine pure_ (i := 5) (N := some 18) (v := ?_) (a' := ?_) #[true, true, true, true, false, true, false, false, false, false, false, false, false, false, false, false] rfl rfl (by kernel_rfl) (fun _ _ _ h => h) (Or.inl ⟨by rfl, ?_⟩) ?_ ?_
    rotate_left
    · intro w'
      go_simp
      with_reducible rfl
    rotate_left
    · simp only [Act.put, List.setIfInBounds_toArray, List.set_cons_zero, List.set_cons_succ, i64_w, i32_w]
      rfl
    refine pure_ (i := 6) (N := some 19) (v := ?_) (a' := ?_) #[true, true, true, true, false, true, true, false, false, false, false, false, false, false, false, false] rfl rfl (by kernel_rfl) (fun _ _ _ h => h) (Or.inl ⟨by rfl, ?_⟩) ?_ ?_
    rotate_left
    · intro w'
      go_simp
      with_reducible rfl
    rotate_left
    · simp only [Act.put, List.setIfInBounds_toArray, List.set_cons_zero, List.set_cons_succ, i64_w, i32_w]
      rfl
    refine pure_ (i := 7) (N := some 20) (v := ?_) (a' := ?_) #[true, true, true, true, false, true, true, true, false, false, false, false, false, false, false, false] rfl rfl (by kernel_rfl) (fun _ _ _ h => h) (Or.inl ⟨by rfl, ?_⟩) ?_ ?_
    rotate_left
    · intro w'
      go_simp
      with_reducible rfl
    rotate_left
    · simp only [Act.put, List.setIfInBounds_toArray, List.set_cons_zero, List.set_cons_succ, i64_w, i32_w]
      rfl
    refine take_ (i := 4) (N := some 17) (v := ?_) (a' := ?_) #[true, true, true, true, true, true, true, true, false, false, false, false, false, false, false, false] rfl rfl (by kernel_rfl) (fun _ _ _ h => h) (Or.inl ⟨by rfl, ?_⟩) hHeld ?_ ?_
    rotate_left
    · rintro w' ⟨s0, s1, s2, s3⟩
      go_simp
      with_reducible rfl
    rotate_left
    · simp only [Act.put, List.setIfInBounds_toArray, List.set_cons_zero, List.set_cons_succ, i64_w, i32_w]
      rfl
    refine take_ (i := 8) (N := some 21) (v := ?_) (a' := ?_) #[true, true, true, true, true, true, true, true, true, false, false, false, false, false, false, false] rfl rfl (by kernel_rfl) (fun _ _ _ h => h) (Or.inl ⟨by rfl, ?_⟩) hHeld ?_ ?_
    rotate_left
    · rintro w' ⟨s0, s1, s2, s3⟩
      go_simp
      with_reducible rfl
    rotate_left
    · simp only [Act.put, List.setIfInBounds_toArray, List.set_cons_zero, List.set_cons_succ, i64_w, i32_w]
      rfl
    refine pure_ (i := 9) (N := some 22) (v := ?_) (a' := ?_) #[true, true, true, true, true, true, true, true, true, true, false, false, false, false, false, false] rfl rfl (by kernel_rfl) (fun _ _ _ h => h) (Or.inl ⟨by rfl, ?_⟩) ?_ ?_
    rotate_left
    · intro w'
      go_simp
      with_reducible rfl
    rotate_left
    · simp only [Act.put, List.setIfInBounds_toArray, List.set_cons_zero, List.set_cons_succ, i64_w, i32_w]
      rfl
    refine take_ (i := 10) (N := some 23) (v := ?_) (a' := ?_) #[true, true, true, true, true, true, true, true, true, true, true, false, false, false, false, false] rfl rfl (by kernel_rfl) (fun _ _ _ h => h) (Or.inl ⟨by rfl, ?_⟩) hHeld ?_ ?_
    rotate_left
    · rintro w' ⟨s0, s1, s2, s3⟩
      go_simp
      with_reducible rfl
    rotate_left
    · simp only [Act.put, List.setIfInBounds_toArray, List.set_cons_zero, List.set_cons_succ, i64_w, i32_w]
      rfl
    refine one_ (i := 11) (N := some 24) #[true, true, true, true, true, true, true, true, true, true, true, true, false, false, false, false] rfl rfl (by kernel_rfl) (by decide) (fun K hK => ?_)
    refine value_ (w1 := ?_) (v := ?_) (by rfl) rfl ?_ ?_
    rotate_left 2
    · go_simp
      constructor
      · rfl
      · rfl
    refine hK.out _ _ ⟨(cell_alloc_keep _ hHeld.1), (cell_alloc_keep _ hHeld.2.1), (cell_alloc_keep _ hHeld.2.2.1), (cell_alloc_keep _ hHeld.2.2.2)⟩ (fun hHeld => ?_)
    clear hK K
    refine norm_ (a' := ?_) ?_ ?_
    rotate_left
    · show Act.put _ (some 24) _ = _
      simp only [Act.put, List.setIfInBounds_toArray, List.set_cons_zero, List.set_cons_succ, i64_w, i32_w]
      rfl
    refine last_ (i := 12) (N := some 25) #[true, true, true, true, true, true, true, true, true, true, true, true, true, false, false, false] rfl rfl (by kernel_rfl) (by decide) (fun K hK => ?_)
    refine Kd.R_append_step k35 (w0 := World.drew w1) (W := World.drew w1) b (by rfl) (.tmp 17) (.tmp 24) 22 35 (.agg #[(.int .i64 0), (.int .i64 0)]) 16 rfl Tryd.underlying22 info35 rfl (by decide) (by omega) v o a [.int .i64 a.f0, .int .i64 a.f1] (fun _ => True) (fun _ => False) rfl rfl ?aP (fun _ hk => hk.elim) ?aF ?aO ?aB ?aS ?aL ?_
    case aP => exact k35_mkM _ _ _ a
    case aF => exact (fun _ _ => trivial)
    case aO => exact Kd.R_drew HO.out
    case aB => exact Below.refl _ _
    case aS => exact HS.out
    case aL => omega
    intro v1 w4 ho hb hg hat
    obtain ⟨A1, c1, e1, _, _⟩ := Kd.R_reads ho
    subst e1
    have hb1 := blk_grown (w := World.drew w1) H1.out hg HN.out
    have hcell : w4.cell? ⟨g, 1, none⟩ = some v := blk_cell hb1 1
    have hfr : w4.frozen? ⟨g, 1, none⟩ = false := blk_frozen hb1 1
    have HO1 := Aside0.mk ho
    have HB1 := Aside0.mk hb
    have HG1 := Aside0.mk hg
    have HA1 := Aside0.mk hat
    have H1b := Aside0.mk hb1
    clear ho hb hg hat hb1
    refine hK.out _ _ ?_
    clear hK K
    refine norm_ (a' := ?_) ?_ ?_
    rotate_left
    · show Act.put _ (some 25) _ = _
      simp only [Act.put, List.setIfInBounds_toArray, List.set_cons_zero, List.set_cons_succ, i64_w, i32_w]
      rfl
    refine pure_ (i := 13) (N := some 26) (v := ?_) (a' := ?_) #[true, true, true, true, true, true, true, true, true, true, true, true, true, true, false, false] rfl rfl (by kernel_rfl) (fun _ _ _ h => h) (Or.inl ⟨by rfl, ?_⟩) ?_ ?_
    rotate_left
    · intro w'
      go_simp
      with_reducible rfl
    rotate_left
    · simp only [Act.put, List.setIfInBounds_toArray, List.set_cons_zero, List.set_cons_succ, i64_w, i32_w]
      rfl
    refine pure_ (i := 14) (N := some 27) (v := ?_) (a' := ?_) #[true, true, true, true, true, true, true, true, true, true, true, true, true, true, true, false] rfl rfl (by kernel_rfl) (fun _ _ _ h => h) (Or.inl ⟨by rfl, ?_⟩) ?_ ?_
    rotate_left
    · intro w'
      go_simp
      with_reducible rfl
    rotate_left
    · simp only [Act.put, List.setIfInBounds_toArray, List.set_cons_zero, List.set_cons_succ, i64_w, i32_w]
      rfl
    refine last_ (i := 15) (N := none) #[true, true, true, true, true, true, true, true, true, true, true, true, true, true, true, true] rfl rfl (by kernel_rfl) (by decide) (fun K hK => ?_)
    refine skip_ (w1 := ?_) (by rfl) rfl ?_ ?_
    rotate_left
    · go_simp
      rfl
    refine hK.out _ _ ?_
    clear hK K
    refine done_ (by kernel_rfl) ?_
    clear hcell hfr hc0 hc1 e0 e1 hHeld
    have hbd : Below w1.heap.size w1 (World.drew w1) := (Below.refl _ _).drew
    obtain ⟨q1, q2⟩ := RS.stored (HR1.out.below hbd) HO1.out HB1.out HG1.out HA1.out
    have q3 := (HM1.out.trans (Mv.of_below (v := v) (g := g) hbd HS.out)).trans q1
    have e : o.length + 1 = (o ++ [a]).length := by simp
    rw [e]
    clear e q1 hbd HO1 HB1 HG1 HA1 H1b H1 HO
    generalize w4.setCell ⟨g, 1, none⟩ (.slice A1 (o ++ [a]).length c1) = w5 at q2 q3 ⊢
    have HM5 := Aside0.mk q3
    have HR5 := Aside0.mk q2
    obtain ⟨A5, c5, h1, h2, h3, h4, h5⟩ := q2
    have hc5 : w5.cell? ⟨g, 0, none⟩ = some (.slice A5 (l.length + 1) c5) := blk_cell h1 0
    have hfr5 := blk_frozen h1 0
    have H15 := Aside0.mk h1
    clear h1 h3 h4 q3
    go_wp2
    all_goals
      go_end0
      obtain ⟨r1, r2⟩ := RS.cut HR5.out H15.out
      have r3 := HM5.out.trans r1
      refine ⟨.slice A1 (o ++ [a]).length c1, ?_, rfl, ?_⟩
      · simpa [h, Addr.add] using r3
      · simpa [h, Addr.add] using r2
  · have HS1 := Aside0.mk (show seesF 1 (a :: l, o) = false by simp [seesF, hk])
    have HS2 := Aside0.mk (show seesF 2 (a :: l, o) = true by simp [seesF, hk])
    have HL := Aside0.mk hl
    clear hW h hl main hk
    go_enter Tryd.func124, Tryd.ntmps124
    go_wp2_with (first | (go_at_call 114; (with_reducible refine (sees_calls 1 _ HR0.out HS1.out).mono ?_); rintro e w1 ⟨rfl, hb⟩; have HM1 := Aside0.mk (HM0.out.trans (Mv.of_below hb HR0.out.base)); have HR1 := Aside0.mk (HR0.out.below hb); have HW1 := Aside0.mk (HW.out.mv HM1.out); clear hb) | (go_at_call 114; (with_reducible refine (sees_calls 2 _ HR1.out HS2.out).mono ?_); rintro e w2 ⟨rfl, hb⟩; have HM2 := Aside0.mk (HM1.out.trans (Mv.of_below hb HR1.out.base)); have HR2 := Aside0.mk (HR1.out.below hb); have HW2 := Aside0.mk (HW.out.mv HM2.out); clear hb))
    have hr := HR2.out
    have HS := Aside0.mk hr.base
    have HN := Aside0.mk hr.ne
    obtain ⟨A0, c0, h1, h2, h3, h4, h5⟩ := hr
    have hc0 := blk_cell h1 0
    have hc1 : w2.cell? ⟨g, 1, none⟩ = some v := blk_cell h1 1
    have hC0 := h3 w2 (KeepBut.refl _ _ _)
    have HO := Aside0.mk h4
    have H1 := Aside0.mk h1
    obtain ⟨ad, rfl, e0, e1⟩ := at_T35 hC0 0 (by omega) (by simp)
    have e0 : w2.cell? ad = some (.int .i64 a.f0) := by simpa [Addr.add, rd_T35] using e0
    have e1 : w2.cell? ⟨ad.block, ad.off + 1, none⟩ = some (.int .i64 a.f1) := by simpa [Addr.add, rd_T35] using e1
    have hc0 : w2.cell? ⟨g, 0, none⟩ = some (.slice (some ad) (l.length + 1) c0) := hc0
    have hlo := HL.out
    clear h1 h2 h3 h4 h5 hC0
    refine start_ (n := 16) (S := fun w' => w'.cell? ⟨g, 0, none⟩ = some (.slice (some ad) (l.length + 1) c0) ∧ w'.cell? ⟨g, 1, none⟩ = some v ∧ w'.cell? ad = some (.int .i64 a.f0) ∧ w'.cell? ⟨ad.block, ad.off + 1, none⟩ = some (.int .i64 a.f1)) (ds := [12, 15]) #[false, false, false, false, false, false, false, false, false, false, false, false, false, false, false, false] (by kernel_rfl) rfl rfl ⟨hc0, hc1, e0, e1⟩ (fun hHeld => ?_)
    refine pure_ (i := 0) (N := some 13) (v := ?_) (a' := ?_) #[true, false, false, false, false, false, false, false, false, false, false, false, false, false, false, false] rfl rfl (by kernel_rfl) (fun _ _ _ h => h) (Or.inl ⟨by rfl, ?_⟩) ?_ ?_
    rotate_left
    · intro w'
      go_simp
      with_reducible rfl
    rotate_left
    · simp only [Act.put, List.setIfInBounds_toArray, List.set_cons_zero, List.set_cons_succ, i64_w, i32_w]
      rfl
    refine pure_ (i := 1) (N := some 14) (v := ?_) (a' := ?_) #[true, true, false, false, false, false, false, false, false, false, false, false, false, false, false, false] rfl rfl (by kernel_rfl) (fun _ _ _ h => h) (Or.inl ⟨by rfl, ?_⟩) ?_ ?_
    rotate_left
    · intro w'
      go_simp
      with_reducible rfl
    rotate_left
    · simp only [Act.put, List.setIfInBounds_toArray, List.set_cons_zero, List.set_cons_succ, i64_w, i32_w]
      rfl
    refine pure_ (i := 2) (N := some 15) (v := ?_) (a' := ?_) #[true, true, true, false, false, false, false, false, false, false, false, false, false, false, false, false] rfl rfl (by kernel_rfl) (fun _ _ _ h => h) (Or.inl ⟨by rfl, ?_⟩) ?_ ?_
    rotate_left
    · intro w'
      go_simp
      with_reducible rfl
    rotate_left
    · simp only [Act.put, List.setIfInBounds_toArray, List.set_cons_zero, List.set_cons_succ, i64_w, i32_w]
      rfl
    refine pure_ (i := 3) (N := some 16) (v := ?_) (a' := ?_) #[true, true, true, true, false, false, false, false, false, false, false, false, false, false, false, false] rfl rfl (by kernel_rfl) (fun _ _ _ h => h) (Or.inl ⟨by rfl, ?_⟩) ?_ ?_
    rotate_left
    · intro w'
      go_simp
      with_reducible rfl
    rotate_left
    · simp only [Act.put, List.setIfInBounds_toArray, List.set_cons_zero, List.set_cons_succ, i64_w, i32_w]
      rfl
    refine pure_ (i := 5) (N := some 18) (v := ?_) (a' := ?_) #[true, true, true, true, false, true, false, false, false, false, false, false, false, false, false, false] rfl rfl (by kernel_rfl) (fun _ _ _ h => h) (Or.inl ⟨by rfl, ?_⟩) ?_ ?_
    rotate_left
    · intro w'
      go_simp
      with_reducible rfl
    rotate_left
    · simp only [Act.put, List.setIfInBounds_toArray, List.set_cons_zero, List.set_cons_succ, i64_w, i32_w]
      rfl
    refine pure_ (i := 6) (N := some 19) (v := ?_) (a' := ?_) #[true, true, true, true, false, true, true, false, false, false, false, false, false, false, false, false] rfl rfl (by kernel_rfl) (fun _ _ _ h => h) (Or.inl ⟨by rfl, ?_⟩) ?_ ?_
    rotate_left
    · intro w'
      go_simp
      with_reducible rfl
    rotate_left
    · simp only [Act.put, List.setIfInBounds_toArray, List.set_cons_zero, List.set_cons_succ, i64_w, i32_w]
      rfl
    refine pure_ (i := 7) (N := some 20) (v := ?_) (a' := ?_) #[true, true, true, true, false, true, true, true, false, false, false, false, false, false, false, false] rfl rfl (by kernel_rfl) (fun _ _ _ h => h) (Or.inl ⟨by rfl, ?_⟩) ?_ ?_
    rotate_left
    · intro w'
      go_simp
      with_reducible rfl
    rotate_left
    · simp only [Act.put, List.setIfInBounds_toArray, List.set_cons_zero, List.set_cons_succ, i64_w, i32_w]
      rfl
    refine take_ (i := 4) (N := some 17) (v := ?_) (a' := ?_) #[true, true, true, true, true, true, true, true, false, false, false, false, false, false, false, false] rfl rfl (by kernel_rfl) (fun _ _ _ h => h) (Or.inl ⟨by rfl, ?_⟩) hHeld ?_ ?_
    rotate_left
    · rintro w' ⟨s0, s1, s2, s3⟩
      go_simp
      with_reducible rfl
    rotate_left
    · simp only [Act.put, List.setIfInBounds_toArray, List.set_cons_zero, List.set_cons_succ, i64_w, i32_w]
      rfl
    refine take_ (i := 8) (N := some 21) (v := ?_) (a' := ?_) #[true, true, true, true, true, true, true, true, true, false, false, false, false, false, false, false] rfl rfl (by kernel_rfl) (fun _ _ _ h => h) (Or.inl ⟨by rfl, ?_⟩) hHeld ?_ ?_
    rotate_left
    · rintro w' ⟨s0, s1, s2, s3⟩
      go_simp
      with_reducible rfl
    rotate_left
    · simp only [Act.put, List.setIfInBounds_toArray, List.set_cons_zero, List.set_cons_succ, i64_w, i32_w]
      rfl
    refine pure_ (i := 9) (N := some 22) (v := ?_) (a' := ?_) #[true, true, true, true, true, true, true, true, true, true, false, false, false, false, false, false] rfl rfl (by kernel_rfl) (fun _ _ _ h => h) (Or.inl ⟨by rfl, ?_⟩) ?_ ?_
    rotate_left
    · intro w'
      go_simp
      with_reducible rfl
    rotate_left
    · simp only [Act.put, List.setIfInBounds_toArray, List.set_cons_zero, List.set_cons_succ, i64_w, i32_w]
      rfl
    refine take_ (i := 10) (N := some 23) (v := ?_) (a' := ?_) #[true, true, true, true, true, true, true, true, true, true, true, false, false, false, false, false] rfl rfl (by kernel_rfl) (fun _ _ _ h => h) (Or.inl ⟨by rfl, ?_⟩) hHeld ?_ ?_
    rotate_left
    · rintro w' ⟨s0, s1, s2, s3⟩
      go_simp
      with_reducible rfl
    rotate_left
    · simp only [Act.put, List.setIfInBounds_toArray, List.set_cons_zero, List.set_cons_succ, i64_w, i32_w]
      rfl
    refine one_ (i := 11) (N := some 24) #[true, true, true, true, true, true, true, true, true, true, true, true, false, false, false, false] rfl rfl (by kernel_rfl) (by decide) (fun K hK => ?_)
    refine value_ (w1 := ?_) (v := ?_) (by rfl) rfl ?_ ?_
    rotate_left 2
    · go_simp
      constructor
      · rfl
      · rfl
    refine hK.out _ _ ⟨(cell_alloc_keep _ hHeld.1), (cell_alloc_keep _ hHeld.2.1), (cell_alloc_keep _ hHeld.2.2.1), (cell_alloc_keep _ hHeld.2.2.2)⟩ (fun hHeld => ?_)
    clear hK K
    refine norm_ (a' := ?_) ?_ ?_
    rotate_left
    · show Act.put _ (some 24) _ = _
      simp only [Act.put, List.setIfInBounds_toArray, List.set_cons_zero, List.set_cons_succ, i64_w, i32_w]
      rfl
    refine last_ (i := 12) (N := some 25) #[true, true, true, true, true, true, true, true, true, true, true, true, true, false, false, false] rfl rfl (by kernel_rfl) (by decide) (fun K hK => ?_)
    refine Kd.R_append_step k35 (w0 := World.drew w2) (W := World.drew w2) b (by rfl) (.tmp 17) (.tmp 24) 22 35 (.agg #[(.int .i64 0), (.int .i64 0)]) 16 rfl Tryd.underlying22 info35 rfl (by decide) (by omega) v o a [.int .i64 a.f0, .int .i64 a.f1] (fun _ => True) (fun _ => False) rfl rfl ?aP (fun _ hk => hk.elim) ?aF ?aO ?aB ?aS ?aL ?_
    case aP => exact k35_mkM _ _ _ a
    case aF => exact (fun _ _ => trivial)
    case aO => exact Kd.R_drew HO.out
    case aB => exact Below.refl _ _
    case aS => exact HS.out
    case aL => omega
    intro v1 w4 ho hb hg hat
    obtain ⟨A1, c1, e1, _, _⟩ := Kd.R_reads ho
    subst e1
    have hb1 := blk_grown (w := World.drew w2) H1.out hg HN.out
    have hcell : w4.cell? ⟨g, 1, none⟩ = some v := blk_cell hb1 1
    have hfr : w4.frozen? ⟨g, 1, none⟩ = false := blk_frozen hb1 1
    have HO1 := Aside0.mk ho
    have HB1 := Aside0.mk hb
    have HG1 := Aside0.mk hg
    have HA1 := Aside0.mk hat
    have H1b := Aside0.mk hb1
    clear ho hb hg hat hb1
    refine hK.out _ _ ?_
    clear hK K
    refine norm_ (a' := ?_) ?_ ?_
    rotate_left
    · show Act.put _ (some 25) _ = _
      simp only [Act.put, List.setIfInBounds_toArray, List.set_cons_zero, List.set_cons_succ, i64_w, i32_w]
      rfl
    refine pure_ (i := 13) (N := some 26) (v := ?_) (a' := ?_) #[true, true, true, true, true, true, true, true, true, true, true, true, true, true, false, false] rfl rfl (by kernel_rfl) (fun _ _ _ h => h) (Or.inl ⟨by rfl, ?_⟩) ?_ ?_
    rotate_left
    · intro w'
      go_simp
      with_reducible rfl
    rotate_left
    · simp only [Act.put, List.setIfInBounds_toArray, List.set_cons_zero, List.set_cons_succ, i64_w, i32_w]
      rfl
    refine pure_ (i := 14) (N := some 27) (v := ?_) (a' := ?_) #[true, true, true, true, true, true, true, true, true, true, true, true, true, true, true, false] rfl rfl (by kernel_rfl) (fun _ _ _ h => h) (Or.inl ⟨by rfl, ?_⟩) ?_ ?_
    rotate_left
    · intro w'
      go_simp
      with_reducible rfl
    rotate_left
    · simp only [Act.put, List.setIfInBounds_toArray, List.set_cons_zero, List.set_cons_succ, i64_w, i32_w]
      rfl
    refine last_ (i := 15) (N := none) #[true, true, true, true, true, true, true, true, true, true, true, true, true, true, true, true] rfl rfl (by kernel_rfl) (by decide) (fun K hK => ?_)
    refine skip_ (w1 := ?_) (by rfl) rfl ?_ ?_
    rotate_left
    · go_simp
      rfl
    refine hK.out _ _ ?_
    clear hK K
    refine done_ (by kernel_rfl) ?_
    clear hcell hfr hc0 hc1 e0 e1 hHeld
    have hbd : Below w2.heap.size w2 (World.drew w2) := (Below.refl _ _).drew
    obtain ⟨q1, q2⟩ := RS.stored (HR2.out.below hbd) HO1.out HB1.out HG1.out HA1.out
    have q3 := (HM2.out.trans (Mv.of_below (v := v) (g := g) hbd HS.out)).trans q1
    have e : o.length + 1 = (o ++ [a]).length := by simp
    rw [e]
    clear e q1 hbd HO1 HB1 HG1 HA1 H1b H1 HO
    generalize w4.setCell ⟨g, 1, none⟩ (.slice A1 (o ++ [a]).length c1) = w5 at q2 q3 ⊢
    have HM5 := Aside0.mk q3
    have HR5 := Aside0.mk q2
    obtain ⟨A5, c5, h1, h2, h3, h4, h5⟩ := q2
    have hc5 : w5.cell? ⟨g, 0, none⟩ = some (.slice A5 (l.length + 1) c5) := blk_cell h1 0
    have hfr5 := blk_frozen h1 0
    have H15 := Aside0.mk h1
    clear h1 h3 h4 q3
    go_wp2
    all_goals
      go_end0
      obtain ⟨r1, r2⟩ := RS.cut HR5.out H15.out
      have r3 := HM5.out.trans r1
      refine ⟨.slice A1 (o ++ [a]).length c1, ?_, rfl, ?_⟩
      · simpa [h, Addr.add] using r3
      · simpa [h, Addr.add] using r2
set_option maxRecDepth 100000 in
theorem factor_calls {R : Nat → ST → Rz} (h5 : Can R 5) (h3 : Can R 3) (f5 : Fine R 5) (f3 : Fine R 3) {b g : Nat} {v : Value} {w : World} {st : ST} (k : Nat) (res : Option ST) (hW : Wr b w) (h : RS b g v w st) (hl : st.2.length + st.1.length ≤ 100000) (hr : stepF R k 5 st = some res) :
    Calls Tryd.prog 124 #[.pointer (some ⟨g, 0, none⟩)] w (Post b g v w res) := by
  have HW := Aside0.mk hW
  have HR0 := Aside0.mk h
  have HM0 := Aside0.mk (Mv.refl (b := b) (g := g) (v := v) (w := w))
  have HW0 := HW
  have H5 := Aside0.mk h5
  have H3 := Aside0.mk h3
  obtain ⟨l, o⟩ := st
  cases l with
  | nil =>
    obtain rfl := Option.some.inj (show some none = some res from hr)
    have HS1 := Aside0.mk (show seesF 1 (([], o) : ST) = false from rfl)
    have HS2 := Aside0.mk (show seesF 2 (([], o) : ST) = false from rfl)
    have HS4 := Aside0.mk (show seesF 4 (([], o) : ST) = false from rfl)
    have HT17 := Aside0.mk (show takeF 17 (([], o) : ST) = some none from rfl)
    clear hW h hl hr h5 h3 f5 f3
    go_enter Tryd.func124, Tryd.ntmps124
    go_wp2_with (first | (go_at_call 114; (with_reducible refine (sees_calls 1 _ HR0.out HS1.out).mono ?_); rintro e w1 ⟨rfl, hb⟩; have HM1 := Aside0.mk (HM0.out.trans (Mv.of_below hb HR0.out.base)); have HR1 := Aside0.mk (HR0.out.below hb); have HW1 := Aside0.mk (HW.out.mv HM1.out); clear hb) | (go_at_call 114; (with_reducible refine (sees_calls 2 _ HR1.out HS2.out).mono ?_); rintro e w2 ⟨rfl, hb⟩; have HM2 := Aside0.mk (HM1.out.trans (Mv.of_below hb HR1.out.base)); have HR2 := Aside0.mk (HR1.out.below hb); have HW2 := Aside0.mk (HW.out.mv HM2.out); clear hb) | (go_at_call 114; (with_reducible refine (sees_calls 4 _ HR2.out HS4.out).mono ?_); rintro e w3 ⟨rfl, hb⟩; have HM3 := Aside0.mk (HM2.out.trans (Mv.of_below hb HR2.out.base)); have HR3 := Aside0.mk (HR2.out.below hb); have HW3 := Aside0.mk (HW.out.mv HM3.out); clear hb) | (go_at_call 98; (with_reducible refine (take_calls 17 HR3.out HW3.out none HT17.out).mono ?_); rintro e w4 ⟨v4, hm_, T, pv, rfl⟩; have HM4 := Aside0.mk (HM3.out.trans hm_); clear hm_))
    exact ⟨rfl, _, HM4.out, T, pv, rfl⟩
  | cons a l =>
    simp only [List.length_cons] at hl
    have hr : (if a.f0 = 1 ∨ a.f0 = 2 then some (some (l, o ++ [a])) else if a.f0 = 4 then bnd (R 5 (l, o)) (putF 19) else if a.f0 = 17 then bnd (R 3 (l, o)) (takeF 18) else some none) = some res := hr
    by_cases k1 : a.f0 = 1 ∨ a.f0 = 2
    · rw [if_pos k1] at hr
      obtain rfl := Option.some.inj hr
      exact factor_operand k1 hW h (by omega)
    · rw [if_neg k1] at hr
      have HS1 := Aside0.mk (show seesF 1 (a :: l, o) = false by simp [seesF]; omega)
      have HS2 := Aside0.mk (show seesF 2 (a :: l, o) = false by simp [seesF]; omega)
      have HL := Aside0.mk (show o.length + l.length ≤ 100000 by omega)
      clear k1
      by_cases k4 : a.f0 = 4
      · rw [if_pos k4] at hr
        have HS4 := Aside0.mk (show seesF 4 (a :: l, o) = true by simp [seesF, k4])
        have HT4 := Aside0.mk (show takeF 4 (a :: l, o) = some (some (l, o)) by simp [takeF, seesF, k4])
        clear k4
        cases ht : R 5 (l, o) with
        | none => rw [ht] at hr; cases hr
        | some r1 =>
          have HT := Aside0.mk ht
          rw [ht] at hr
          cases r1 with
          | none =>
            obtain rfl := Option.some.inj (show some none = some res from hr)
            clear hW h hl hr h5 h3 f5 f3 ht
            go_enter Tryd.func124, Tryd.ntmps124
            go_wp2_with (first | (go_at_call 114; (with_reducible refine (sees_calls 1 _ HR0.out HS1.out).mono ?_); rintro e w1 ⟨rfl, hb⟩; have HM1 := Aside0.mk (HM0.out.trans (Mv.of_below hb HR0.out.base)); have HR1 := Aside0.mk (HR0.out.below hb); have HW1 := Aside0.mk (HW.out.mv HM1.out); clear hb) | (go_at_call 114; (with_reducible refine (sees_calls 2 _ HR1.out HS2.out).mono ?_); rintro e w2 ⟨rfl, hb⟩; have HM2 := Aside0.mk (HM1.out.trans (Mv.of_below hb HR1.out.base)); have HR2 := Aside0.mk (HR1.out.below hb); have HW2 := Aside0.mk (HW.out.mv HM2.out); clear hb) | (go_at_call 114; (with_reducible refine (sees_calls 4 _ HR2.out HS4.out).mono ?_); rintro e w3 ⟨rfl, hb⟩; have HM3 := Aside0.mk (HM2.out.trans (Mv.of_below hb HR2.out.base)); have HR3 := Aside0.mk (HR2.out.below hb); have HW3 := Aside0.mk (HW.out.mv HM3.out); clear hb) | (go_at_call 98; (with_reducible refine (take_calls 4 HR3.out HW3.out (some (l, o)) HT4.out).mono ?_); rintro e w4 ⟨v4, hm_, rfl, hr_⟩; have HM4 := Aside0.mk (HM3.out.trans hm_); have HR4 := Aside0.mk hr_; have HW4 := Aside0.mk (HW.out.mv HM4.out); clear hm_ hr_) | (go_at_call 124; refine (H5.out _ _ _ _ _ _ HW4.out HR4.out HL.out HT.out).mono ?_; rintro e w5 ⟨v5, hm_, T, pv, rfl⟩; have HM5 := Aside0.mk (HM4.out.trans hm_); clear hm_))
            exact ⟨rfl, _, HM5.out, T, pv, rfl⟩
          | some s1 =>
            obtain rfl := Option.some.inj (show some (some (s1.1, s1.2 ++ [(⟨19, 0⟩ : S35)])) = some res from hr)
            have hf := f5 _ _ ht
            have HLp := Aside0.mk (show s1.2.length < 8796093022208 by dsimp only at hf; omega)
            clear hW h hl hr h5 h3 f5 f3 ht hf
            go_enter Tryd.func124, Tryd.ntmps124
            go_wp2_with (first | (go_at_call 114; (with_reducible refine (sees_calls 1 _ HR0.out HS1.out).mono ?_); rintro e w1 ⟨rfl, hb⟩; have HM1 := Aside0.mk (HM0.out.trans (Mv.of_below hb HR0.out.base)); have HR1 := Aside0.mk (HR0.out.below hb); have HW1 := Aside0.mk (HW.out.mv HM1.out); clear hb) | (go_at_call 114; (with_reducible refine (sees_calls 2 _ HR1.out HS2.out).mono ?_); rintro e w2 ⟨rfl, hb⟩; have HM2 := Aside0.mk (HM1.out.trans (Mv.of_below hb HR1.out.base)); have HR2 := Aside0.mk (HR1.out.below hb); have HW2 := Aside0.mk (HW.out.mv HM2.out); clear hb) | (go_at_call 114; (with_reducible refine (sees_calls 4 _ HR2.out HS4.out).mono ?_); rintro e w3 ⟨rfl, hb⟩; have HM3 := Aside0.mk (HM2.out.trans (Mv.of_below hb HR2.out.base)); have HR3 := Aside0.mk (HR2.out.below hb); have HW3 := Aside0.mk (HW.out.mv HM3.out); clear hb) | (go_at_call 98; (with_reducible refine (take_calls 4 HR3.out HW3.out (some (l, o)) HT4.out).mono ?_); rintro e w4 ⟨v4, hm_, rfl, hr_⟩; have HM4 := Aside0.mk (HM3.out.trans hm_); have HR4 := Aside0.mk hr_; have HW4 := Aside0.mk (HW.out.mv HM4.out); clear hm_ hr_) | (go_at_call 124; refine (H5.out _ _ _ _ _ _ HW4.out HR4.out HL.out HT.out).mono ?_; rintro e w5 ⟨v5, hm_, rfl, hr_⟩; have HM5 := Aside0.mk (HM4.out.trans hm_); have HR5 := Aside0.mk hr_; have HW5 := Aside0.mk (HW.out.mv HM5.out); clear hm_ hr_) | (go_at_call 99; (with_reducible refine (put_calls 19 HR5.out HLp.out).mono ?_); rintro e w6 ⟨v6, hm_, rfl, hr_⟩; have HM6 := Aside0.mk (HM5.out.trans hm_); have HR6 := Aside0.mk hr_; have HW6 := Aside0.mk (HW.out.mv HM6.out); clear hm_ hr_))
            go_end0
            exact ⟨_, HM6.out, rfl, HR6.out⟩
      · rw [if_neg k4] at hr
        have HS4 := Aside0.mk (show seesF 4 (a :: l, o) = false by simp [seesF]; omega)
        clear k4
        by_cases k17 : a.f0 = 17
        · rw [if_pos k17] at hr
          have HT17 := Aside0.mk (show takeF 17 (a :: l, o) = some (some (l, o)) by simp [takeF, seesF, k17])
          clear k17
          cases ht : R 3 (l, o) with
          | none => rw [ht] at hr; cases hr
          | some r1 =>
            have HT := Aside0.mk ht
            rw [ht] at hr
            cases r1 with
            | none =>
              obtain rfl := Option.some.inj (show some none = some res from hr)
              clear hW h hl hr h5 h3 f5 f3 ht
              go_enter Tryd.func124, Tryd.ntmps124
              go_wp2_with (first | (go_at_call 114; (with_reducible refine (sees_calls 1 _ HR0.out HS1.out).mono ?_); rintro e w1 ⟨rfl, hb⟩; have HM1 := Aside0.mk (HM0.out.trans (Mv.of_below hb HR0.out.base)); have HR1 := Aside0.mk (HR0.out.below hb); have HW1 := Aside0.mk (HW.out.mv HM1.out); clear hb) | (go_at_call 114; (with_reducible refine (sees_calls 2 _ HR1.out HS2.out).mono ?_); rintro e w2 ⟨rfl, hb⟩; have HM2 := Aside0.mk (HM1.out.trans (Mv.of_below hb HR1.out.base)); have HR2 := Aside0.mk (HR1.out.below hb); have HW2 := Aside0.mk (HW.out.mv HM2.out); clear hb) | (go_at_call 114; (with_reducible refine (sees_calls 4 _ HR2.out HS4.out).mono ?_); rintro e w3 ⟨rfl, hb⟩; have HM3 := Aside0.mk (HM2.out.trans (Mv.of_below hb HR2.out.base)); have HR3 := Aside0.mk (HR2.out.below hb); have HW3 := Aside0.mk (HW.out.mv HM3.out); clear hb) | (go_at_call 98; (with_reducible refine (take_calls 17 HR3.out HW3.out (some (l, o)) HT17.out).mono ?_); rintro e w4 ⟨v4, hm_, rfl, hr_⟩; have HM4 := Aside0.mk (HM3.out.trans hm_); have HR4 := Aside0.mk hr_; have HW4 := Aside0.mk (HW.out.mv HM4.out); clear hm_ hr_) | (go_at_call 115; refine (H3.out _ _ _ _ _ _ HW4.out HR4.out HL.out HT.out).mono ?_; rintro e w5 ⟨v5, hm_, T, pv, rfl⟩; have HM5 := Aside0.mk (HM4.out.trans hm_); clear hm_))
              exact ⟨rfl, _, HM5.out, T, pv, rfl⟩
            | some s1 =>
              have hr : takeF 18 s1 = some res := hr
              cases res with
              | none =>
                have HT18 := Aside0.mk hr
                clear hW h hl hr h5 h3 f5 f3 ht
                go_enter Tryd.func124, Tryd.ntmps124
                go_wp2_with (first | (go_at_call 114; (with_reducible refine (sees_calls 1 _ HR0.out HS1.out).mono ?_); rintro e w1 ⟨rfl, hb⟩; have HM1 := Aside0.mk (HM0.out.trans (Mv.of_below hb HR0.out.base)); have HR1 := Aside0.mk (HR0.out.below hb); have HW1 := Aside0.mk (HW.out.mv HM1.out); clear hb) | (go_at_call 114; (with_reducible refine (sees_calls 2 _ HR1.out HS2.out).mono ?_); rintro e w2 ⟨rfl, hb⟩; have HM2 := Aside0.mk (HM1.out.trans (Mv.of_below hb HR1.out.base)); have HR2 := Aside0.mk (HR1.out.below hb); have HW2 := Aside0.mk (HW.out.mv HM2.out); clear hb) | (go_at_call 114; (with_reducible refine (sees_calls 4 _ HR2.out HS4.out).mono ?_); rintro e w3 ⟨rfl, hb⟩; have HM3 := Aside0.mk (HM2.out.trans (Mv.of_below hb HR2.out.base)); have HR3 := Aside0.mk (HR2.out.below hb); have HW3 := Aside0.mk (HW.out.mv HM3.out); clear hb) | (go_at_call 98; (with_reducible refine (take_calls 17 HR3.out HW3.out (some (l, o)) HT17.out).mono ?_); rintro e w4 ⟨v4, hm_, rfl, hr_⟩; have HM4 := Aside0.mk (HM3.out.trans hm_); have HR4 := Aside0.mk hr_; have HW4 := Aside0.mk (HW.out.mv HM4.out); clear hm_ hr_) | (go_at_call 115; refine (H3.out _ _ _ _ _ _ HW4.out HR4.out HL.out HT.out).mono ?_; rintro e w5 ⟨v5, hm_, rfl, hr_⟩; have HM5 := Aside0.mk (HM4.out.trans hm_); have HR5 := Aside0.mk hr_; have HW5 := Aside0.mk (HW.out.mv HM5.out); clear hm_ hr_) | (go_at_call 98; (with_reducible refine (take_calls 18 HR5.out HW5.out none HT18.out).mono ?_); rintro e w6 ⟨v6, hm_, T, pv, rfl⟩; have HM6 := Aside0.mk (HM5.out.trans hm_); clear hm_))
                exact ⟨rfl, _, HM6.out, T, pv, rfl⟩
              | some s2 =>
                have HT18 := Aside0.mk hr
                clear hW h hl hr h5 h3 f5 f3 ht
                go_enter Tryd.func124, Tryd.ntmps124
                go_wp2_with (first | (go_at_call 114; (with_reducible refine (sees_calls 1 _ HR0.out HS1.out).mono ?_); rintro e w1 ⟨rfl, hb⟩; have HM1 := Aside0.mk (HM0.out.trans (Mv.of_below hb HR0.out.base)); have HR1 := Aside0.mk (HR0.out.below hb); have HW1 := Aside0.mk (HW.out.mv HM1.out); clear hb) | (go_at_call 114; (with_reducible refine (sees_calls 2 _ HR1.out HS2.out).mono ?_); rintro e w2 ⟨rfl, hb⟩; have HM2 := Aside0.mk (HM1.out.trans (Mv.of_below hb HR1.out.base)); have HR2 := Aside0.mk (HR1.out.below hb); have HW2 := Aside0.mk (HW.out.mv HM2.out); clear hb) | (go_at_call 114; (with_reducible refine (sees_calls 4 _ HR2.out HS4.out).mono ?_); rintro e w3 ⟨rfl, hb⟩; have HM3 := Aside0.mk (HM2.out.trans (Mv.of_below hb HR2.out.base)); have HR3 := Aside0.mk (HR2.out.below hb); have HW3 := Aside0.mk (HW.out.mv HM3.out); clear hb) | (go_at_call 98; (with_reducible refine (take_calls 17 HR3.out HW3.out (some (l, o)) HT17.out).mono ?_); rintro e w4 ⟨v4, hm_, rfl, hr_⟩; have HM4 := Aside0.mk (HM3.out.trans hm_); have HR4 := Aside0.mk hr_; have HW4 := Aside0.mk (HW.out.mv HM4.out); clear hm_ hr_) | (go_at_call 115; refine (H3.out _ _ _ _ _ _ HW4.out HR4.out HL.out HT.out).mono ?_; rintro e w5 ⟨v5, hm_, rfl, hr_⟩; have HM5 := Aside0.mk (HM4.out.trans hm_); have HR5 := Aside0.mk hr_; have HW5 := Aside0.mk (HW.out.mv HM5.out); clear hm_ hr_) | (go_at_call 98; (with_reducible refine (take_calls 18 HR5.out HW5.out (some s2) HT18.out).mono ?_); rintro e w6 ⟨v6, hm_, rfl, hr_⟩; have HM6 := Aside0.mk (HM5.out.trans hm_); have HR6 := Aside0.mk hr_; have HW6 := Aside0.mk (HW.out.mv HM6.out); clear hm_ hr_))
                go_end0
                exact ⟨_, HM6.out, rfl, HR6.out⟩
        · rw [if_neg k17] at hr
          have HT17 := Aside0.mk (show takeF 17 (a :: l, o) = some none by simp [takeF, seesF, k17])
          obtain rfl := Option.some.inj hr
          clear hW h hl hr h5 h3 f5 f3 k17
          go_enter Tryd.func124, Tryd.ntmps124
          go_wp2_with (first | (go_at_call 114; (with_reducible refine (sees_calls 1 _ HR0.out HS1.out).mono ?_); rintro e w1 ⟨rfl, hb⟩; have HM1 := Aside0.mk (HM0.out.trans (Mv.of_below hb HR0.out.base)); have HR1 := Aside0.mk (HR0.out.below hb); have HW1 := Aside0.mk (HW.out.mv HM1.out); clear hb) | (go_at_call 114; (with_reducible refine (sees_calls 2 _ HR1.out HS2.out).mono ?_); rintro e w2 ⟨rfl, hb⟩; have HM2 := Aside0.mk (HM1.out.trans (Mv.of_below hb HR1.out.base)); have HR2 := Aside0.mk (HR1.out.below hb); have HW2 := Aside0.mk (HW.out.mv HM2.out); clear hb) | (go_at_call 114; (with_reducible refine (sees_calls 4 _ HR2.out HS4.out).mono ?_); rintro e w3 ⟨rfl, hb⟩; have HM3 := Aside0.mk (HM2.out.trans (Mv.of_below hb HR2.out.base)); have HR3 := Aside0.mk (HR2.out.below hb); have HW3 := Aside0.mk (HW.out.mv HM3.out); clear hb) | (go_at_call 98; (with_reducible refine (take_calls 17 HR3.out HW3.out none HT17.out).mono ?_); rintro e w4 ⟨v4, hm_, T, pv, rfl⟩; have HM4 := Aside0.mk (HM3.out.trans hm_); clear hm_))
          exact ⟨rfl, _, HM4.out, T, pv, rfl⟩
theorem RS.head {b g : Nat} {v : Value} {w : World} {a : S35} {l o : List S35} (h : RS b g v w (a :: l, o)) : ∃ ad c, w.cell? ⟨g, 0, none⟩ = some (.slice (some ad) (l.length + 1) c) ∧ w.cell? ad = some (.int .i64 a.f0) := by
  obtain ⟨A0, c0, h1, h2, h3, h4, h5⟩ := h
  have hC0 := h3 w (KeepBut.refl _ _ _)
  obtain ⟨ad, rfl, e0, e1⟩ := at_T35 hC0 0 (by omega) (by simp)
  exact ⟨ad, c0, blk_cell h1 0, by simpa [Addr.add, rd_T35] using e0⟩
theorem cmpF (x : Int) {r : Bool} (h : decide (6 ≤ x ∧ x ≤ 11) = r) : guard_compares.f x = some r := by
  subst h
  unfold guard_compares.f
  by_cases h : x ≥ 6
  · rw [if_pos h]; congr 1; rw [decide_eq_decide]; omega
  · rw [if_neg h]; congr 1; symm; rw [decide_eq_false_iff_not]; omega
set_option maxRecDepth 100000 in
theorem one_calls {R : Nat → ST → Rz} (h2 : Can R 2) (h0 : Can R 0) (h3 : Can R 3) (f2 : Fine R 2) (f0 : Fine R 0) (f3 : Fine R 3) {b g : Nat} {v : Value} {w : World} {st : ST} (k : Nat) (res : Option ST) (hW : Wr b w) (h : RS b g v w st) (hl : st.2.length + st.1.length ≤ 100000) (hr : stepF R k 2 st = some res) :
    Calls Tryd.prog 100 #[.pointer (some ⟨g, 0, none⟩)] w (Post b g v w res) := by
  have HW := Aside0.mk hW
  have HR0 := Aside0.mk h
  have HM0 := Aside0.mk (Mv.refl (b := b) (g := g) (v := v) (w := w))
  have HW0 := HW
  have H2 := Aside0.mk h2
  have H0 := Aside0.mk h0
  have H3 := Aside0.mk h3
  have hr : (if seesF 14 st = true then bnd (R 2 (st.1.tail, st.2)) (putF 14)
      else if seesF 15 st = true then bnd (R 0 (st.1.tail, st.2)) (takeF 16)
      else bnd (R 3 st) fun s => match s.1 with
        | [] => some none
        | a :: r => if decide (6 ≤ a.f0 ∧ a.f0 ≤ 11) = true then bnd (R 3 (r, s.2)) (putF a.f0) else some none) = some res := hr
  cases k14 : seesF 14 st
  · rw [if_neg (by rw [k14]; decide)] at hr
    have HS14 := Aside0.mk k14
    cases k15 : seesF 15 st
    · rw [if_neg (by rw [k15]; decide)] at hr
      have HS15 := Aside0.mk k15
      have HL := Aside0.mk hl
      cases ht : R 3 st with
      | none => rw [ht] at hr; cases hr
      | some r1 =>
        have HT := Aside0.mk ht
        rw [ht] at hr
        cases r1 with
        | none =>
          obtain rfl := Option.some.inj (show some none = some res from hr)
          clear hW h hl hr h2 h0 h3 f2 f0 f3 ht k14 k15
          go_enter Tryd.func100, Tryd.ntmps100
          go_wp2_with (first | (go_at_call 114; (with_reducible refine (sees_calls 14 _ HR0.out HS14.out).mono ?_); rintro e w1 ⟨rfl, hb⟩; have HM1 := Aside0.mk (HM0.out.trans (Mv.of_below hb HR0.out.base)); have HR1 := Aside0.mk (HR0.out.below hb); have HW1 := Aside0.mk (HW.out.mv HM1.out); clear hb) | (go_at_call 114; (with_reducible refine (sees_calls 15 _ HR1.out HS15.out).mono ?_); rintro e w2 ⟨rfl, hb⟩; have HM2 := Aside0.mk (HM1.out.trans (Mv.of_below hb HR1.out.base)); have HR2 := Aside0.mk (HR1.out.below hb); have HW2 := Aside0.mk (HW.out.mv HM2.out); clear hb) | (go_at_call 115; refine (H3.out _ _ _ _ _ _ HW2.out HR2.out HL.out HT.out).mono ?_; rintro e w3 ⟨v3, hm_, T, pv, rfl⟩; have HM3 := Aside0.mk (HM2.out.trans hm_); clear hm_))
          exact ⟨rfl, _, HM3.out, T, pv, rfl⟩
        | some s1 =>
          obtain ⟨l1, o1⟩ := s1
          have hf := f3 _ _ ht
          dsimp only at hf
          cases l1 with
          | nil =>
            obtain rfl := Option.some.inj (show some none = some res from hr)
            clear hW h hl hr h2 h0 h3 f2 f0 f3 ht k14 k15 hf
            go_enter Tryd.func100, Tryd.ntmps100
            go_wp2_with (first | (go_at_call 114; (with_reducible refine (sees_calls 14 _ HR0.out HS14.out).mono ?_); rintro e w1 ⟨rfl, hb⟩; have HM1 := Aside0.mk (HM0.out.trans (Mv.of_below hb HR0.out.base)); have HR1 := Aside0.mk (HR0.out.below hb); have HW1 := Aside0.mk (HW.out.mv HM1.out); clear hb) | (go_at_call 114; (with_reducible refine (sees_calls 15 _ HR1.out HS15.out).mono ?_); rintro e w2 ⟨rfl, hb⟩; have HM2 := Aside0.mk (HM1.out.trans (Mv.of_below hb HR1.out.base)); have HR2 := Aside0.mk (HR1.out.below hb); have HW2 := Aside0.mk (HW.out.mv HM2.out); clear hb) | (go_at_call 115; refine (H3.out _ _ _ _ _ _ HW2.out HR2.out HL.out HT.out).mono ?_; rintro e w3 ⟨v3, hm_, rfl, hr_⟩; have HM3 := Aside0.mk (HM2.out.trans hm_); have HR3 := Aside0.mk hr_; have HW3 := Aside0.mk (HW.out.mv HM3.out); obtain ⟨A3, c3, q1, _, _, _, _⟩ := hr_; have hc3 : w3.cell? ⟨g, 0, none⟩ = some (.slice A3 0 c3) := blk_cell q1 0; obtain ⟨T, pv, hwr, _⟩ := HW3.out; clear hm_ q1))
            exact ⟨rfl, _, HM3.out, T, pv, rfl⟩
          | cons a l1 =>
            simp only [List.length_cons] at hf
            have hr : (if decide (6 ≤ a.f0 ∧ a.f0 ≤ 11) = true then bnd (R 3 (l1, o1)) (putF a.f0) else some none) = some res := hr
            cases kc : decide (6 ≤ a.f0 ∧ a.f0 ≤ 11)
            · rw [if_neg (by rw [kc]; decide)] at hr
              obtain rfl := Option.some.inj hr
              have HCM := Aside0.mk (cmpF a.f0 kc)
              clear hW h hl hr h2 h0 h3 f2 f0 f3 ht k14 k15 hf kc
              go_enter Tryd.func100, Tryd.ntmps100
              go_wp2_with (first | (go_at_call 114; (with_reducible refine (sees_calls 14 _ HR0.out HS14.out).mono ?_); rintro e w1 ⟨rfl, hb⟩; have HM1 := Aside0.mk (HM0.out.trans (Mv.of_below hb HR0.out.base)); have HR1 := Aside0.mk (HR0.out.below hb); have HW1 := Aside0.mk (HW.out.mv HM1.out); clear hb) | (go_at_call 114; (with_reducible refine (sees_calls 15 _ HR1.out HS15.out).mono ?_); rintro e w2 ⟨rfl, hb⟩; have HM2 := Aside0.mk (HM1.out.trans (Mv.of_below hb HR1.out.base)); have HR2 := Aside0.mk (HR1.out.below hb); have HW2 := Aside0.mk (HW.out.mv HM2.out); clear hb) | (go_at_call 115; refine (H3.out _ _ _ _ _ _ HW2.out HR2.out HL.out HT.out).mono ?_; rintro e w3 ⟨v3, hm_, rfl, hr_⟩; have HM3 := Aside0.mk (HM2.out.trans hm_); have HR3 := Aside0.mk hr_; have HW3 := Aside0.mk (HW.out.mv HM3.out); obtain ⟨ad3, c3, hc3, e3⟩ := RS.head hr_; clear hm_ hr_) | (go_at_call 79; refine (guard_compares.calls _ _ _ HCM.out).mono ?_; rintro e w4 ⟨rfl, hd⟩; have hb3 := hd.below; have HR4 := Aside0.mk (HR3.out.below hb3); have HM4 := Aside0.mk (HM3.out.trans (Mv.of_below hb3 HR3.out.base)); have HW4 := Aside0.mk (HW.out.mv HM4.out); obtain ⟨T, pv, hwr, _⟩ := HW4.out; clear hd hb3))
              exact ⟨rfl, _, HM4.out, T, pv, rfl⟩
            · rw [if_pos kc] at hr
              have HCM := Aside0.mk (cmpF a.f0 kc)
              have HL2 := Aside0.mk (show o1.length + l1.length ≤ 100000 by omega)
              have HTK := Aside0.mk (show takeF a.f0 (a :: l1, o1) = some (some (l1, o1)) by simp [takeF, seesF])
              cases ht2 : R 3 (l1, o1) with
              | none => rw [ht2] at hr; cases hr
              | some r2 =>
                have HT2 := Aside0.mk ht2
                rw [ht2] at hr
                cases r2 with
                | none =>
                  obtain rfl := Option.some.inj (show some none = some res from hr)
                  clear hW h hl hr h2 h0 h3 f2 f0 f3 ht k14 k15 hf kc ht2
                  go_enter Tryd.func100, Tryd.ntmps100
                  go_wp2_with (first | (go_at_call 114; (with_reducible refine (sees_calls 14 _ HR0.out HS14.out).mono ?_); rintro e w1 ⟨rfl, hb⟩; have HM1 := Aside0.mk (HM0.out.trans (Mv.of_below hb HR0.out.base)); have HR1 := Aside0.mk (HR0.out.below hb); have HW1 := Aside0.mk (HW.out.mv HM1.out); clear hb) | (go_at_call 114; (with_reducible refine (sees_calls 15 _ HR1.out HS15.out).mono ?_); rintro e w2 ⟨rfl, hb⟩; have HM2 := Aside0.mk (HM1.out.trans (Mv.of_below hb HR1.out.base)); have HR2 := Aside0.mk (HR1.out.below hb); have HW2 := Aside0.mk (HW.out.mv HM2.out); clear hb) | (go_at_call 115; refine (H3.out _ _ _ _ _ _ HW2.out HR2.out HL.out HT.out).mono ?_; rintro e w3 ⟨v3, hm_, rfl, hr_⟩; have HM3 := Aside0.mk (HM2.out.trans hm_); have HR3 := Aside0.mk hr_; have HW3 := Aside0.mk (HW.out.mv HM3.out); obtain ⟨ad3, c3, hc3, e3⟩ := RS.head hr_; clear hm_ hr_) | (go_at_call 79; refine (guard_compares.calls _ _ _ HCM.out).mono ?_; rintro e w4 ⟨rfl, hd⟩; have hb3 := hd.below; have hc4 : w4.cell? ⟨g, 0, none⟩ = some (.slice (some ad3) (l1.length + 1) c3) := (hb3.cell (p := ⟨g, 0, none⟩) HR3.out.lt).trans hc3; have e4 : w4.cell? ad3 = some (.int .i64 a.f0) := (hb3.cell (World.block_lt_of_cell? w3 _ e3)).trans e3; have HR4 := Aside0.mk (HR3.out.below hb3); have HM4 := Aside0.mk (HM3.out.trans (Mv.of_below hb3 HR3.out.base)); have HW4 := Aside0.mk (HW.out.mv HM4.out); clear hd hb3) | (go_at_call 98; (with_reducible refine (take_calls a.f0 HR4.out HW4.out (some (l1, o1)) HTK.out).mono ?_); rintro e w5 ⟨v5, hm_, rfl, hr_⟩; have HM5 := Aside0.mk (HM4.out.trans hm_); have HR5 := Aside0.mk hr_; have HW5 := Aside0.mk (HW.out.mv HM5.out); clear hm_ hr_) | (go_at_call 115; refine (H3.out _ _ _ _ _ _ HW5.out HR5.out HL2.out HT2.out).mono ?_; rintro e w6 ⟨v6, hm_, T, pv, rfl⟩; have HM6 := Aside0.mk (HM5.out.trans hm_); clear hm_))
                  exact ⟨rfl, _, HM6.out, T, pv, rfl⟩
                | some s2 =>
                  obtain rfl := Option.some.inj (show some (some (s2.1, s2.2 ++ [(⟨a.f0, 0⟩ : S35)])) = some res from hr)
                  have hf2 := f3 _ _ ht2
                  have HLp := Aside0.mk (show s2.2.length < 8796093022208 by dsimp only at hf2; omega)
                  clear hW h hl hr h2 h0 h3 f2 f0 f3 ht k14 k15 hf kc ht2 hf2
                  go_enter Tryd.func100, Tryd.ntmps100
                  go_wp2_with (first | (go_at_call 114; (with_reducible refine (sees_calls 14 _ HR0.out HS14.out).mono ?_); rintro e w1 ⟨rfl, hb⟩; have HM1 := Aside0.mk (HM0.out.trans (Mv.of_below hb HR0.out.base)); have HR1 := Aside0.mk (HR0.out.below hb); have HW1 := Aside0.mk (HW.out.mv HM1.out); clear hb) | (go_at_call 114; (with_reducible refine (sees_calls 15 _ HR1.out HS15.out).mono ?_); rintro e w2 ⟨rfl, hb⟩; have HM2 := Aside0.mk (HM1.out.trans (Mv.of_below hb HR1.out.base)); have HR2 := Aside0.mk (HR1.out.below hb); have HW2 := Aside0.mk (HW.out.mv HM2.out); clear hb) | (go_at_call 115; refine (H3.out _ _ _ _ _ _ HW2.out HR2.out HL.out HT.out).mono ?_; rintro e w3 ⟨v3, hm_, rfl, hr_⟩; have HM3 := Aside0.mk (HM2.out.trans hm_); have HR3 := Aside0.mk hr_; have HW3 := Aside0.mk (HW.out.mv HM3.out); obtain ⟨ad3, c3, hc3, e3⟩ := RS.head hr_; clear hm_ hr_) | (go_at_call 79; refine (guard_compares.calls _ _ _ HCM.out).mono ?_; rintro e w4 ⟨rfl, hd⟩; have hb3 := hd.below; have hc4 : w4.cell? ⟨g, 0, none⟩ = some (.slice (some ad3) (l1.length + 1) c3) := (hb3.cell (p := ⟨g, 0, none⟩) HR3.out.lt).trans hc3; have e4 : w4.cell? ad3 = some (.int .i64 a.f0) := (hb3.cell (World.block_lt_of_cell? w3 _ e3)).trans e3; have HR4 := Aside0.mk (HR3.out.below hb3); have HM4 := Aside0.mk (HM3.out.trans (Mv.of_below hb3 HR3.out.base)); have HW4 := Aside0.mk (HW.out.mv HM4.out); clear hd hb3) | (go_at_call 98; (with_reducible refine (take_calls a.f0 HR4.out HW4.out (some (l1, o1)) HTK.out).mono ?_); rintro e w5 ⟨v5, hm_, rfl, hr_⟩; have HM5 := Aside0.mk (HM4.out.trans hm_); have HR5 := Aside0.mk hr_; have HW5 := Aside0.mk (HW.out.mv HM5.out); clear hm_ hr_) | (go_at_call 115; refine (H3.out _ _ _ _ _ _ HW5.out HR5.out HL2.out HT2.out).mono ?_; rintro e w6 ⟨v6, hm_, rfl, hr_⟩; have HM6 := Aside0.mk (HM5.out.trans hm_); have HR6 := Aside0.mk hr_; have HW6 := Aside0.mk (HW.out.mv HM6.out); clear hm_ hr_) | (go_at_call 99; (with_reducible refine (put_calls a.f0 HR6.out HLp.out).mono ?_); rintro e w7 ⟨v7, hm_, rfl, hr_⟩; have HM7 := Aside0.mk (HM6.out.trans hm_); have HR7 := Aside0.mk hr_; have HW7 := Aside0.mk (HW.out.mv HM7.out); clear hm_ hr_))
                  go_end0
                  exact ⟨_, HM7.out, rfl, HR7.out⟩
    · rw [if_pos k15] at hr
      have HS15 := Aside0.mk k15
      obtain ⟨l, o⟩ := st
      cases l with
      | nil => cases k15
      | cons a l =>
        dsimp only [List.tail_cons] at hr
        simp only [List.length_cons] at hl
        have HTK := Aside0.mk (show takeF 15 (a :: l, o) = some (some (l, o)) by unfold takeF; rw [if_pos k15]; rfl)
        have HL := Aside0.mk (show o.length + l.length ≤ 100000 by omega)
        cases ht : R 0 (l, o) with
        | none => rw [ht] at hr; cases hr
        | some r1 =>
          have HT := Aside0.mk ht
          rw [ht] at hr
          cases r1 with
          | none =>
            obtain rfl := Option.some.inj (show some none = some res from hr)
            clear hW h hl hr h2 h0 h3 f2 f0 f3 ht k14 k15
            go_enter Tryd.func100, Tryd.ntmps100
            go_wp2_with (first | (go_at_call 114; (with_reducible refine (sees_calls 14 _ HR0.out HS14.out).mono ?_); rintro e w1 ⟨rfl, hb⟩; have HM1 := Aside0.mk (HM0.out.trans (Mv.of_below hb HR0.out.base)); have HR1 := Aside0.mk (HR0.out.below hb); have HW1 := Aside0.mk (HW.out.mv HM1.out); clear hb) | (go_at_call 114; (with_reducible refine (sees_calls 15 _ HR1.out HS15.out).mono ?_); rintro e w2 ⟨rfl, hb⟩; have HM2 := Aside0.mk (HM1.out.trans (Mv.of_below hb HR1.out.base)); have HR2 := Aside0.mk (HR1.out.below hb); have HW2 := Aside0.mk (HW.out.mv HM2.out); clear hb) | (go_at_call 98; (with_reducible refine (take_calls 15 HR2.out HW2.out (some (l, o)) HTK.out).mono ?_); rintro e w3 ⟨v3, hm_, rfl, hr_⟩; have HM3 := Aside0.mk (HM2.out.trans hm_); have HR3 := Aside0.mk hr_; have HW3 := Aside0.mk (HW.out.mv HM3.out); clear hm_ hr_) | (go_at_call 62; refine (H0.out _ _ _ _ _ _ HW3.out HR3.out HL.out HT.out).mono ?_; rintro e w4 ⟨v4, hm_, T, pv, rfl⟩; have HM4 := Aside0.mk (HM3.out.trans hm_); clear hm_))
            exact ⟨rfl, _, HM4.out, T, pv, rfl⟩
          | some s1 =>
            have hr : takeF 16 s1 = some res := hr
            cases res with
            | none =>
              have HT16 := Aside0.mk hr
              clear hW h hl hr h2 h0 h3 f2 f0 f3 ht k14 k15
              go_enter Tryd.func100, Tryd.ntmps100
              go_wp2_with (first | (go_at_call 114; (with_reducible refine (sees_calls 14 _ HR0.out HS14.out).mono ?_); rintro e w1 ⟨rfl, hb⟩; have HM1 := Aside0.mk (HM0.out.trans (Mv.of_below hb HR0.out.base)); have HR1 := Aside0.mk (HR0.out.below hb); have HW1 := Aside0.mk (HW.out.mv HM1.out); clear hb) | (go_at_call 114; (with_reducible refine (sees_calls 15 _ HR1.out HS15.out).mono ?_); rintro e w2 ⟨rfl, hb⟩; have HM2 := Aside0.mk (HM1.out.trans (Mv.of_below hb HR1.out.base)); have HR2 := Aside0.mk (HR1.out.below hb); have HW2 := Aside0.mk (HW.out.mv HM2.out); clear hb) | (go_at_call 98; (with_reducible refine (take_calls 15 HR2.out HW2.out (some (l, o)) HTK.out).mono ?_); rintro e w3 ⟨v3, hm_, rfl, hr_⟩; have HM3 := Aside0.mk (HM2.out.trans hm_); have HR3 := Aside0.mk hr_; have HW3 := Aside0.mk (HW.out.mv HM3.out); clear hm_ hr_) | (go_at_call 62; refine (H0.out _ _ _ _ _ _ HW3.out HR3.out HL.out HT.out).mono ?_; rintro e w4 ⟨v4, hm_, rfl, hr_⟩; have HM4 := Aside0.mk (HM3.out.trans hm_); have HR4 := Aside0.mk hr_; have HW4 := Aside0.mk (HW.out.mv HM4.out); clear hm_ hr_) | (go_at_call 98; (with_reducible refine (take_calls 16 HR4.out HW4.out none HT16.out).mono ?_); rintro e w5 ⟨v5, hm_, T, pv, rfl⟩; have HM5 := Aside0.mk (HM4.out.trans hm_); clear hm_))
              exact ⟨rfl, _, HM5.out, T, pv, rfl⟩
            | some s2 =>
              have HT16 := Aside0.mk hr
              clear hW h hl hr h2 h0 h3 f2 f0 f3 ht k14 k15
              go_enter Tryd.func100, Tryd.ntmps100
              go_wp2_with (first | (go_at_call 114; (with_reducible refine (sees_calls 14 _ HR0.out HS14.out).mono ?_); rintro e w1 ⟨rfl, hb⟩; have HM1 := Aside0.mk (HM0.out.trans (Mv.of_below hb HR0.out.base)); have HR1 := Aside0.mk (HR0.out.below hb); have HW1 := Aside0.mk (HW.out.mv HM1.out); clear hb) | (go_at_call 114; (with_reducible refine (sees_calls 15 _ HR1.out HS15.out).mono ?_); rintro e w2 ⟨rfl, hb⟩; have HM2 := Aside0.mk (HM1.out.trans (Mv.of_below hb HR1.out.base)); have HR2 := Aside0.mk (HR1.out.below hb); have HW2 := Aside0.mk (HW.out.mv HM2.out); clear hb) | (go_at_call 98; (with_reducible refine (take_calls 15 HR2.out HW2.out (some (l, o)) HTK.out).mono ?_); rintro e w3 ⟨v3, hm_, rfl, hr_⟩; have HM3 := Aside0.mk (HM2.out.trans hm_); have HR3 := Aside0.mk hr_; have HW3 := Aside0.mk (HW.out.mv HM3.out); clear hm_ hr_) | (go_at_call 62; refine (H0.out _ _ _ _ _ _ HW3.out HR3.out HL.out HT.out).mono ?_; rintro e w4 ⟨v4, hm_, rfl, hr_⟩; have HM4 := Aside0.mk (HM3.out.trans hm_); have HR4 := Aside0.mk hr_; have HW4 := Aside0.mk (HW.out.mv HM4.out); clear hm_ hr_) | (go_at_call 98; (with_reducible refine (take_calls 16 HR4.out HW4.out (some s2) HT16.out).mono ?_); rintro e w5 ⟨v5, hm_, rfl, hr_⟩; have HM5 := Aside0.mk (HM4.out.trans hm_); have HR5 := Aside0.mk hr_; have HW5 := Aside0.mk (HW.out.mv HM5.out); clear hm_ hr_))
              go_end0
              exact ⟨_, HM5.out, rfl, HR5.out⟩
  · rw [if_pos k14] at hr
    have HS14 := Aside0.mk k14
    obtain ⟨l, o⟩ := st
    cases l with
    | nil => cases k14
    | cons a l =>
      dsimp only [List.tail_cons] at hr
      simp only [List.length_cons] at hl
      have HTK := Aside0.mk (show takeF 14 (a :: l, o) = some (some (l, o)) by unfold takeF; rw [if_pos k14]; rfl)
      have HL := Aside0.mk (show o.length + l.length ≤ 100000 by omega)
      cases ht : R 2 (l, o) with
      | none => rw [ht] at hr; cases hr
      | some r1 =>
        have HT := Aside0.mk ht
        rw [ht] at hr
        cases r1 with
        | none =>
          obtain rfl := Option.some.inj (show some none = some res from hr)
          clear hW h hl hr h2 h0 h3 f2 f0 f3 ht k14
          go_enter Tryd.func100, Tryd.ntmps100
          go_wp2_with (first | (go_at_call 114; (with_reducible refine (sees_calls 14 _ HR0.out HS14.out).mono ?_); rintro e w1 ⟨rfl, hb⟩; have HM1 := Aside0.mk (HM0.out.trans (Mv.of_below hb HR0.out.base)); have HR1 := Aside0.mk (HR0.out.below hb); have HW1 := Aside0.mk (HW.out.mv HM1.out); clear hb) | (go_at_call 98; (with_reducible refine (take_calls 14 HR1.out HW1.out (some (l, o)) HTK.out).mono ?_); rintro e w2 ⟨v2, hm_, rfl, hr_⟩; have HM2 := Aside0.mk (HM1.out.trans hm_); have HR2 := Aside0.mk hr_; have HW2 := Aside0.mk (HW.out.mv HM2.out); clear hm_ hr_) | (go_at_call 100; refine (H2.out _ _ _ _ _ _ HW2.out HR2.out HL.out HT.out).mono ?_; rintro e w3 ⟨v3, hm_, T, pv, rfl⟩; have HM3 := Aside0.mk (HM2.out.trans hm_); clear hm_))
          exact ⟨rfl, _, HM3.out, T, pv, rfl⟩
        | some s1 =>
          obtain rfl := Option.some.inj (show some (some (s1.1, s1.2 ++ [(⟨14, 0⟩ : S35)])) = some res from hr)
          have hf := f2 _ _ ht
          have HLp := Aside0.mk (show s1.2.length < 8796093022208 by dsimp only at hf; omega)
          clear hW h hl hr h2 h0 h3 f2 f0 f3 ht k14 hf
          go_enter Tryd.func100, Tryd.ntmps100
          go_wp2_with (first | (go_at_call 114; (with_reducible refine (sees_calls 14 _ HR0.out HS14.out).mono ?_); rintro e w1 ⟨rfl, hb⟩; have HM1 := Aside0.mk (HM0.out.trans (Mv.of_below hb HR0.out.base)); have HR1 := Aside0.mk (HR0.out.below hb); have HW1 := Aside0.mk (HW.out.mv HM1.out); clear hb) | (go_at_call 98; (with_reducible refine (take_calls 14 HR1.out HW1.out (some (l, o)) HTK.out).mono ?_); rintro e w2 ⟨v2, hm_, rfl, hr_⟩; have HM2 := Aside0.mk (HM1.out.trans hm_); have HR2 := Aside0.mk hr_; have HW2 := Aside0.mk (HW.out.mv HM2.out); clear hm_ hr_) | (go_at_call 100; refine (H2.out _ _ _ _ _ _ HW2.out HR2.out HL.out HT.out).mono ?_; rintro e w3 ⟨v3, hm_, rfl, hr_⟩; have HM3 := Aside0.mk (HM2.out.trans hm_); have HR3 := Aside0.mk hr_; have HW3 := Aside0.mk (HW.out.mv HM3.out); clear hm_ hr_) | (go_at_call 99; (with_reducible refine (put_calls 14 HR3.out HLp.out).mono ?_); rintro e w4 ⟨v4, hm_, rfl, hr_⟩; have HM4 := Aside0.mk (HM3.out.trans hm_); have HR4 := Aside0.mk hr_; have HW4 := Aside0.mk (HW.out.mv HM4.out); clear hm_ hr_))
          go_end0
          exact ⟨_, HM4.out, rfl, HR4.out⟩
theorem PF_fine (k lev : Nat) (hl : lev ≤ 5) : Fine (PF k) lev := by
  intro st s h
  obtain ⟨k', r', h', hw⟩ := Pure.PF_total _ st.1.length lev st rfl hl rfl trivial
  have e1 := Pure.PF_mono (Nat.le_max_left k k') h
  have e2 := Pure.PF_mono (Nat.le_max_right k k') h'
  rw [e1] at e2
  obtain rfl := Option.some.inj e2
  exact (hw s rfl).2
theorem PF_calls : ∀ (k lev : Nat), lev ≤ 5 → Can (PF k) lev
  | 0, _, _ => fun b g v w st res _ _ _ h => by cases h
  | k + 1, lev, hl => fun b g v w st res hW h hb hr => by
    have ih := fun lev2 (hl2 : lev2 ≤ 5) => PF_calls k lev2 hl2
    have fi := fun lev2 (hl2 : lev2 ≤ 5) => PF_fine k lev2 hl2
    have hr : stepF (PF k) k lev st = some res := hr
    rcases (by omega : lev = 0 ∨ lev = 1 ∨ lev = 2 ∨ lev = 3 ∨ lev = 4 ∨ lev = 5) with rfl | rfl | rfl | rfl | rfl | rfl
    · exact top_guard (ih 1 (by omega)) (fi 1 (by omega)) k res hW h hb hr
    · exact top_some (ih 2 (by omega)) (fi 2 (by omega)) k res hW h hb hr
    · exact one_calls (ih 2 (by omega)) (ih 0 (by omega)) (ih 3 (by omega)) (fi 2 (by omega)) (fi 0 (by omega)) (fi 3 (by omega)) k res hW h hb hr
    · exact top_sum (ih 4 (by omega)) (fi 4 (by omega)) k res hW h hb hr
    · exact top_product (ih 5 (by omega)) (fi 5 (by omega)) k res hW h hb hr
    · exact factor_calls (ih 5 (by omega)) (ih 3 (by omega)) (fi 5 (by omega)) (fi 3 (by omega)) k res hW h hb hr
end Go.Proofs.YtojfdekiponccaaDoor.H
