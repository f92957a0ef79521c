import Derived.Test.YtojfdekiponccaaDoorTHx5
import Derived.Test.YtojfdekiponccaaDoorTHx4
import Derived.Test.YtojfdekiponccaaDoorTHKit
import Derived.Laws.Rows
import Derived.KernelRfl
/- eval.Of: what a guard, behind, says of 26 variables. -/
namespace Go.Proofs.YtojfdekiponccaaDoor.H
open Go.RowKit Go.HK Go.Proofs.YtojfdekiponccaaDoorW.PrintWords Go.Proofs.YtojfdekiponccaaDoorW.PrintLast Go.Proofs.YtojfdekiponccaaDoorW.PrintMore
set_option linter.unusedVariables false
set_option linter.unusedSimpArgs false
theorem infoI64 : (Tryd.prog.info? 2).map (fun i => (i.zero, i.size, i.bytes)) = some (some (.int .i64 0), 1, 8) := by kernel_rfl
/-- 26 numbers, as the machine holds them. -/
def lit (x : Nat → Int) : Array Value := ((List.range 26).map fun i => Value.int .i64 (x i)).toArray
theorem lit_size (x : Nat → Int) : (lit x).size = 26 := by simp [lit]
theorem lit_get (x : Nat → Int) (i : Nat) (h : i < 26) : (lit x)[i]? = some (.int .i64 (x i)) := by simp [lit, h]
def evStep (x : Nat → Int) (s : S35) (rs : List Int) : Option (List Int) :=
  if s.f0 = 1 then some (s.f1 :: rs)
  else if s.f0 = 2 then (if 0 ≤ s.f1 ∧ s.f1 < 26 then some (x s.f1.toNat :: rs) else none)
  else match rs with
    | [] => none
    | a :: r => if s.f0 = 19 then some (wrap64 (-a) :: r) else if s.f0 = 14 then some (wrap64 (1 - a) :: r) else match r with
      | [] => none
      | b :: r2 => (eval_two.f s.f0 b a).bind fun z => some (z :: r2)
def evL (x : Nat → Int) : List S35 → List Int → Option (List Int)
  | [], rs => some rs
  | s :: l, rs => (evStep x s rs).bind (evL x l)
def eval_Of.f (k : Nat) (x : Nat → Int) (l : List S35) : Option (Bool × Bool) :=
  (guard_Good.f k l).bind fun g => if g = true then (evL x l []).bind fun rs => match rs with | [] => none | a :: _ => some (a == 1, true) else some (false, false)
abbrev KI : Kd Int := Kd.int .i64
/-- While a guard is gone over: the variables' block, the stack's variable, the stack (the topmost ahead). -/
def EI (b xb sb : Nat) (x : Nat → Int) (rs : List Int) (v : Value) (w0 W : World) : Prop :=
  Below b w0 W ∧ W.heap[xb]? = some (.cells (lit x) 48 (0, 0)) ∧ W.heap[sb]? = some (.cells #[v] 83 (0, 0)) ∧ KI.R 2 W b (fun _ => True) v rs.reverse ∧ b ≤ xb ∧ b ≤ sb ∧ xb ≠ sb
section
variable {b xb sb : Nat} {x : Nat → Int} {rs : List Int} {v : Value} {w0 W W1 : World}
theorem EI.below (h : EI b xb sb x rs v w0 W) (hb : Below W.heap.size W W1) : EI b xb sb x rs v w0 W1 := by
  obtain ⟨h1, h2, h3, h4, h5, h6, h7⟩ := h
  have l2 := blk_lt h2
  exact ⟨h1.trans (hb.mono (by omega)), (hb.block _ l2).trans h2, (hb.block _ (blk_lt h3)).trans h3, Kd.R_below h4 hb, h5, h6, h7⟩
/-- A store into a block that is new. -/
theorem EI.own_size (h : EI b xb sb x rs v w0 W) : b ≤ W.heap.size := by obtain ⟨h1, h2, h3, h4, h5, h6, h7⟩ := h; have := blk_lt h2; omega
end
theorem take_row {w : World} {base : Nat} {A : Option Addr} {n c : Nat} {xs : List Int} (h : KI.R 2 w base (fun _ => True) (.slice A n c) xs) (m : Nat) (hm : m ≤ xs.length) (hn : 0 < xs.length) : KI.R 2 w base (fun _ => True) (.slice A m c) (xs.take m) := by
  have hl : (xs.take m).length = m := by rw [List.length_take]; omega
  refine Kd.R_of_own ?_ (fun _ _ => trivial)
  have ho := Kd.own_of_R h
  obtain ⟨h1, h2⟩ := ho
  rcases h2 with ⟨_, h0⟩ | ⟨g, cap, cur, hv, hg, hh, hnc, hcap, hsz, htk⟩
  · omega
  · injection hv with e1 e2 e3
    subst e1; subst e3
    rw [hl]
    refine ⟨by rw [encs_length, hl]; omega, .inr ⟨g, c, cur, rfl, hg, hh, by omega, hcap, hsz, ?_⟩⟩
    have e : encs (Value.int IntKind.i64) (xs.take m) = (encs (Value.int IntKind.i64) xs).take m := by simp [encs, List.map_take]
    rw [e, ← htk, List.take_take]
    congr 1
    omega
theorem pop_calls {b xb sb : Nat} {x : Nat → Int} {a : Int} {rs : List Int} {v : Value} {w0 W : World} (h : EI b xb sb x (a :: rs) v w0 W) (hl : rs.length ≤ 100000) :
    Calls Tryd.prog 41 #[.pointer (some ⟨sb, 0, none⟩)] W fun e w' => e = .returned (.int .i64 a) ∧ (∃ v', EI b xb sb x rs v' w0 w') ∧ ∀ p, p ≠ sb → w'.heap[p]? = W.heap[p]? := by
  obtain ⟨h1, h2, h3, h4, h5, h6, h7⟩ := h
  obtain ⟨A, c, rfl, hlc, hC⟩ := Kd.R_reads h4
  have hlen : ((a :: rs).reverse).length = rs.length + 1 := by simp
  have hc0 : W.cell? ⟨sb, 0, none⟩ = some (.slice A (rs.length + 1) c) := by rw [← hlen]; exact blk_cell h3 0
  have hf := blk_frozen h3 0
  have HX := Aside0.mk h2
  have H3 := Aside0.mk h3
  have HC := Aside0.mk hC
  have HB := Aside0.mk h1
  have hr : KI.R 2 W b (fun _ => True) (.slice A rs.length c) rs.reverse := by
    have := take_row h4 rs.length (by rw [hlen]; omega) (by rw [hlen]; omega)
    rwa [List.reverse_cons, List.take_append_of_le_length (by simp), List.take_of_length_le (by simp)] at this
  have HR := Aside0.mk hr
  have hrl : rs.length ≤ c := by rw [hlen] at hlc; omega
  rw [hlen] at hlc
  obtain ⟨ad, rfl, hca⟩ := Kd.at_int hC (rs.length : Int) (by omega) (by rw [hlen]; omega)
  have e1 : rd ((a :: rs).reverse) (rs.length : Int) = a := by
    unfold rd
    simp [List.getD]
  rw [e1, Int.toNat_natCast] at hca
  have hw : wrap64 (((rs.length : Int) + 1) - 1) = (rs.length : Int) := by unfold wrap64; omega
  have hw2 : wrap64 (rs.length : Int) = (rs.length : Int) := by unfold wrap64; omega
  clear h1 h2 h3 h4 hC hr e1 hlen
  go_enter Tryd.func41, Tryd.ntmps41
  go_wp2
  go_ret
  refine ⟨rfl, ⟨.slice (some ad) rs.length c, ?_⟩, fun p hp => Below.heap_setCell _ _ _ _ hp⟩
  exact ⟨HB.out.setCell h6 _, blk_far HX.out h7 _, blk_set H3.out 0 _, Kd.R_set HR.out H3.out (by decide) 0 _, h5, h6, h7⟩
theorem EI.pushed {b xb sb : Nat} {x : Nat → Int} {z : Int} {rs : List Int} {v v1 : Value} {w0 W w4 : World} (h : EI b xb sb x rs v w0 W) (ho : KI.R 2 w4 b (fun _ => True) v1 (rs.reverse ++ [z])) (hb : Below b W w4) (hg : W.grownBy w4 v.ownBlock) :
    EI b xb sb x (z :: rs) v1 w0 (w4.setCell ⟨sb, 0, none⟩ v1) := by
  obtain ⟨h1, h2, h3, h4, h5, h6, h7⟩ := h
  have hs := blk_grown h3 hg (Kd.R_ne h4 h3 (by decide))
  have hx := blk_grown h2 hg (Kd.R_ne h4 h2 (by decide))
  refine ⟨(h1.trans hb).setCell h6 _, blk_far hx h7 _, blk_set hs 0 _, ?_, h5, h6, h7⟩
  rw [List.reverse_cons]
  exact Kd.R_set ho hs (by decide) 0 _
theorem EI.stack {b xb sb : Nat} {x : Nat → Int} {rs : List Int} {v : Value} {w0 W : World} (h : EI b xb sb x rs v w0 W) : ∃ As cs, v = .slice As rs.length cs ∧ W.cell? ⟨sb, 0, none⟩ = some (.slice As rs.length cs) := by
  obtain ⟨A, c, rfl, _, _⟩ := Kd.R_reads h.2.2.2.1
  rw [List.length_reverse]
  refine ⟨A, c, rfl, ?_⟩
  have := blk_cell h.2.2.1 0
  rw [List.length_reverse] at this
  exact this
/-- The head of a round. -/
def OfI (b xb sb : Nat) (x : Nat → Int) (l : List S35) (fin : List Int) (w0 : World) (kq : Nat) (v19 : Value) (wr : World) : Prop :=
  ∃ (i : Nat) (rs : List Int) (v : Value), v19 = .int .i64 i ∧ i ≤ l.length ∧ kq = l.length - i ∧ rs.length ≤ i ∧ evL x (l.drop i) rs = some fin ∧ EI b xb sb x rs v w0 wr
set_option maxRecDepth 100000 in
set_option maxHeartbeats 4000000 in
theorem eval_Of.calls (k : Nat) (x : Nat → Int) (A : Option Addr) (c : Nat) (l : List S35) (r1 r2 : Bool) (w : World) (hr : Kd.C k35 w A l.length l) (hc : l.length ≤ c) (hl : l.length ≤ 100000) (h : eval_Of.f k x l = some (r1, r2)) :
    Calls Tryd.prog 25 #[.slice A l.length c, .agg (lit x)] w fun e w' => e = .returned (.tuple #[.bool r1, .bool r2]) ∧ Below w.heap.size w w' := by
  have hmf : ∀ (fn : Fn) (first cap : Array Value) (w : World), (Instr.makeFunc fn first cap).run Tryd.prog w = .ok (.func fn first cap) w := fun _ _ _ _ => rfl
  have HR := Aside0.mk hr
  unfold eval_Of.f at h
  cases hg : guard_Good.f k l with
  | none => rw [hg] at h; cases h
  | some gd =>
    rw [hg] at h
    have HG := Aside0.mk hg
    clear hg hr
    simp only [Option.bind_some] at h
    cases gd with
    | false =>
      obtain ⟨rfl, rfl⟩ := Prod.mk.inj (Option.some.inj (show some (false, false) = some (r1, r2) from h))
      clear h
      go_enter Tryd.func25, Tryd.ntmps25
      go_wp2_with (first | (go_at_call 40; refine (guard_Good.calls k _ _ l false _ (Kd.C_alloc HR.out _) hc HG.out).mono ?_; rintro e1 w1 ⟨rfl, hb⟩; have HB := Aside0.mk hb; clear hb))
      go_ret2
      exact ⟨rfl, ((Below.refl _ _).alloc (Nat.le_refl _) _).trans (HB.out.mono (by simp))⟩
    | true =>
      rw [if_pos rfl] at h
      cases he : evL x l [] with
      | none => rw [he] at h; cases h
      | some fin =>
        rw [he] at h
        simp only [Option.bind_some] at h
        have HE := Aside0.mk he
        clear he
        have HF := Aside0.mk h
        clear h
        go_enter Tryd.func25, Tryd.ntmps25
        go_wp2_with (first | (go_at_call 40; refine (guard_Good.calls k _ _ l true _ (Kd.C_alloc HR.out _) hc HG.out).mono ?_; rintro e1 w1 ⟨rfl, hb⟩; have HB := Aside0.mk hb; clear hb))
        go_loopg [19] l.length (fun kq v19 wr => OfI w.heap.size w.heap.size w1.heap.size x l fin w kq v19 wr)
        case atStart =>
          have hsz : (w.alloc (.cells (lit x) 48)).heap.size = w.heap.size + 1 := by simp
          have hle := HB.out.size
          rw [hsz] at hle
          have hb1 : Below w.heap.size w w1 := ((Below.refl _ _).alloc (Nat.le_refl _) _).trans (HB.out.mono (by rw [hsz]; omega))
          have hxb : w1.heap[w.heap.size]? = some (.cells (lit x) 48 (0, 0)) := (HB.out.block _ (by rw [hsz]; omega)).trans (heap_alloc_last w _)
          exact ⟨0, [], .slice none 0 0, rfl, Nat.zero_le _, by omega, Nat.le_refl _, HE.out, hb1.alloc (by omega) _, (Below.heap_alloc _ _ _ (by omega)).trans hxb, heap_alloc_last w1 _, Kd.R_nil _ _ _ _ _, Nat.le_refl _, by omega, by omega⟩
        case round =>
          obtain ⟨i, rs, v, rfl, hi, hk, hrl, hev, hei⟩ := hrel
          clear HB HE
          by_cases hlt : i < l.length
          · rw [List.drop_eq_getElem_cons hlt] at hev
            simp only [evL] at hev
            obtain ⟨ad, eA, e0, e1⟩ := at_T35 (Kd.C_below HR.out (hei.1 : Below w.heap.size w wr)) (i : Int) (by omega) (by omega)
            have erd : rd_T35 l (i : Int) = l[i] := by
              unfold rd_T35
              rw [Int.toNat_natCast, List.getD_eq_getElem?_getD, List.getElem?_eq_getElem hlt]
              rfl
            rw [erd, Int.toNat_natCast] at e0 e1
            generalize l[i] = s at *
            cases hst : evStep x s rs with
            | none => rw [hst] at hev; cases hev
            | some rs' =>
              rw [hst] at hev
              have HEV := Aside0.mk (show evL x (l.drop (i + 1)) rs' = some fin from hev)
              have HEI := Aside0.mk hei
              have HK := Aside0.mk hk
              have hin : (i : Int) < (l.length : Int) := by omega
              subst eA
              clear hev hei hk erd
              unfold evStep at hst
              by_cases k1 : s.f0 = 1
              · rw [if_pos k1] at hst
                obtain rfl := Option.some.inj hst
                have k1b : (s.f0 == 1) = true := beq_iff_eq.2 k1
                clear hst k1
                have HEQ := Aside0.mk (HEI.out.below ((Below.refl wr.heap.size wr).alloc (Nat.le_refl _) (.cells #[.int .i64 s.f0, .int .i64 s.f1] 35)))
                obtain ⟨As, cs, ev, hsc⟩ := HEQ.out.stack
                subst ev
                go_wp2_with (first | (at_builtin; refine Kd.R_append KI (w0 := (wr.alloc (.cells #[.int .i64 s.f0, .int .i64 s.f1] 35))) (W := (wr.alloc (.cells #[.int .i64 s.f0, .int .i64 s.f1] 35))) w.heap.size rfl (.tmp 54) (.tmp 56) 83 2 (.int .i64 0) 8 rfl Tryd.underlying83 infoI64 rfl (by decide) (by omega) (.slice As rs.length cs) rs.reverse (s.f1) [.int .i64 (s.f1)] (fun _ => True) (fun _ => False) rfl (by first | rfl | (simp [Act.eval]; done)) ?aP (fun _ hk => hk.elim) ?aF ?aO ?aB ?aS ?aL ?_; (case aP => exact rfl); (case aF => exact (fun _ _ => trivial)); (case aO => exact HEQ.out.2.2.2.1); (case aB => exact Below.refl _ _); (case aS => exact HEQ.out.own_size); (case aL => simp only [List.length_reverse]; omega); intro v9 w9 ho hb hg hat; obtain ⟨A9, c9, e9, _, _⟩ := Kd.R_reads ho; subst e9; have hb1 := blk_grown HEQ.out.2.2.1 hg (Kd.R_ne HEQ.out.2.2.2.1 HEQ.out.2.2.1 (by decide)); have hcell9 := blk_cell hb1 0; have hfr9 := blk_frozen hb1 0; have HEN := Aside0.mk (EI.pushed HEQ.out ho hb hg); clear ho hb hg hat hb1))
                go_roundg (l.length - (i + 1))
                case measure => have := HK.out; omega
                case rel => exact ⟨i + 1, s.f1 :: rs, _, by go_num, by omega, rfl, by simp only [List.length_cons]; omega, HEV.out, by have q := HEN.out; simp only [List.length_append, List.length_reverse, List.length_cons, List.length_nil, Nat.zero_add] at q; exact q⟩
              · rw [if_neg k1] at hst
                have k1b : (s.f0 == 1) = false := beq_eq_false_iff_ne.2 k1
                clear k1
                by_cases k2 : s.f0 = 2
                · rw [if_pos k2] at hst
                  have k2b : (s.f0 == 2) = true := beq_iff_eq.2 k2
                  by_cases kn : 0 ≤ s.f1 ∧ s.f1 < 26
                  · rw [if_pos kn] at hst
                    obtain rfl := Option.some.inj hst
                    clear hst k2
                    have HEQ := Aside0.mk (HEI.out.below ((Below.refl wr.heap.size wr).alloc (Nat.le_refl _) (.cells #[.int .i64 s.f0, .int .i64 s.f1] 35)))
                    obtain ⟨As, cs, ev, hsc⟩ := HEQ.out.stack
                    subst ev
                    obtain ⟨kn0, kn1⟩ := kn
                    have hxc : (wr.alloc (.cells #[.int .i64 s.f0, .int .i64 s.f1] 35)).cell? ⟨w.heap.size, s.f1.toNat, none⟩ = some (.int .i64 (x s.f1.toNat)) := (blk_cell HEQ.out.2.1 s.f1.toNat).trans (lit_get x _ (by omega))
                    go_wp2_with (first | (at_builtin; refine Kd.R_append KI (w0 := (wr.alloc (.cells #[.int .i64 s.f0, .int .i64 s.f1] 35))) (W := (wr.alloc (.cells #[.int .i64 s.f0, .int .i64 s.f1] 35))) w.heap.size rfl (.tmp 54) (.tmp 56) 83 2 (.int .i64 0) 8 rfl Tryd.underlying83 infoI64 rfl (by decide) (by omega) (.slice As rs.length cs) rs.reverse (x s.f1.toNat) [.int .i64 (x s.f1.toNat)] (fun _ => True) (fun _ => False) rfl (by first | rfl | (simp [Act.eval]; done)) ?aP (fun _ hk => hk.elim) ?aF ?aO ?aB ?aS ?aL ?_; (case aP => exact rfl); (case aF => exact (fun _ _ => trivial)); (case aO => exact HEQ.out.2.2.2.1); (case aB => exact Below.refl _ _); (case aS => exact HEQ.out.own_size); (case aL => simp only [List.length_reverse]; omega); intro v9 w9 ho hb hg hat; obtain ⟨A9, c9, e9, _, _⟩ := Kd.R_reads ho; subst e9; have hb1 := blk_grown HEQ.out.2.2.1 hg (Kd.R_ne HEQ.out.2.2.2.1 HEQ.out.2.2.1 (by decide)); have hcell9 := blk_cell hb1 0; have hfr9 := blk_frozen hb1 0; have HEN := Aside0.mk (EI.pushed HEQ.out ho hb hg); clear ho hb hg hat hb1))
                    go_roundg (l.length - (i + 1))
                    case measure => have := HK.out; omega
                    case rel => exact ⟨i + 1, x s.f1.toNat :: rs, _, by go_num, by omega, rfl, by simp only [List.length_cons]; omega, HEV.out, by have q := HEN.out; simp only [List.length_append, List.length_reverse, List.length_cons, List.length_nil, Nat.zero_add] at q; exact q⟩
                  · rw [if_neg kn] at hst
                    cases hst
                · rw [if_neg k2] at hst
                  have k2b : (s.f0 == 2) = false := beq_eq_false_iff_ne.2 k2
                  clear k2
                  cases rs with
                  | nil => cases hst
                  | cons a r =>
                    dsimp only at hst
                    by_cases k19 : s.f0 = 19
                    · rw [if_pos k19] at hst
                      have k19b : (s.f0 == 19) = true := beq_iff_eq.2 k19
                      obtain rfl := Option.some.inj hst
                      clear k19
                      clear hst
                      have HEQ := Aside0.mk (HEI.out.below ((Below.refl wr.heap.size wr).alloc (Nat.le_refl _) (.cells #[.int .i64 s.f0, .int .i64 s.f1] 35)))
                      have hrl5 : r.length ≤ 100000 := by simp only [List.length_cons] at hrl; omega
                      go_wp2_with (first | (go_at_call 41; refine (pop_calls HEQ.out hrl5).mono ?_; rintro e5 w5 ⟨rfl, ⟨v5, hei5⟩, hfr5⟩; obtain ⟨As, cs, ev, hsc⟩ := hei5.stack; subst ev; have HE5 := Aside0.mk hei5; clear hei5 hfr5) | (at_builtin; refine Kd.R_append KI (w0 := w5) (W := w5) w.heap.size rfl (.tmp 54) (.tmp 56) 83 2 (.int .i64 0) 8 rfl Tryd.underlying83 infoI64 rfl (by decide) (by omega) (.slice As r.length cs) r.reverse (wrap64 (-a)) [.int .i64 (wrap64 (-a))] (fun _ => True) (fun _ => False) rfl (by first | rfl | (simp [Act.eval]; done)) ?aP (fun _ hk => hk.elim) ?aF ?aO ?aB ?aS ?aL ?_; (case aP => exact rfl); (case aF => exact (fun _ _ => trivial)); (case aO => exact HE5.out.2.2.2.1); (case aB => exact Below.refl _ _); (case aS => exact HE5.out.own_size); (case aL => simp only [List.length_reverse]; omega); intro v9 w9 ho hb hg hat; obtain ⟨A9, c9, e9, _, _⟩ := Kd.R_reads ho; subst e9; have hb1 := blk_grown HE5.out.2.2.1 hg (Kd.R_ne HE5.out.2.2.2.1 HE5.out.2.2.1 (by decide)); have hcell9 := blk_cell hb1 0; have hfr9 := blk_frozen hb1 0; have HEN := Aside0.mk (EI.pushed HE5.out ho hb hg); clear ho hb hg hat hb1))
                      go_roundg (l.length - (i + 1))
                      case measure => have := HK.out; omega
                      case rel => exact ⟨i + 1, wrap64 (-a) :: r, _, by go_num, by omega, rfl, by simp only [List.length_cons] at hrl ⊢; omega, HEV.out, by have q := HEN.out; simp only [List.length_append, List.length_reverse, List.length_cons, List.length_nil, Nat.zero_add] at q; exact q⟩
                    · rw [if_neg k19] at hst
                      have k19b : (s.f0 == 19) = false := beq_eq_false_iff_ne.2 k19
                      clear k19
                      by_cases k14 : s.f0 = 14
                      · rw [if_pos k14] at hst
                        have k14b : (s.f0 == 14) = true := beq_iff_eq.2 k14
                        obtain rfl := Option.some.inj hst
                        clear k14
                        clear hst
                        have HEQ := Aside0.mk (HEI.out.below ((Below.refl wr.heap.size wr).alloc (Nat.le_refl _) (.cells #[.int .i64 s.f0, .int .i64 s.f1] 35)))
                        have hrl5 : r.length ≤ 100000 := by simp only [List.length_cons] at hrl; omega
                        go_wp2_with (first | (go_at_call 41; refine (pop_calls HEQ.out hrl5).mono ?_; rintro e5 w5 ⟨rfl, ⟨v5, hei5⟩, hfr5⟩; obtain ⟨As, cs, ev, hsc⟩ := hei5.stack; subst ev; have HE5 := Aside0.mk hei5; clear hei5 hfr5) | (at_builtin; refine Kd.R_append KI (w0 := w5) (W := w5) w.heap.size rfl (.tmp 54) (.tmp 56) 83 2 (.int .i64 0) 8 rfl Tryd.underlying83 infoI64 rfl (by decide) (by omega) (.slice As r.length cs) r.reverse (wrap64 (1 - a)) [.int .i64 (wrap64 (1 - a))] (fun _ => True) (fun _ => False) rfl (by first | rfl | (simp [Act.eval]; done)) ?aP (fun _ hk => hk.elim) ?aF ?aO ?aB ?aS ?aL ?_; (case aP => exact rfl); (case aF => exact (fun _ _ => trivial)); (case aO => exact HE5.out.2.2.2.1); (case aB => exact Below.refl _ _); (case aS => exact HE5.out.own_size); (case aL => simp only [List.length_reverse]; omega); intro v9 w9 ho hb hg hat; obtain ⟨A9, c9, e9, _, _⟩ := Kd.R_reads ho; subst e9; have hb1 := blk_grown HE5.out.2.2.1 hg (Kd.R_ne HE5.out.2.2.2.1 HE5.out.2.2.1 (by decide)); have hcell9 := blk_cell hb1 0; have hfr9 := blk_frozen hb1 0; have HEN := Aside0.mk (EI.pushed HE5.out ho hb hg); clear ho hb hg hat hb1))
                        go_roundg (l.length - (i + 1))
                        case measure => have := HK.out; omega
                        case rel => exact ⟨i + 1, wrap64 (1 - a) :: r, _, by go_num, by omega, rfl, by simp only [List.length_cons] at hrl ⊢; omega, HEV.out, by have q := HEN.out; simp only [List.length_append, List.length_reverse, List.length_cons, List.length_nil, Nat.zero_add] at q; exact q⟩
                      · rw [if_neg k14] at hst
                        have k14b : (s.f0 == 14) = false := beq_eq_false_iff_ne.2 k14
                        clear k14
                        cases r with
                        | nil => cases hst
                        | cons b r2 =>
                          dsimp only at hst
                          obtain ⟨z, hz, e⟩ : ∃ z, eval_two.f s.f0 b a = some z ∧ rs' = z :: r2 := by
                            cases hz : eval_two.f s.f0 b a with
                            | none => rw [hz] at hst; cases hst
                            | some z => rw [hz] at hst; exact ⟨z, rfl, (Option.some.inj hst).symm⟩
                          subst e
                          have HZ := Aside0.mk hz
                          clear hst hz
                          have HEQ := Aside0.mk (HEI.out.below ((Below.refl wr.heap.size wr).alloc (Nat.le_refl _) (.cells #[.int .i64 s.f0, .int .i64 s.f1] 35)))
                          have hrl5 : (b :: r2).length ≤ 100000 := by simp only [List.length_cons] at hrl ⊢; omega
                          have hrl6 : r2.length ≤ 100000 := by simp only [List.length_cons] at hrl; omega
                          have hnsb : wr.heap.size ≠ w1.heap.size := by have := blk_lt HEI.out.2.2.1; omega
                          have HS4 := Aside0.mk (heap_alloc_last wr (.cells #[.int .i64 s.f0, .int .i64 s.f1] 35))
                          go_wp2_with (first | (go_at_call 41; refine (pop_calls HEQ.out hrl5).mono ?_; rintro e5 w5 ⟨rfl, ⟨v5, hei5⟩, hfr5⟩; have HS5 := Aside0.mk ((hfr5 wr.heap.size hnsb).trans HS4.out); have HE5 := Aside0.mk hei5; clear hei5 hfr5) | (go_at_call 41; refine (pop_calls HE5.out hrl6).mono ?_; rintro e6 w6 ⟨rfl, ⟨v6, hei6⟩, hfr6⟩; have hs6 := (hfr6 wr.heap.size hnsb).trans HS5.out; have hk6 : w6.cell? ⟨wr.heap.size, 0, none⟩ = some (.int .i64 s.f0) := blk_cell hs6 0; have HE6 := Aside0.mk hei6; clear hei6 hfr6 hs6) | (go_at_call 42; refine (eval_two.calls s.f0 b a z _ HZ.out).mono ?_; rintro e7 w7 ⟨rfl, hb7⟩; have hei7 := HE6.out.below hb7; obtain ⟨As, cs, ev, hsc⟩ := hei7.stack; subst ev; have HE7 := Aside0.mk hei7; clear hei7 hb7) | (at_builtin; refine Kd.R_append KI (w0 := w7) (W := w7) w.heap.size rfl (.tmp 54) (.tmp 56) 83 2 (.int .i64 0) 8 rfl Tryd.underlying83 infoI64 rfl (by decide) (by omega) (.slice As r2.length cs) r2.reverse (z) [.int .i64 (z)] (fun _ => True) (fun _ => False) rfl (by first | rfl | (simp [Act.eval]; done)) ?aP (fun _ hk => hk.elim) ?aF ?aO ?aB ?aS ?aL ?_; (case aP => exact rfl); (case aF => exact (fun _ _ => trivial)); (case aO => exact HE7.out.2.2.2.1); (case aB => exact Below.refl _ _); (case aS => exact HE7.out.own_size); (case aL => simp only [List.length_reverse]; omega); intro v9 w9 ho hb hg hat; obtain ⟨A9, c9, e9, _, _⟩ := Kd.R_reads ho; subst e9; have hb1 := blk_grown HE7.out.2.2.1 hg (Kd.R_ne HE7.out.2.2.2.1 HE7.out.2.2.1 (by decide)); have hcell9 := blk_cell hb1 0; have hfr9 := blk_frozen hb1 0; have HEN := Aside0.mk (EI.pushed HE7.out ho hb hg); clear ho hb hg hat hb1))
                          go_roundg (l.length - (i + 1))
                          case measure => have := HK.out; omega
                          case rel => exact ⟨i + 1, z :: r2, _, by go_num, by omega, rfl, by simp only [List.length_cons] at hrl ⊢; omega, HEV.out, by have q := HEN.out; simp only [List.length_append, List.length_reverse, List.length_cons, List.length_nil, Nat.zero_add] at q; exact q⟩
          · obtain rfl : i = l.length := by omega
            rw [List.drop_length] at hev
            obtain rfl := Option.some.inj (show some rs = some fin from hev)
            have HEI := Aside0.mk hei
            clear hev hei
            cases rs with
            | nil => exact absurd HF.out (by simp)
            | cons a r =>
              have hf := HF.out
              obtain ⟨rfl, rfl⟩ := Prod.mk.inj (Option.some.inj (show some (a == 1, true) = some (r1, r2) from hf))
              have hrl5 : r.length ≤ 100000 := by simp only [List.length_cons] at hrl; omega
              clear hf HF
              go_wp2_with (first | (go_at_call 41; refine (pop_calls HEI.out hrl5).mono ?_; rintro e5 w5 ⟨rfl, ⟨v5, hei5⟩, hfr5⟩; have HE5 := Aside0.mk hei5; clear hei5 hfr5))
              go_ret2
              exact ⟨rfl, HE5.out.1⟩
end Go.Proofs.YtojfdekiponccaaDoor.H
