import Derived.Test.YtojfdekiponccaaDoorTHRd
import Derived.Test.YtojfdekiponccaaDoorTHx7
import Derived.Test.YtojfdekiponccaaDoorTPA
import Derived.Recover
/- guard.Parse: lexes, reads, gives up by a panic that its deferred closure takes. -/
namespace Go.Proofs.YtojfdekiponccaaDoor.H
open Go.RowKit Go.HK Go.Proofs.YtojfdekiponccaaDoorW.PrintWords Go.Proofs.YtojfdekiponccaaDoorW.PrintLast Go.Proofs.YtojfdekiponccaaDoorW.PrintMore
set_option linter.unusedVariables false
set_option linter.unusedSimpArgs false
def guard_Parse.fin (r : Rz) : Option (List S35 × Int) :=
  match r with
  | none => none
  | some none => some ([], 2)
  | some (some (l, o)) => match l with | [] => some (o, 0) | _ :: _ => some ([], 2)
def guard_Parse.f (k : Nat) (a0 : ByteArray) : Option (List S35 × Int) :=
  (lex_Lex.f a0).bind fun x => if x.2 = 0 then guard_Parse.fin (PF k 0 (x.1, [])) else some ([], x.2)
theorem guard_Parse.mono : ∀ a0 k, LeO (guard_Parse.f k a0) (guard_Parse.f (k + 1) a0) := by
  intro a0 k r h
  unfold guard_Parse.f at h ⊢
  cases e : lex_Lex.f a0 with
  | none => rw [e] at h; cases h
  | some x =>
    rw [e] at h
    simp only [Option.bind_some] at h ⊢
    split at h
    · rename_i c
      rw [if_pos c]
      cases e2 : PF k 0 (x.1, []) with
      | none => rw [e2] at h; cases h
      | some q => rw [Pure.PF_mono1 _ _ _ _ e2, ← e2]; exact h
    · rename_i c
      rw [if_neg c]; exact h
theorem catch_panicking (p q : Addr) (x y : Value) (u : TypeId) (pv : Value) (older : List PanicEntry) (w : World) (hp : w.cell? p = some x) (hx : x.oneCell' = true) (hzp : w.frozen? p = false) (hq : (w.setCell p (.slice none 0 0)).cell? q = some y) (hy : y.oneCell' = true) (hzq : (w.setCell p (.slice none 0 0)).frozen? q = false) :
    CallsD Tryd.prog 61 #[.pointer (some p), .pointer (some q)] (.panicking ({ v := .iface u pv, recovered := false } :: older)) w fun e u' w' =>
      e = .returned (.tuple #[]) ∧ u' = .panicking ({ v := .iface u pv, recovered := true } :: older) ∧ w' = (w.setCell p (.slice none 0 0)).setCell q (.int .i64 2) := by
  refine callsD_of_wpS Tryd.func61 rfl fun c₀ cs hu => ?_
  apply wpS_seq
  apply wpS_region
  simp [wpOpsS, go_sem, recoverD, hu, Tryd.ntmps61, Exit.thenS]
  refine wpS_cond (t := true) (by simp [Act.eval, Array.replicate]) ?_
  simp only [if_true]
  apply wpS_region
  simp [wpOpsS, go_sem, hp, hzp, hq, hzq, bodyPostS, results, Tryd.results61]
theorem catch_idle (p q : Addr) (w : World) :
    CallsD Tryd.prog 61 #[.pointer (some p), .pointer (some q)] .returning w fun e u' w' => e = .returned (.tuple #[]) ∧ u' = .returning ∧ w' = w := by
  refine callsD_of_wpS Tryd.func61 rfl fun c₀ cs hu => ?_
  apply wpS_seq
  apply wpS_region
  simp [wpOpsS, go_sem, recoverD, hu, Tryd.ntmps61, Exit.thenS]
  refine wpS_cond (t := false) (by simp [Act.eval, Array.replicate]) ?_
  simp only [Bool.false_eq_true, if_false]
  refine wpS_of_wp (wp_skip ?_)
  cases c₀
  simp_all [bodyPostS, results, Tryd.results61]
def ParsePost (r1 : List S35) (r2 : Int) (w : World) (e : Ending) (w' : World) : Prop :=
  ∃ v0_ : Value, e = .returned (.tuple #[v0_, .int .i64 r2]) ∧ Kd.R k35 35 w' w.heap.size (fun _ => True) v0_ r1 ∧ Below w.heap.size w w'
theorem two_blocks (w : World) (o1 o2 : Obj) : ((w.alloc o1).alloc o2).heap[w.heap.size]? = some o1 ∧ ((w.alloc o1).alloc o2).heap[w.heap.size + 1]? = some o2 := by
  have e : (w.alloc o1).heap.size = w.heap.size + 1 := by simp
  refine ⟨(Below.heap_alloc _ _ _ (by rw [e]; omega)).trans (heap_alloc_last w o1), ?_⟩
  have := heap_alloc_last (w.alloc o1) o2
  rw [e] at this
  exact this
theorem wr_of {w W : World} (hT : Tabs2 w) (hb : Below w.heap.size w W) : Wr w.heap.size W := by
  obtain ⟨T, pv, hc⟩ := hT.wrong
  have hlt : 0 < w.heap.size := World.block_lt_of_cell? w _ hc
  exact ⟨T, pv, (hb.cell (p := ⟨0, 0, none⟩) hlt).trans hc, hlt⟩
/-- The reader as it is laid: and the two results' cells, which no step of the reader turns. -/
theorem parse_start {w w1 : World} {As : Option Addr} {cs base : Nat} {x : List S35} (ho : Kd.R k35 35 w1 base (fun _ => True) (.slice As x.length cs) x)
    (b0 : w1.heap[w.heap.size]? = some (.cells #[.slice none 0 0] 22 (0, 0))) (b1 : w1.heap[w.heap.size + 1]? = some (.cells #[.int .i64 0] 24 (0, 0))) (hlc : x.length ≤ cs) (hbw : Below w.heap.size w w1) :
    let W := (w1.setCell ⟨w.heap.size + 1, 0, none⟩ (.int .i64 0)).alloc (.cells #[.slice As x.length cs, .slice none 0 0] 107)
    Below w.heap.size w W ∧ RS w.heap.size w1.heap.size (.slice none 0 0) W (x, []) ∧
      ∀ W', KeepBut W W' w1.heap.size (Value.slice none 0 0).ownBlock → W'.heap[w.heap.size]? = some (.cells #[.slice none 0 0] 22 (0, 0)) ∧ W'.heap[w.heap.size + 1]? = some (.cells #[.int .i64 0] 24 (0, 0)) := by
  intro W
  have l1 := blk_lt b1
  have hsz : (w1.setCell ⟨w.heap.size + 1, 0, none⟩ (.int .i64 0)).heap.size = w1.heap.size := by simp [World.setCell]
  have b0' := blk_far b0 (p := ⟨w.heap.size + 1, 0, none⟩) (by show w.heap.size ≠ w.heap.size + 1; omega) (.int .i64 0)
  have b1' := blk_set b1 0 (.int .i64 0)
  have ho' := Kd.R_bound (Kd.R_set ho b1 (by decide) 0 (.int .i64 0))
  have hW : W.heap.size = w1.heap.size + 1 := by show (World.alloc _ _).heap.size = _; simp [hsz]
  have hg : W.heap[w1.heap.size]? = some (.cells #[.slice As x.length cs, .slice none 0 0] 107 (0, 0)) := by
    have := heap_alloc_last (w1.setCell ⟨w.heap.size + 1, 0, none⟩ (.int .i64 0)) (.cells #[.slice As x.length cs, .slice none 0 0] 107)
    rw [hsz] at this
    exact this
  have b0W : W.heap[w.heap.size]? = _ := (Below.heap_alloc _ _ _ (by rw [hsz]; omega)).trans b0'
  have b1W : W.heap[w.heap.size + 1]? = _ := (Below.heap_alloc _ _ _ (by rw [hsz]; omega)).trans b1'
  refine ⟨(hbw.setCell (by show w.heap.size ≤ w.heap.size + 1; omega) _).alloc (by rw [hsz]; omega) _, ⟨As, cs, hg, hlc, ?_, Kd.R_nil _ _ _ _ _, by omega⟩, fun W' hk => ⟨(hk.2 _ (by rw [hW]; omega) (by omega) (by simp [Value.ownBlock])).trans b0W, (hk.2 _ (by rw [hW]; omega) (by omega) (by simp [Value.ownBlock])).trans b1W⟩⟩
  exact Kd.C_foot_own (Kd.R_alloc ho' _) (fun k hk => by have := hk.2.2.1; rw [hsz] at this; omega)
set_option maxRecDepth 100000 in
theorem guard_Parse.calls (k : Nat) (a0 : ByteArray) (r1 : List S35) (r2 : Int) (w : World) (hT : Tabs2 w) (h : guard_Parse.f k a0 = some (r1, r2)) :
    Calls Tryd.prog 43 #[.string a0] w fun e w' => ∃ v0_ : Value, e = .returned (.tuple #[v0_, .int .i64 r2]) ∧ Kd.R k35 35 w' w.heap.size (fun _ => True) v0_ r1 ∧ Below w.heap.size w w' := by
  unfold guard_Parse.f at h
  have hmf : ∀ (fn : Fn) (first cap : Array Value) (w : World), (Instr.makeFunc fn first cap).run Tryd.prog w = .ok (.func fn first cap) w := fun _ _ _ _ => rfl
  cases hx : lex_Lex.f a0 with
  | none => rw [hx] at h; cases h
  | some xe =>
    obtain ⟨x, e⟩ := xe
    rw [hx] at h
    simp only [Option.bind_some] at h
    have HX := Aside0.mk hx
    clear hx
    by_cases he : e = 0
    · subst he
      rw [if_pos rfl] at h
      have hlen : x.length ≤ 60 := by
        rw [Pure.lex_list] at HX
        have hx := HX.out
        split at hx
        · obtain ⟨rfl, -⟩ := Prod.mk.inj (Option.some.inj hx); simp
        · have := Pure.lexF_len _ _ _ _ _ (Nat.le_refl _) hx
          rw [data_len] at this
          simp only [List.length_nil] at this
          omega
      have HLX := Aside0.mk (show ((x, []) : ST).2.length + ((x, []) : ST).1.length ≤ 100000 by simp; omega)
      have HWR := Aside0.mk (fun (W : World) (hb : Below w.heap.size w W) => wr_of hT hb)
      cases hp : PF k 0 (x, []) with
      | none => rw [hp] at h; cases h
      | some res =>
        rw [hp] at h
        have HP := Aside0.mk hp
        cases res with
        | none =>
          obtain ⟨rfl, rfl⟩ := Prod.mk.inj (Option.some.inj (show some ([], 2) = some (r1, r2) from h))
          clear h hT hlen hp
          refine Calls.mono (R := ParsePost [] 2 w) ?_ (fun _ _ h => h)
          go_enter_defers Tryd.func43, Tryd.ntmps43
          go_wp2_with (first | (go_at_call 14; refine (lex_Lex.calls a0 x 0 _ HX.out).mono ?_; rintro e1 w1 ⟨v1, rfl, ho, hb⟩; obtain ⟨As, cs, es, hlc, _⟩ := Kd.R_reads ho; subst es; obtain ⟨q0, q1⟩ := two_blocks w (.cells #[.slice none 0 0] 22) (.cells #[.int .i64 0] 24); have b0 := (hb.block w.heap.size (by simp; omega)).trans q0; have b1 := (hb.block (w.heap.size + 1) (by simp)).trans q1; have c0 := blk_cell b0 0; have c1 := blk_cell b1 0; have f0 := blk_frozen b0 0; have f1 := blk_frozen b1 0; have HB0 := Aside0.mk b0; have HB1 := Aside0.mk b1; have HO := Aside0.mk ho; have HB := Aside0.mk hb; have HLC := Aside0.mk hlc; have HS := Aside0.mk (parse_start ho b0 b1 hlc ((((Below.refl _ _).alloc (Nat.le_refl _) _).alloc (by simp) _).trans (hb.mono (by simp; omega)))); clear ho hb q0 q1 b0 b1 hlc) | (go_at_call 62; obtain ⟨hs1, hs2, hs3⟩ := HS.out; refine (PF_calls k 0 (by omega) w.heap.size _ _ _ (x, []) none (HWR.out _ hs1) hs2 HLX.out HP.out).mono ?_; rintro e2 w4 ⟨v4, hm, T, pv, rfl⟩; have HM := Aside0.mk hm; obtain ⟨b0, b1⟩ := hs3 _ hm.2.1; have HB0b := Aside0.mk b0; have HB1b := Aside0.mk b1; have c0 := blk_cell b0 0; have c1 := blk_cell b1 0; have f0 := blk_frozen b0 0; have f1 := blk_frozen b1 0; clear b0 b1; clear hm hs1 hs2 hs3))
          refine leaves_cons (f := 61) (args := #[.pointer (some ⟨w.heap.size, 0, none⟩), .pointer (some ⟨w.heap.size + 1, 0, none⟩)]) (by simp) (by simp [go_sem]) ?_
          have b1' := blk_far HB1b.out (p := ⟨w.heap.size, 0, none⟩) (by show w.heap.size + 1 ≠ w.heap.size; omega) (.slice none 0 0)
          refine (catch_panicking ⟨w.heap.size, 0, none⟩ ⟨w.heap.size + 1, 0, none⟩ (.slice none 0 0) (.int .i64 0) T pv [] _ c0 rfl f0 (blk_cell b1' 0) rfl (blk_frozen b1' 0)).mono ?_
          rintro e u' w'' ⟨rfl, rfl, rfl⟩
          have hb4 := HS.out.1.trans HM.out.1
          have b1'' := blk_set b1' 0 (.int .i64 2)
          have b0'' := blk_far (blk_set HB0b.out 0 (.slice none 0 0)) (p := ⟨w.heap.size + 1, 0, none⟩) (by show w.heap.size ≠ w.heap.size + 1; omega) (.int .i64 2)
          have k0 := blk_cell b0'' 0
          have k1 := blk_cell b1'' 0
          have hend := (hb4.setCell (p := ⟨w.heap.size, 0, none⟩) (Nat.le_refl _) (.slice none 0 0)).setCell (p := ⟨w.heap.size + 1, 0, none⟩) (by show w.heap.size ≤ w.heap.size + 1; omega) (.int .i64 2)
          generalize (w4.setCell ⟨w.heap.size, 0, none⟩ (.slice none 0 0)).setCell ⟨w.heap.size + 1, 0, none⟩ (.int .i64 2) = w5 at *
          clear c0 c1 f0 f1
          show Leaves _ _ _ _ [] .returning w5
          refine ⟨.tuple #[.slice none 0 0, .int .i64 2], ?_, ⟨_, rfl, Kd.R_nil _ _ _ _ _, hend⟩⟩
          simp [results, Tryd.results43, go_sem, k0, k1]
        | some s =>
          obtain ⟨l, o⟩ := s
          cases l with
          | nil =>
            obtain ⟨rfl, rfl⟩ := Prod.mk.inj (Option.some.inj (show some (o, 0) = some (r1, r2) from h))
            clear h hT hlen hp
            refine Calls.mono (R := ParsePost o 0 w) ?_ (fun _ _ h => h)
            go_enter_defers Tryd.func43, Tryd.ntmps43
            go_wp2_with (first | (go_at_call 14; refine (lex_Lex.calls a0 x 0 _ HX.out).mono ?_; rintro e1 w1 ⟨v1, rfl, ho, hb⟩; obtain ⟨As, cs, es, hlc, _⟩ := Kd.R_reads ho; subst es; obtain ⟨q0, q1⟩ := two_blocks w (.cells #[.slice none 0 0] 22) (.cells #[.int .i64 0] 24); have b0 := (hb.block w.heap.size (by simp; omega)).trans q0; have b1 := (hb.block (w.heap.size + 1) (by simp)).trans q1; have c0 := blk_cell b0 0; have c1 := blk_cell b1 0; have f0 := blk_frozen b0 0; have f1 := blk_frozen b1 0; have HB0 := Aside0.mk b0; have HB1 := Aside0.mk b1; have HO := Aside0.mk ho; have HB := Aside0.mk hb; have HLC := Aside0.mk hlc; have HS := Aside0.mk (parse_start ho b0 b1 hlc ((((Below.refl _ _).alloc (Nat.le_refl _) _).alloc (by simp) _).trans (hb.mono (by simp; omega)))); clear ho hb q0 q1 b0 b1 hlc) | (go_at_call 62; obtain ⟨hs1, hs2, hs3⟩ := HS.out; refine (PF_calls k 0 (by omega) w.heap.size _ _ _ (x, []) (some ([], o)) (HWR.out _ hs1) hs2 HLX.out HP.out).mono ?_; rintro e2 w4 ⟨v4, hm, rfl, hr4⟩; have HM := Aside0.mk hm; obtain ⟨b0, b1⟩ := hs3 _ hm.2.1; have HB0b := Aside0.mk b0; have HB1b := Aside0.mk b1; have c0 := blk_cell b0 0; have c1 := blk_cell b1 0; have f0 := blk_frozen b0 0; have f1 := blk_frozen b1 0; clear b0 b1; obtain ⟨A4, c4, h41, h42, h43, h44, _⟩ := hr4; have hcr0 : w4.cell? ⟨w1.heap.size, 0, none⟩ = some (.slice A4 0 c4) := blk_cell h41 0; obtain ⟨A5, c5, e5, _, _⟩ := Kd.R_reads h44; subst e5; have hcr1 : w4.cell? ⟨w1.heap.size, 1, none⟩ = some (.slice A5 o.length c5) := blk_cell h41 1; have H41 := Aside0.mk h41; have H44 := Aside0.mk h44; clear h41 h43 h44 hm hs1 hs2 hs3))
            refine leaves_cons (f := 61) (args := #[.pointer (some ⟨w.heap.size, 0, none⟩), .pointer (some ⟨w.heap.size + 1, 0, none⟩)]) (by simp) (by simp [go_sem]) ?_
            refine (catch_idle ⟨w.heap.size, 0, none⟩ ⟨w.heap.size + 1, 0, none⟩ _).mono ?_
            rintro e u' w'' ⟨rfl, rfl, rfl⟩
            have hb4 := HS.out.1.trans HM.out.1
            have b1' := blk_far HB1b.out (p := ⟨w.heap.size, 0, none⟩) (by show w.heap.size + 1 ≠ w.heap.size; omega) (.slice A5 o.length c5)
            have b1'' := blk_set b1' 0 (.int .i64 0)
            have b0'' := blk_far (blk_set HB0b.out 0 (.slice A5 o.length c5)) (p := ⟨w.heap.size + 1, 0, none⟩) (by show w.heap.size ≠ w.heap.size + 1; omega) (.int .i64 0)
            have k0 := blk_cell b0'' 0
            have k1 := blk_cell b1'' 0
            have hr5 := Kd.R_set (Kd.R_set H44.out HB0b.out (by decide) 0 (.slice A5 o.length c5)) b1' (by decide) 0 (.int .i64 0)
            have hend := (hb4.setCell (p := ⟨w.heap.size, 0, none⟩) (Nat.le_refl _) (.slice A5 o.length c5)).setCell (p := ⟨w.heap.size + 1, 0, none⟩) (by show w.heap.size ≤ w.heap.size + 1; omega) (.int .i64 0)
            generalize (w4.setCell ⟨w.heap.size, 0, none⟩ (.slice A5 o.length c5)).setCell ⟨w.heap.size + 1, 0, none⟩ (.int .i64 0) = w5 at *
            clear c0 c1 f0 f1
            show Leaves _ _ _ _ [] .returning w5
            refine ⟨.tuple #[.slice A5 o.length c5, .int .i64 0], ?_, ⟨_, rfl, hr5, hend⟩⟩
            simp [results, Tryd.results43, go_sem, k0, k1]
          | cons a l =>
            obtain ⟨rfl, rfl⟩ := Prod.mk.inj (Option.some.inj (show some ([], 2) = some (r1, r2) from h))
            clear h hT hlen hp
            refine Calls.mono (R := ParsePost [] 2 w) ?_ (fun _ _ h => h)
            go_enter_defers Tryd.func43, Tryd.ntmps43
            go_wp2_with (first | (go_at_call 14; refine (lex_Lex.calls a0 x 0 _ HX.out).mono ?_; rintro e1 w1 ⟨v1, rfl, ho, hb⟩; obtain ⟨As, cs, es, hlc, _⟩ := Kd.R_reads ho; subst es; obtain ⟨q0, q1⟩ := two_blocks w (.cells #[.slice none 0 0] 22) (.cells #[.int .i64 0] 24); have b0 := (hb.block w.heap.size (by simp; omega)).trans q0; have b1 := (hb.block (w.heap.size + 1) (by simp)).trans q1; have c0 := blk_cell b0 0; have c1 := blk_cell b1 0; have f0 := blk_frozen b0 0; have f1 := blk_frozen b1 0; have HB0 := Aside0.mk b0; have HB1 := Aside0.mk b1; have HO := Aside0.mk ho; have HB := Aside0.mk hb; have HLC := Aside0.mk hlc; have HS := Aside0.mk (parse_start ho b0 b1 hlc ((((Below.refl _ _).alloc (Nat.le_refl _) _).alloc (by simp) _).trans (hb.mono (by simp; omega)))); clear ho hb q0 q1 b0 b1 hlc) | (go_at_call 62; obtain ⟨hs1, hs2, hs3⟩ := HS.out; refine (PF_calls k 0 (by omega) w.heap.size _ _ _ (x, []) (some (a :: l, o)) (HWR.out _ hs1) hs2 HLX.out HP.out).mono ?_; rintro e2 w4 ⟨v4, hm, rfl, hr4⟩; have HM := Aside0.mk hm; obtain ⟨b0, b1⟩ := hs3 _ hm.2.1; have HB0b := Aside0.mk b0; have HB1b := Aside0.mk b1; have c0 := blk_cell b0 0; have c1 := blk_cell b1 0; have f0 := blk_frozen b0 0; have f1 := blk_frozen b1 0; clear b0 b1; obtain ⟨A4, c4, h41, h42, h43, h44, _⟩ := hr4; have hcr0 : w4.cell? ⟨w1.heap.size, 0, none⟩ = some (.slice A4 (l.length + 1) c4) := blk_cell h41 0; obtain ⟨T, pv, hwr, _⟩ := HWR.out _ (HS.out.1.trans HM.out.1); clear h41 h43 h44 hm hs1 hs2 hs3))
            refine leaves_cons (f := 61) (args := #[.pointer (some ⟨w.heap.size, 0, none⟩), .pointer (some ⟨w.heap.size + 1, 0, none⟩)]) (by simp) (by simp [go_sem]) ?_
            have b1' := blk_far HB1b.out (p := ⟨w.heap.size, 0, none⟩) (by show w.heap.size + 1 ≠ w.heap.size; omega) (.slice none 0 0)
            refine (catch_panicking ⟨w.heap.size, 0, none⟩ ⟨w.heap.size + 1, 0, none⟩ (.slice none 0 0) (.int .i64 0) T pv [] _ c0 rfl f0 (blk_cell b1' 0) rfl (blk_frozen b1' 0)).mono ?_
            rintro e u' w'' ⟨rfl, rfl, rfl⟩
            have hb4 := HS.out.1.trans HM.out.1
            have b1'' := blk_set b1' 0 (.int .i64 2)
            have b0'' := blk_far (blk_set HB0b.out 0 (.slice none 0 0)) (p := ⟨w.heap.size + 1, 0, none⟩) (by show w.heap.size ≠ w.heap.size + 1; omega) (.int .i64 2)
            have k0 := blk_cell b0'' 0
            have k1 := blk_cell b1'' 0
            have hend := (hb4.setCell (p := ⟨w.heap.size, 0, none⟩) (Nat.le_refl _) (.slice none 0 0)).setCell (p := ⟨w.heap.size + 1, 0, none⟩) (by show w.heap.size ≤ w.heap.size + 1; omega) (.int .i64 2)
            generalize (w4.setCell ⟨w.heap.size, 0, none⟩ (.slice none 0 0)).setCell ⟨w.heap.size + 1, 0, none⟩ (.int .i64 2) = w5 at *
            clear c0 c1 f0 f1
            show Leaves _ _ _ _ [] .returning w5
            refine ⟨.tuple #[.slice none 0 0, .int .i64 2], ?_, ⟨_, rfl, Kd.R_nil _ _ _ _ _, hend⟩⟩
            simp [results, Tryd.results43, go_sem, k0, k1]
    · rw [if_neg he] at h
      obtain ⟨rfl, rfl⟩ := Prod.mk.inj (Option.some.inj h)
      have hne : (e != 0) = true := bne_iff_ne.2 he
      clear h hT
      refine Calls.mono (R := ParsePost [] e w) ?_ (fun _ _ h => h)
      go_enter_defers Tryd.func43, Tryd.ntmps43
      go_wp2_with (first | (go_at_call 14; refine (lex_Lex.calls a0 x e _ HX.out).mono ?_; rintro e1 w1 ⟨v1, rfl, ho, hb⟩; obtain ⟨As, cs, es, hlc, _⟩ := Kd.R_reads ho; subst es; obtain ⟨q0, q1⟩ := two_blocks w (.cells #[.slice none 0 0] 22) (.cells #[.int .i64 0] 24); have b0 := (hb.block w.heap.size (by simp; omega)).trans q0; have b1 := (hb.block (w.heap.size + 1) (by simp)).trans q1; have c0 := blk_cell b0 0; have c1 := blk_cell b1 0; have f0 := blk_frozen b0 0; have f1 := blk_frozen b1 0; have HB0 := Aside0.mk b0; have HB1 := Aside0.mk b1; have HO := Aside0.mk ho; have HB := Aside0.mk hb; have HLC := Aside0.mk hlc; clear ho hb q0 q1 b0 b1 hlc))
      go_region
      all_goals go_wp2
      have hbw : Below w.heap.size w w1 := (((Below.refl _ _).alloc (Nat.le_refl _) _).alloc (by simp) _).trans (HB.out.mono (by simp; omega))
      refine ⟨.tuple #[.slice none 0 0, .int .i64 e], ?_, ⟨_, rfl, Kd.R_nil _ _ _ _ _, ?_⟩⟩
      · simp [results, Tryd.results43, go_sem, c0, c1]
      · exact (((hbw.setCell (by simp) _).setCell (by simp) _).setCell (by simp) _).drew
end Go.Proofs.YtojfdekiponccaaDoor.H
