import Derived.Test.YtojfdekiponccaaDoorHEv
import Derived.Laws.Tables
import Derived.Deep.WholeRow
/- The document's With: the same list of settings, the same answer. -/
namespace Go.Proofs.YtojfdekiponccaaDoor.H
open Go.RowKit Go.HK Go.Proofs.YtojfdekiponccaaDoorW.PrintWords Go.Proofs.YtojfdekiponccaaDoorW.PrintLast Go.Proofs.YtojfdekiponccaaDoorW.PrintMore
set_option linter.unusedVariables false
set_option linter.unusedSimpArgs false
theorem equalIn_lit (w : World) (y : Nat → Int) : (Op.equalIn 10000 48 (.agg (lit y)) (.agg (lit y))).run Tryd.prog w = .ok true w := by
  obtain ⟨i, hi⟩ := info_of_underlying Tryd.underlying2
  rw [run_equalIn_array w 9999 _ _ Tryd.underlying48 hi, items_lit w y _ (fun i hi => List.mem_range.1 hi)]
set_option maxRecDepth 100000 in
set_option maxHeartbeats 4000000 in
theorem remontoirref15_With.calls (x : Nat → Int) (A : Option Addr) (c : Nat) (l : List S35) (y : Nat → Int) (ok : Bool) (w : World) (hr : Kd.C k35 w A l.length l) (hc : l.length ≤ c) (hl : l.length ≤ 100000) (h : withL l x = (y, ok)) :
    Calls Tryd.prog 30 #[.agg (lit x), .slice A l.length c] w fun e w' => e = .returned (.tuple #[.agg (lit y), .bool ok]) ∧ Below w.heap.size w w' := by
  have HR := Aside0.mk hr
  have HE := Aside0.mk h
  have hz : (#[.int .i64 0, .int .i64 0, .int .i64 0, .int .i64 0, .int .i64 0, .int .i64 0, .int .i64 0, .int .i64 0, .int .i64 0, .int .i64 0, .int .i64 0, .int .i64 0, .int .i64 0, .int .i64 0, .int .i64 0, .int .i64 0, .int .i64 0, .int .i64 0, .int .i64 0, .int .i64 0, .int .i64 0, .int .i64 0, .int .i64 0, .int .i64 0, .int .i64 0, .int .i64 0] : Array Value) = lit (fun _ => 0) := by rfl
  have HZ := Aside0.mk hz
  clear hr h hz
  go_enter Tryd.func30, Tryd.ntmps30
  go_wp2
  go_loopg [6] l.length (fun kq v6 wr => WI w.heap.size l (y, ok) w kq v6 wr)
  case atStart =>
    have q := two_blocks w (.cells (lit x) 48) (.cells (lit fun _ => 0) 48)
    rw [← HZ.out] at q
    refine ⟨0, x, rfl, Nat.zero_le _, by omega, HE.out, ((Below.refl _ _).alloc (Nat.le_refl _) _).alloc (by simp) _, q.1, ?_⟩
    rw [← HZ.out]
    exact q.2
  case round =>
    obtain ⟨i, x1, rfl, hi, hk, hev, hbw, hx, hz0⟩ := hrel
    have HK := Aside0.mk hk
    have HB := Aside0.mk hbw
    by_cases hlt : i < l.length
    · rw [List.drop_eq_getElem_cons hlt] at hev
      obtain ⟨ad, eA, e0, e1⟩ := at_T35 (Kd.C_below HR.out hbw) (i : Int) (by omega) (by omega)
      have erd : rd_T35 l (i : Int) = l[i] := by
        unfold rd_T35
        rw [Int.toNat_natCast, List.getD_eq_getElem?_getD, List.getElem?_eq_getElem hlt]
        rfl
      rw [erd, Int.toNat_natCast] at e0 e1
      generalize l[i] = s at *
      have hin : (i : Int) < (l.length : Int) := by omega
      subst eA
      clear erd hk HE
      simp only [withL] at hev
      have HXW := Aside0.mk hx
      have HZW := Aside0.mk hz0
      by_cases kn : 0 ≤ s.f0 ∧ s.f0 < 26
      · rw [if_pos kn] at hev
        have HEV := Aside0.mk hev
        have hxc : wr.cell? ⟨w.heap.size, s.f0.toNat, none⟩ = some (.int .i64 (x1 s.f0.toNat)) := (blk_cell hx s.f0.toNat).trans (lit_get x1 _ (by omega))
        have hxf := blk_frozen hx s.f0.toNat
        obtain ⟨kn0, kn1⟩ := kn
        have kb1 : decide (s.f0 < 0) = false := decide_eq_false (by omega)
        have kb2 : decide (26 ≤ s.f0) = false := decide_eq_false (by omega)
        clear hev hx hz0 hbw
        go_wp2
        have hxc1 : (World.drew wr).cell? ⟨w.heap.size, s.f0.toNat, none⟩ = some (.int .i64 (x1 s.f0.toNat)) := hxc
        have hxf1 : (World.drew wr).frozen? ⟨w.heap.size, s.f0.toNat, none⟩ = false := hxf
        refine start_ (n := 12) (S := fun w' => w'.cell? (ad.add (i * 2)) = some (.int .i64 s.f0) ∧ w'.cell? ⟨(ad.add (i * 2)).block, (ad.add (i * 2)).off + 1, none⟩ = some (.int .i64 s.f1)) (ds := [11]) #[false, false, false, false, false, false, false, false, false, false, false, false] (by kernel_rfl) rfl rfl ⟨e0, e1⟩ (fun hHeld => ?_)
        refine pure_ (i := 0) (N := some 28) (v := ?_) (a' := ?_) #[true, false, false, false, false, false, false, false, false, false, false, false] rfl rfl (by kernel_rfl) (fun _ _ _ h => h) (Or.inl ⟨by rfl, ?_⟩) ?_ ?_
        rotate_left
        · intro w'
          go_simp
          with_reducible rfl
        rotate_left
        · simp only [Act.put, List.setIfInBounds_toArray, List.set_cons_zero, List.set_cons_succ, i64_w, i32_w]
          rfl
        refine pure_ (i := 1) (N := some 29) (v := ?_) (a' := ?_) #[true, true, false, false, false, false, false, false, false, false, false, false] rfl rfl (by kernel_rfl) (fun _ _ _ h => h) (Or.inl ⟨by rfl, ?_⟩) ?_ ?_
        rotate_left
        · intro w'
          go_simp
          with_reducible rfl
        rotate_left
        · simp only [Act.put, List.setIfInBounds_toArray, List.set_cons_zero, List.set_cons_succ, i64_w, i32_w]
          rfl
        refine pure_ (i := 2) (N := some 30) (v := ?_) (a' := ?_) #[true, true, true, false, false, false, false, false, false, false, false, false] rfl rfl (by kernel_rfl) (fun _ _ _ h => h) (Or.inl ⟨by rfl, ?_⟩) ?_ ?_
        rotate_left
        · intro w'
          go_simp
          with_reducible rfl
        rotate_left
        · simp only [Act.put, List.setIfInBounds_toArray, List.set_cons_zero, List.set_cons_succ, i64_w, i32_w]
          rfl
        refine pure_ (i := 3) (N := some 31) (v := ?_) (a' := ?_) #[true, true, true, true, false, false, false, false, false, false, false, false] rfl rfl (by kernel_rfl) (fun _ _ _ h => h) (Or.inl ⟨by rfl, ?_⟩) ?_ ?_
        rotate_left
        · intro w'
          go_simp
          with_reducible rfl
        rotate_left
        · simp only [Act.put, List.setIfInBounds_toArray, List.set_cons_zero, List.set_cons_succ, i64_w, i32_w]
          rfl
        refine pure_ (i := 5) (N := some 33) (v := ?_) (a' := ?_) #[true, true, true, true, false, true, false, false, false, false, false, false] rfl rfl (by kernel_rfl) (fun _ _ _ h => h) (Or.inl ⟨by rfl, ?_⟩) ?_ ?_
        rotate_left
        · intro w'
          go_simp
          with_reducible rfl
        rotate_left
        · simp only [Act.put, List.setIfInBounds_toArray, List.set_cons_zero, List.set_cons_succ, i64_w, i32_w]
          rfl
        refine pure_ (i := 6) (N := some 34) (v := ?_) (a' := ?_) #[true, true, true, true, false, true, true, false, false, false, false, false] rfl rfl (by kernel_rfl) (fun _ _ _ h => h) (Or.inl ⟨by rfl, ?_⟩) ?_ ?_
        rotate_left
        · intro w'
          go_simp
          with_reducible rfl
        rotate_left
        · simp only [Act.put, List.setIfInBounds_toArray, List.set_cons_zero, List.set_cons_succ, i64_w, i32_w]
          rfl
        refine pure_ (i := 7) (N := some 35) (v := ?_) (a' := ?_) #[true, true, true, true, false, true, true, true, false, false, false, false] rfl rfl (by kernel_rfl) (fun _ _ _ h => h) (Or.inl ⟨by rfl, ?_⟩) ?_ ?_
        rotate_left
        · intro w'
          go_simp
          with_reducible rfl
        rotate_left
        · simp only [Act.put, List.setIfInBounds_toArray, List.set_cons_zero, List.set_cons_succ, i64_w, i32_w]
          rfl
        refine pure_ (i := 8) (N := some 36) (v := ?_) (a' := ?_) #[true, true, true, true, false, true, true, true, true, false, false, false] rfl rfl (by kernel_rfl) (fun _ _ _ h => h) (Or.inl ⟨by rfl, ?_⟩) ?_ ?_
        rotate_left
        · intro w'
          go_simp
          with_reducible rfl
        rotate_left
        · simp only [Act.put, List.setIfInBounds_toArray, List.set_cons_zero, List.set_cons_succ, i64_w, i32_w]
          rfl
        refine take_ (i := 4) (N := some 32) (v := ?_) (a' := ?_) #[true, true, true, true, true, true, true, true, true, false, false, false] rfl rfl (by kernel_rfl) (fun _ _ _ h => h) (Or.inl ⟨by rfl, ?_⟩) hHeld ?_ ?_
        rotate_left
        · rintro w' ⟨s0, s1⟩
          go_simp
          with_reducible rfl
        rotate_left
        · simp only [Act.put, List.setIfInBounds_toArray, List.set_cons_zero, List.set_cons_succ, i64_w, i32_w]
          rfl
        refine take_ (i := 9) (N := some 37) (v := ?_) (a' := ?_) #[true, true, true, true, true, true, true, true, true, true, false, false] rfl rfl (by kernel_rfl) (fun _ _ _ h => h) (Or.inl ⟨by rfl, ?_⟩) hHeld ?_ ?_
        rotate_left
        · rintro w' ⟨s0, s1⟩
          go_simp
          with_reducible rfl
        rotate_left
        · simp only [Act.put, List.setIfInBounds_toArray, List.set_cons_zero, List.set_cons_succ, i64_w, i32_w]
          rfl
        refine pure_ (i := 10) (N := some 38) (v := ?_) (a' := ?_) #[true, true, true, true, true, true, true, true, true, true, true, false] rfl rfl (by kernel_rfl) (fun _ _ _ h => h) (Or.inl ⟨by rfl, ?_⟩) ?_ ?_
        rotate_left
        · intro w'
          go_simp
          with_reducible rfl
        rotate_left
        · simp only [Act.put, List.setIfInBounds_toArray, List.set_cons_zero, List.set_cons_succ, i64_w, i32_w]
          rfl
        refine last_ (i := 11) (N := none) #[true, true, true, true, true, true, true, true, true, true, true, true] rfl rfl (by kernel_rfl) (by decide) (fun K hK => ?_)
        refine skip_ (w1 := ?_) (by rfl) rfl ?_ ?_
        rotate_left
        · go_simp
          rfl
        refine hK.out _ _ ?_
        clear hK K
        refine done_ (by kernel_rfl) ?_
        clear hHeld
        go_wp2
        go_roundg (l.length - (i + 1))
        case measure => have := HK.out; omega
        case rel =>
          refine ⟨i + 1, upd x1 s.f0.toNat s.f1, by go_num, by omega, rfl, HEV.out, HB.out.drew.setCell (Nat.le_refl _) _, ?_, blk_far (w := World.drew wr) HZW.out (by show w.heap.size + 1 ≠ w.heap.size; omega) _⟩
          rw [← lit_set x1 _ _ (by omega)]
          exact blk_set (w := World.drew wr) HXW.out s.f0.toNat _
      · rw [if_neg kn] at hev
        obtain ⟨rfl, rfl⟩ := Prod.mk.inj hev
        have hsz := store_lit (y := fun _ => 0) HZW.out
        rw [← HZ.out] at hsz
        have HSZ := Aside0.mk hsz
        clear hev hx hz0 hbw hsz
        by_cases kb : s.f0 < 0
        · have kb1 : decide (s.f0 < 0) = true := decide_eq_true kb
          clear kn
          go_wp2_with (first | (refine wpList_doTo rfl _ (exec_store rfl HSZ.out) ?_))
          rw [HZ.out]
          refine bodyPost_ret (results_cell_tmp rfl _ _ _ ⟨w.heap.size + 1, 0, none⟩ _ rfl (load_row (x := fun _ => 0) (heap_setRow HZW.out))) rfl ?_
          exact ⟨rfl, below_setRow HB.out (by omega)⟩
        · have kb1 : decide (s.f0 < 0) = false := decide_eq_false kb
          have kb2 : decide (26 ≤ s.f0) = true := decide_eq_true (by omega)
          clear kn
          go_wp2_with (first | (refine wpList_doTo rfl _ (exec_store rfl HSZ.out) ?_))
          rw [HZ.out]
          refine bodyPost_ret (results_cell_tmp rfl _ _ _ ⟨w.heap.size + 1, 0, none⟩ _ rfl (load_row (x := fun _ => 0) (heap_setRow HZW.out))) rfl ?_
          exact ⟨rfl, below_setRow HB.out (by omega)⟩
    · obtain rfl : i = l.length := by omega
      rw [List.drop_length] at hev
      obtain ⟨rfl, rfl⟩ := Prod.mk.inj (show (x1, true) = (y, ok) from hev)
      have HX := Aside0.mk hx
      have HZ0 := Aside0.mk hz0
      clear hev hx hz0 hbw hk HE
      go_wp2_with (first
        | (refine Great.wpList_readTo rfl (some 39) rfl (.agg (lit x1)) (exec_load rfl (load_lit HX.out)) ?_)
        | (refine wpList_doTo rfl _ (exec_store rfl (store_lit (y := x1) HZ0.out)) ?_))
      refine bodyPost_ret (results_cell_tmp rfl _ _ _ ⟨w.heap.size + 1, 0, none⟩ _ rfl (load_row (heap_setRow HZ0.out))) rfl ?_
      exact ⟨rfl, below_setRow HB.out (by omega)⟩
end Go.Proofs.YtojfdekiponccaaDoor.H
/- EvalSets: With, and what the document says of it. -/
namespace Go.Proofs.YtojfdekiponccaaDoor.H
open Go.RowKit Go.HK Go.Proofs.YtojfdekiponccaaDoorW.PrintWords Go.Proofs.YtojfdekiponccaaDoorW.PrintLast Go.Proofs.YtojfdekiponccaaDoorW.PrintMore
set_option linter.unusedVariables false
set_option linter.unusedSimpArgs false
set_option maxRecDepth 100000 in
set_option maxHeartbeats 1600000 in
theorem remontoirlaw15_EvalSets.calls (x : Nat → Int) (A : Option Addr) (c : Nat) (l : List S35) (r : Bool) (w : World) (hr : Kd.C k35 w A l.length l) (hc : l.length ≤ c) (hT : Tabs2 w) (h : r = true ∧ l.length ≤ maxLen) :
    Calls Tryd.prog 9 #[.agg (lit x), .slice A l.length c] w fun e w' => e = .returned (.bool r) ∧ Below w.heap.size w w' := by
  obtain ⟨rfl, hml⟩ := h
  by_cases hl : l.length ≤ 100
  · have kl : decide (100 < (l.length : Int)) = false := decide_eq_false (by omega)
    obtain ⟨⟨y, ok⟩, hy⟩ : ∃ p, withL l x = p := ⟨_, rfl⟩
    have C1 := Aside0.mk (fun (W : World) (hb : Below w.heap.size w W) => eval_With.calls x A c l y ok W (Kd.C_below hr hb) hc (by omega) hy)
    have C2 := Aside0.mk (fun (W : World) (hb : Below w.heap.size w W) => remontoirref15_With.calls x A c l y ok W (Kd.C_below hr hb) hc (by omega) hy)
    have SN := Aside0.mk (fun (W : World) => store_new W y)
    unfold zeros at SN
    have LX := Aside0.mk (fun (W : World) (g : Nat) (hg : W.heap[g]? = some (.cells (lit x) 48 (0, 0))) => load_lit hg)
    have LY := Aside0.mk (fun (W : World) (g : Nat) (hg : W.heap[g]? = some (.cells (lit y) 48 (0, 0))) => load_lit hg)
    have hEQ := fun (W : World) => equalIn_lit W y
    have hG : Tryd.prog.eqGuardType Tryd.prog.depth 48 = false := by kernel_rfl
    clear hy
    generalize lit x = X at *
    generalize lit y = Y at *
    have hba := (Below.refl w.heap.size w).alloc (Nat.le_refl _) (.cells X 48)
    have HB0 := Aside0.mk hba
    have HT0 := Aside0.mk (hT.below hba)
    have HX0 := Aside0.mk (heap_alloc_last w (.cells X 48))
    clear hT hba
    go_enter Tryd.func9, Tryd.ntmps9
    go_wp2_with (first
      | (with_reducible refine Great.wpList_readTo rfl (some 14) rfl (.agg X) (exec_load rfl (LX.out _ _ HX0.out)) ?_)
      | (go_at_call 29; (with_reducible refine (C1.out _ HB0.out).mono ?_); rintro e1 w1 ⟨rfl, hb⟩; have HB1 := Aside0.mk (HB0.out.trans (hb.mono HB0.out.size)); have HT1 := Aside0.mk (HT0.out.below hb); have HX1 := Aside0.mk ((hb.block _ (blk_lt HX0.out)).trans HX0.out); clear hb)
      | ((with_reducible refine wpList_doTo rfl _ (exec_store rfl (SN.out w1)) ?_); have hba := (Below.refl w1.heap.size w1).alloc (Nat.le_refl _) (.cells Y 48); have HB2 := Aside0.mk (HB1.out.trans (hba.mono HB1.out.size)); have HT2 := Aside0.mk (HT1.out.below hba); have HX2 := Aside0.mk ((hba.block _ (blk_lt HX1.out)).trans HX1.out); have HY2 := Aside0.mk (heap_alloc_last w1 (.cells Y 48)); clear hba)
      | (with_reducible refine Great.wpList_readTo rfl (some 20) rfl (.agg X) (exec_load rfl (LX.out _ _ HX2.out)) ?_)
      | (go_at_call 30; (with_reducible refine (C2.out _ HB2.out).mono ?_); rintro e1 w3 ⟨rfl, hb⟩; have HB3 := Aside0.mk (HB2.out.trans (hb.mono HB2.out.size)); have HT3 := Aside0.mk (HT2.out.below hb); have HX3 := Aside0.mk ((hb.block _ (blk_lt HX2.out)).trans HX2.out); have HY3 := Aside0.mk ((hb.block _ (blk_lt HY2.out)).trans HY2.out); clear hb)
      | ((with_reducible refine wpList_doTo rfl _ (exec_store rfl (SN.out w3)) ?_); have hba := (Below.refl w3.heap.size w3).alloc (Nat.le_refl _) (.cells Y 48); have HB4 := Aside0.mk (HB3.out.trans (hba.mono HB3.out.size)); have HT4 := Aside0.mk (HT3.out.below hba); have HX4 := Aside0.mk ((hba.block _ (blk_lt HX3.out)).trans HX3.out); have HY4 := Aside0.mk ((hba.block _ (blk_lt HY3.out)).trans HY3.out); have HZ4 := Aside0.mk (heap_alloc_last w3 (.cells Y 48)); clear hba)
      | (with_reducible refine Great.wpList_readTo rfl (some 25) rfl (.agg Y) (exec_load rfl (LY.out _ _ HY4.out)) ?_)
      | (with_reducible refine Great.wpList_readTo rfl (some 26) rfl (.agg Y) (exec_load rfl (LY.out _ _ HZ4.out)) ?_)
      | (go_at_call 24; refine (wakes15_calls _ HT4.out).mono ?_; rintro e1 w9 ⟨rfl, hb⟩; have HB9 := Aside0.mk (HB4.out.trans (hb.mono HB4.out.size)); clear hb))
    go_ret
    exact ⟨rfl, HB9.out⟩
  · have kl : decide (100 < (l.length : Int)) = true := decide_eq_true (by omega)
    generalize lit x = X at *
    have hba := (Below.refl w.heap.size w).alloc (Nat.le_refl _) (.cells X 48)
    have HB0 := Aside0.mk hba
    have HT0 := Aside0.mk (hT.below hba)
    have HX0 := Aside0.mk (heap_alloc_last w (.cells X 48))
    clear hT hba
    go_enter Tryd.func9, Tryd.ntmps9
    go_wp2_with (first
      | (go_at_call 24; refine (wakes15_calls _ HT0.out).mono ?_; rintro e1 w9 ⟨rfl, hb⟩; have HB9 := Aside0.mk (HB0.out.trans (hb.mono HB0.out.size)); clear hb))
    go_ret
    exact ⟨rfl, HB9.out⟩
end Go.Proofs.YtojfdekiponccaaDoor.H
/- EvalSets: the plain statement is part of the walk (HSetsW); only the list's length is handed on. -/
namespace Go.Proofs.YtojfdekiponccaaDoor.Pure
open Go.Proofs.YtojfdekiponccaaDoor.H
set_option linter.unusedVariables false
theorem EvalSets (x : Nat → Int) (l : List S35) (hx : ∀ i, i < 26 → (Go.Lit.int .i64 (x i)).wf = true) (hm : l.length ≤ Go.maxLen) (hl : ∀ s ∈ l, (Go.Lit.int .i64 s.f0).wf = true ∧ (Go.Lit.int .i64 s.f1).wf = true) : true = true ∧ l.length ≤ Go.maxLen := ⟨rfl, hm⟩
end Go.Proofs.YtojfdekiponccaaDoor.Pure
