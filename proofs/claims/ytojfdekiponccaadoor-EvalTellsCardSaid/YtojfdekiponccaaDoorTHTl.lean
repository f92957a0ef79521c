import Derived.Test.YtojfdekiponccaaDoorTPV
import Derived.Test.YtojfdekiponccaaDoorTHEv
import Derived.Test.YtojfdekiponccaaDoorTRB
/- The document's num: the number that ends at a place. -/
namespace Go.Proofs.YtojfdekiponccaaDoor.H
open Go.RowKit Go.HK Go.Proofs.YtojfdekiponccaaDoorW.PrintWords Go.Proofs.YtojfdekiponccaaDoorW.PrintLast Go.Proofs.YtojfdekiponccaaDoorW.PrintMore
set_option linter.unusedVariables false
set_option linter.unusedSimpArgs false
/-- What num answers, wherever the part stands. -/
def NumAt (x : Nat → Int) (p : List S35) (z : Int) : Prop :=
  ∀ (L pre post : List S35) (A : Option Addr) (c i : Nat) (w : World), L = pre ++ p ++ post → L.length ≤ 100000 → i + 1 = pre.length + p.length → Kd.C k35 w A L.length L → L.length ≤ c →
    Calls Tryd.prog 65 #[.slice A L.length c, .int .i64 i, .agg (lit x)] w fun e w' => e = .returned (.int .i64 z) ∧ Below w.heap.size w w'
theorem w64_nat (n : Nat) (h : n ≤ 100000) : wrap64 (n : Int) = n := by unfold wrap64; omega
theorem w64_pred (n : Nat) (h1 : 1 ≤ n) (h : n ≤ 100000) : wrap64 ((n : Int) - 1) = ((n - 1 : Nat) : Int) := by unfold wrap64; omega
theorem last_at {L pre p post : List S35} {s : S35} (hL : L = pre ++ (p ++ [s]) ++ post) {i : Nat} (hi : i + 1 = pre.length + (p ++ [s]).length) : ∃ h : i < L.length, L[i] = s := by
  have hL2 : L = (pre ++ p) ++ s :: post := by rw [hL]; simp
  have e : i = (pre ++ p).length := by simp only [List.length_append, List.length_cons, List.length_nil] at hi ⊢; omega
  subst e
  have h : (pre ++ p).length < L.length := by rw [hL2]; simp
  exact ⟨h, by subst hL2; exact Pure.at_mid (pre ++ p) s post h⟩
set_option maxRecDepth 100000 in
set_option maxHeartbeats 1600000 in
theorem num_num (x : Nat → Int) (n : Int) : NumAt x [⟨1, n⟩] n := by
  intro L pre post A c i w hL hl hi hC hc
  obtain ⟨hlt, hse⟩ := last_at (p := ([] : List S35)) (s := (⟨1, n⟩ : S35)) (by simpa using hL) hi
  have hin : (i : Int) < (L.length : Int) := by omega
  obtain ⟨ad, eA, e0, e1⟩ := at_T35 hC (i : Int) (by omega) hin
  rw [Pure.rd_nat L i hlt, hse, Int.toNat_natCast] at e0 e1
  subst eA
  have HCC := Aside0.mk hC
  have HLL := Aside0.mk hL
  have HII := Aside0.mk hi
  generalize lit x = X at *
  have e0 : (w.alloc (.cells X 48)).cell? (ad.add (i * 2)) = some (.int .i64 1) := cell_alloc_keep _ e0
  have e1 : (w.alloc (.cells X 48)).cell? ⟨(ad.add (i * 2)).block, (ad.add (i * 2)).off + 1, none⟩ = some (.int .i64 n) := cell_alloc_keep _ e1
  clear hC hL hi
  go_enter Tryd.func65, Tryd.ntmps65
  go_wp2
  go_ret
  exact ⟨rfl, ((Below.refl w.heap.size w).alloc (Nat.le_refl _) _).alloc (by simp) _⟩
set_option maxRecDepth 100000 in
set_option maxHeartbeats 1600000 in
theorem num_name (x : Nat → Int) (n : Int) (h0 : 0 ≤ n) (h1 : n < 26) : NumAt x [⟨2, n⟩] (x n.toNat) := by
  intro L pre post A c i w hL hl hi hC hc
  obtain ⟨hlt, hse⟩ := last_at (p := ([] : List S35)) (s := (⟨2, n⟩ : S35)) (by simpa using hL) hi
  have hin : (i : Int) < (L.length : Int) := by omega
  obtain ⟨ad, eA, e0, e1⟩ := at_T35 hC (i : Int) (by omega) hin
  rw [Pure.rd_nat L i hlt, hse, Int.toNat_natCast] at e0 e1
  subst eA
  have HCC := Aside0.mk hC
  have HLL := Aside0.mk hL
  have HII := Aside0.mk hi
  have hxc : (((w.alloc (.cells (lit x) 48)).alloc (.cells #[.int .i64 2, .int .i64 n] 35))).cell? ⟨w.heap.size, n.toNat, none⟩ = some (.int .i64 (x n.toNat)) := (blk_cell (two_blocks w (.cells (lit x) 48) (.cells #[.int .i64 2, .int .i64 n] 35)).1 n.toNat).trans (lit_get x _ (by omega))
  generalize lit x = X at *
  have e0 : (w.alloc (.cells X 48)).cell? (ad.add (i * 2)) = some (.int .i64 2) := cell_alloc_keep _ e0
  have e1 : (w.alloc (.cells X 48)).cell? ⟨(ad.add (i * 2)).block, (ad.add (i * 2)).off + 1, none⟩ = some (.int .i64 n) := cell_alloc_keep _ e1
  clear hC hL hi
  go_enter Tryd.func65, Tryd.ntmps65
  go_wp2
  go_ret
  exact ⟨rfl, ((Below.refl w.heap.size w).alloc (Nat.le_refl _) _).alloc (by simp) _⟩
set_option maxRecDepth 100000 in
set_option maxHeartbeats 1600000 in
theorem num_neg (x : Nat → Int) {p : List S35} {z : Int} (hp : 0 < p.length) (ih : NumAt x p z) : NumAt x (p ++ [⟨19, 0⟩]) (wrap64 (-z)) := by
  intro L pre post A c i w hL hl hi hC hc
  obtain ⟨hlt, hse⟩ := last_at (p := p) (s := (⟨19, 0⟩ : S35)) hL hi
  have hin : (i : Int) < (L.length : Int) := by omega
  obtain ⟨ad, eA, e0, e1⟩ := at_T35 hC (i : Int) (by omega) hin
  rw [Pure.rd_nat L i hlt, hse, Int.toNat_natCast] at e0 e1
  subst eA
  have HCC := Aside0.mk hC
  have HLL := Aside0.mk hL
  have HII := Aside0.mk hi
  have LD := Aside0.mk (fun (W : World) (g : Nat) (hg : W.heap[g]? = some (.cells (lit x) 48 (0, 0))) => load_lit hg)
  have IH := Aside0.mk (fun (W : World) (hb : Below w.heap.size w W) => ih L pre ((⟨19, 0⟩ : S35) :: post) (some ad) c (i - 1) W (by rw [hL]; simp) hl (by simp only [List.length_append, List.length_cons, List.length_nil] at hi; omega) (Kd.C_below hC hb) hc)
  generalize lit x = X at *
  have e0 : (w.alloc (.cells X 48)).cell? (ad.add (i * 2)) = some (.int .i64 19) := cell_alloc_keep _ e0
  have e1 : (w.alloc (.cells X 48)).cell? ⟨(ad.add (i * 2)).block, (ad.add (i * 2)).off + 1, none⟩ = some (.int .i64 0) := cell_alloc_keep _ e1
  have hi1 : 1 ≤ i := by simp only [List.length_append, List.length_cons, List.length_nil] at hi; omega
  have hw1 : wrap64 ((i : Int) - 1) = ((i - 1 : Nat) : Int) := by unfold wrap64; omega
  have hw2 : (i : Int) - 1 = ((i - 1 : Nat) : Int) := by omega
  have hb2 : Below w.heap.size w (((w.alloc (.cells X 48)).alloc (.cells #[.int .i64 19, .int .i64 0] 35))) := ((Below.refl w.heap.size w).alloc (Nat.le_refl _) (.cells X 48)).alloc (by simp) _
  have HB2 := Aside0.mk hb2
  have HX2 := Aside0.mk (show (((w.alloc (.cells X 48)).alloc (.cells #[.int .i64 19, .int .i64 0] 35))).heap[w.heap.size]? = some (.cells X 48 (0, 0)) from (two_blocks w (.cells X 48) (.cells #[.int .i64 19, .int .i64 0] 35)).1)
  have HS2 := Aside0.mk (show (((w.alloc (.cells X 48)).alloc (.cells #[.int .i64 19, .int .i64 0] 35))).heap[w.heap.size + 1]? = some (.cells #[.int .i64 19, .int .i64 0] 35 (0, 0)) from (two_blocks w (.cells X 48) (.cells #[.int .i64 19, .int .i64 0] 35)).2)
  clear hb2
  clear hC hL hi
  go_enter Tryd.func65, Tryd.ntmps65
  go_wp2_with (first | (with_reducible refine Great.wpList_readTo rfl (some 29) rfl (.agg X) (exec_load rfl (LD.out _ _ HX2.out)) ?_) | (go_at_call 65; (with_reducible refine (IH.out _ HB2.out).mono ?_); rintro e3 w3 ⟨rfl, hb⟩; have HB3 := Aside0.mk (HB2.out.trans (hb.mono HB2.out.size)); have HX3 := Aside0.mk ((hb.block _ (blk_lt HX2.out)).trans HX2.out); have HS3 := Aside0.mk ((hb.block _ (blk_lt HS2.out)).trans HS2.out); have hs3 : w3.cell? ⟨w.heap.size + 1, 0, none⟩ = some (.int .i64 19) := blk_cell HS3.out 0; clear hb))
  go_ret
  exact ⟨rfl, HB3.out⟩
set_option maxRecDepth 100000 in
set_option maxHeartbeats 1600000 in
theorem num_op3 (x : Nat → Int) {p q : List S35} {y z : Int} (hp : 0 < p.length) (hq : 0 < q.length) (hqp : Pure.Post false q) (ihp : NumAt x p y) (ihq : NumAt x q z) : NumAt x (p ++ q ++ [⟨3, 0⟩]) (wrap64 (y + z)) := by
  intro L pre post A c i w hL hl hi hC hc
  obtain ⟨hlt, hse⟩ := last_at (p := p ++ q) (s := (⟨3, 0⟩ : S35)) hL hi
  have hin : (i : Int) < (L.length : Int) := by omega
  obtain ⟨ad, eA, e0, e1⟩ := at_T35 hC (i : Int) (by omega) hin
  rw [Pure.rd_nat L i hlt, hse, Int.toNat_natCast] at e0 e1
  subst eA
  have HCC := Aside0.mk hC
  have HLL := Aside0.mk hL
  have HII := Aside0.mk hi
  have hi2 : i = pre.length + p.length + q.length := by simp only [List.length_append, List.length_cons, List.length_nil] at hi; omega
  have LD := Aside0.mk (fun (W : World) (g : Nat) (hg : W.heap[g]? = some (.cells (lit x) 48 (0, 0))) => load_lit hg)
  have IH := Aside0.mk (fun (W : World) (hb : Below w.heap.size w W) => ihq L (pre ++ p) ((⟨3, 0⟩ : S35) :: post) (some ad) c (i - 1) W (by rw [hL]; simp) hl (by rw [List.length_append]; omega) (Kd.C_below hC hb) hc)
  obtain ⟨j, hj⟩ : ∃ j, j + 1 = pre.length + p.length := ⟨pre.length + p.length - 1, by omega⟩
  have IHP := Aside0.mk (fun (W : World) (hb : Below w.heap.size w W) => ihp L pre (q ++ (⟨3, 0⟩ : S35) :: post) (some ad) c j W (by rw [hL]; simp) hl hj (Kd.C_below hC hb) hc)
  obtain ⟨kb, hkb⟩ := Pure.begin_at hqp L (pre ++ p) ((⟨3, 0⟩ : S35) :: post) (by rw [hL]; simp) hl
  have ebi : ((pre ++ p).length : Int) + (q.length : Int) - 1 = ((i - 1 : Nat) : Int) := by rw [List.length_append]; omega
  have ebj : ((pre ++ p).length : Int) = ((j + 1 : Nat) : Int) := by rw [List.length_append]; omega
  rw [ebi, ebj] at hkb
  have BG := Aside0.mk (show ∀ (W : World), Below w.heap.size w W → Calls Tryd.prog 64 #[.slice (some ad) L.length c, .int .i64 ((i - 1 : Nat) : Int)] W fun e w2 => e = .returned (.int .i64 ((j + 1 : Nat) : Int)) ∧ Below W.heap.size W w2 from fun W hb => (remontoirref15_begin.calls kb (some ad) c L _ _ W (Kd.C_below hC hb) hc hkb).mono (fun e w2 h => ⟨h.1, h.2.below⟩))
  generalize lit x = X at *
  have e0 : (w.alloc (.cells X 48)).cell? (ad.add (i * 2)) = some (.int .i64 3) := cell_alloc_keep _ e0
  have e1 : (w.alloc (.cells X 48)).cell? ⟨(ad.add (i * 2)).block, (ad.add (i * 2)).off + 1, none⟩ = some (.int .i64 0) := cell_alloc_keep _ e1
  have hi1 : 1 ≤ i := by omega
  have hj1 : j + 1 ≤ 100000 := by omega
  have hw1 := w64_pred i hi1 (by omega)
  have hw2 : (i : Int) - 1 = ((i - 1 : Nat) : Int) := by omega
  have hw6 := w64_nat (i - 1) (by omega)
  have hw7 := w64_nat j (by omega)
  have hw4 : ((j + 1 : Nat) : Int) - 1 = (j : Int) := by omega
  have hw5 : ((j : Int) + 1) - 1 = (j : Int) := by omega
  have hv1 : IntKind.i64.wrap ((i : Int) - 1) = ((i - 1 : Nat) : Int) := by rw [i64_w]; exact hw1
  have hv6 : IntKind.i64.wrap ((i - 1 : Nat) : Int) = ((i - 1 : Nat) : Int) := by rw [i64_w]; exact hw6
  have hv7 : IntKind.i64.wrap (j : Int) = (j : Int) := by rw [i64_w]; exact hw7
  clear hj hj1
  have hb2 : Below w.heap.size w (((w.alloc (.cells X 48)).alloc (.cells #[.int .i64 3, .int .i64 0] 35))) := ((Below.refl w.heap.size w).alloc (Nat.le_refl _) (.cells X 48)).alloc (by simp) _
  have HB2 := Aside0.mk hb2
  have HX2 := Aside0.mk (show (((w.alloc (.cells X 48)).alloc (.cells #[.int .i64 3, .int .i64 0] 35))).heap[w.heap.size]? = some (.cells X 48 (0, 0)) from (two_blocks w (.cells X 48) (.cells #[.int .i64 3, .int .i64 0] 35)).1)
  have HS2 := Aside0.mk (show (((w.alloc (.cells X 48)).alloc (.cells #[.int .i64 3, .int .i64 0] 35))).heap[w.heap.size + 1]? = some (.cells #[.int .i64 3, .int .i64 0] 35 (0, 0)) from (two_blocks w (.cells X 48) (.cells #[.int .i64 3, .int .i64 0] 35)).2)
  clear hb2
  clear hC hL hi hi2 hkb ebi ebj
  go_enter Tryd.func65, Tryd.ntmps65
  go_wp2_with (first | (with_reducible refine Great.wpList_readTo rfl (some 29) rfl (.agg X) (exec_load rfl (LD.out _ _ HX2.out)) ?_) | (go_at_call 65; (with_reducible refine (IH.out _ HB2.out).mono ?_); rintro e3 w3 ⟨rfl, hb⟩; have HB3 := Aside0.mk (HB2.out.trans (hb.mono HB2.out.size)); have HX3 := Aside0.mk ((hb.block _ (blk_lt HX2.out)).trans HX2.out); have HS3 := Aside0.mk ((hb.block _ (blk_lt HS2.out)).trans HS2.out); have hs3 : w3.cell? ⟨w.heap.size + 1, 0, none⟩ = some (.int .i64 3) := blk_cell HS3.out 0; clear hb))
  have HB3d := Aside0.mk (HB3.out.trans ((Below.refl w3.heap.size w3).drew.mono HB3.out.size))
  refine start_ (n := 9) (S := fun w' => w'.heap[w.heap.size]? = some (.cells X 48 (0, 0))) (ds := []) #[false, false, false, false, false, false, false, false, false] (by kernel_rfl) rfl rfl (HX3.out) (fun hHeld => ?_)
  refine pure_ (i := 0) (N := some 36) (v := ?_) (a' := ?_) #[true, false, false, false, false, false, false, false, false] rfl rfl (by kernel_rfl) (fun _ _ _ h => h) (Or.inl ⟨by rfl, ?_⟩) ?_ ?_
  rotate_left
  · intro w'
    go_simp
    with_reducible rfl
  rotate_left
  · simp only [Act.put, List.setIfInBounds_toArray, List.set_cons_zero, List.set_cons_succ, i64_w, i32_w]
    rfl
  refine pure_ (i := 1) (N := some 37) (v := ?_) (a' := ?_) #[true, true, false, false, false, false, false, false, false] rfl rfl (by kernel_rfl) (fun _ _ _ h => h) (Or.inl ⟨by rfl, ?_⟩) ?_ ?_
  rotate_left
  · intro w'
    go_simp
    with_reducible rfl
  rotate_left
  · simp only [Act.put, List.setIfInBounds_toArray, List.set_cons_zero, List.set_cons_succ, i64_w, i32_w]
    rfl
  refine pure_ (i := 2) (N := some 38) (v := ?_) (a' := ?_) #[true, true, true, false, false, false, false, false, false] rfl rfl (by kernel_rfl) (fun _ _ _ h => h) (Or.inl ⟨by rfl, ?_⟩) ?_ ?_
  rotate_left
  · intro w'
    go_simp
    with_reducible rfl
  rotate_left
  · simp only [Act.put, List.setIfInBounds_toArray, List.set_cons_zero, List.set_cons_succ, i64_w, i32_w]
    rfl
  refine pure_ (i := 3) (N := some 39) (v := ?_) (a' := ?_) #[true, true, true, true, false, false, false, false, false] rfl rfl (by kernel_rfl) (fun _ _ _ h => h) (Or.inl ⟨by rfl, ?_⟩) ?_ ?_
  rotate_left
  · intro w'
    go_simp
    with_reducible rfl
  rotate_left
  · simp only [Act.put, List.setIfInBounds_toArray, List.set_cons_zero, List.set_cons_succ, i64_w, i32_w]
    rfl
  refine take_ (i := 6) (N := some 42) (v := ?_) (a' := ?_) #[true, true, true, true, false, false, true, false, false] rfl rfl (by kernel_rfl) (fun _ _ _ h => h) (Or.inl ⟨by rfl, ?_⟩) hHeld ?_ ?_
  rotate_left
  · intro w' s0
    refine (exec_load rfl (LD.out _ _ s0)).trans ?_
    with_reducible rfl
  rotate_left
  · simp only [Act.put, List.setIfInBounds_toArray, List.set_cons_zero, List.set_cons_succ, i64_w, i32_w]
    rfl
  refine one_ (i := 4) (N := some 40) #[true, true, true, true, true, false, true, false, false] rfl rfl (by kernel_rfl) (by decide) (fun K hK => ?_)
  refine goes_ Tryd.func64 (by kernel_rfl) rfl #[.slice (some ad) L.length c, .int .i64 ((i - 1 : Nat) : Int)] (by rfl) rfl rfl (by simp only [List.map_toArray, List.map_cons, List.map_nil]; rfl) ?_
  with_reducible refine (BG.out _ HB3d.out).mono ?_
  rintro e4 w4 ⟨rfl, hb⟩
  refine ⟨_, rfl, ?_⟩
  have hx4 := (hb.block _ (blk_lt hHeld)).trans hHeld
  have HB4 := Aside0.mk (HB3d.out.trans (hb.mono HB3d.out.size))
  have HS4 := Aside0.mk ((hb.block _ (blk_lt HS3.out)).trans HS3.out)
  clear hb
  refine hK.out _ _ (hx4) (fun hHeld => ?_)
  clear hK K
  refine norm_ (a' := ?_) ?_ ?_
  rotate_left
  · show Act.put _ (some 40) _ = _
    simp only [Act.put, List.setIfInBounds_toArray, List.set_cons_zero, List.set_cons_succ, i64_w, i32_w]
    rfl
  refine pure_ (i := 5) (N := some 41) (v := ?_) (a' := ?_) #[true, true, true, true, true, true, true, false, false] rfl rfl (by kernel_rfl) (fun _ _ _ h => h) (Or.inl ⟨by rfl, ?_⟩) ?_ ?_
  rotate_left
  · intro w'
    go_simp
    with_reducible rfl
  rotate_left
  · simp only [Act.put, List.setIfInBounds_toArray, List.set_cons_zero, List.set_cons_succ, i64_w, i32_w]
    rfl
  refine one_ (i := 7) (N := some 43) #[true, true, true, true, true, true, true, true, false] rfl rfl (by kernel_rfl) (by decide) (fun K hK => ?_)
  refine goes_ Tryd.func65 (by kernel_rfl) rfl #[.slice (some ad) L.length c, .int .i64 (j : Int), .agg X] (by rfl) rfl rfl (by simp only [List.map_toArray, List.map_cons, List.map_nil]; rfl) ?_
  with_reducible refine (IHP.out _ HB4.out).mono ?_
  rintro e5 w5 ⟨rfl, hb⟩
  refine ⟨_, rfl, ?_⟩
  have hx5 := (hb.block _ (blk_lt hHeld)).trans hHeld
  have HB5 := Aside0.mk (HB4.out.trans (hb.mono HB4.out.size))
  have HS5 := Aside0.mk ((hb.block _ (blk_lt HS4.out)).trans HS4.out)
  clear hb
  refine hK.out _ _ (hx5) (fun hHeld => ?_)
  clear hK K
  refine norm_ (a' := ?_) ?_ ?_
  rotate_left
  · show Act.put _ (some 43) _ = _
    simp only [Act.put, List.setIfInBounds_toArray, List.set_cons_zero, List.set_cons_succ, i64_w, i32_w]
    rfl
  refine pure_ (i := 8) (N := some 9) (v := ?_) (a' := ?_) #[true, true, true, true, true, true, true, true, true] rfl rfl (by kernel_rfl) (fun _ _ _ h => h) (Or.inl ⟨by rfl, ?_⟩) ?_ ?_
  rotate_left
  · intro w'
    go_simp
    with_reducible rfl
  rotate_left
  · simp only [Act.put, List.setIfInBounds_toArray, List.set_cons_zero, List.set_cons_succ, i64_w, i32_w]
    rfl
  refine done_ (by kernel_rfl) ?_
  have hs5 : w5.cell? ⟨w.heap.size + 1, 0, none⟩ = some (.int .i64 3) := blk_cell HS5.out 0
  clear hHeld hs3
  go_wp2
  go_ret
  exact ⟨rfl, HB5.out⟩
set_option maxRecDepth 100000 in
set_option maxHeartbeats 1600000 in
theorem num_op4 (x : Nat → Int) {p q : List S35} {y z : Int} (hp : 0 < p.length) (hq : 0 < q.length) (hqp : Pure.Post false q) (ihp : NumAt x p y) (ihq : NumAt x q z) : NumAt x (p ++ q ++ [⟨4, 0⟩]) (wrap64 (y - z)) := by
  intro L pre post A c i w hL hl hi hC hc
  obtain ⟨hlt, hse⟩ := last_at (p := p ++ q) (s := (⟨4, 0⟩ : S35)) hL hi
  have hin : (i : Int) < (L.length : Int) := by omega
  obtain ⟨ad, eA, e0, e1⟩ := at_T35 hC (i : Int) (by omega) hin
  rw [Pure.rd_nat L i hlt, hse, Int.toNat_natCast] at e0 e1
  subst eA
  have HCC := Aside0.mk hC
  have HLL := Aside0.mk hL
  have HII := Aside0.mk hi
  have hi2 : i = pre.length + p.length + q.length := by simp only [List.length_append, List.length_cons, List.length_nil] at hi; omega
  have LD := Aside0.mk (fun (W : World) (g : Nat) (hg : W.heap[g]? = some (.cells (lit x) 48 (0, 0))) => load_lit hg)
  have IH := Aside0.mk (fun (W : World) (hb : Below w.heap.size w W) => ihq L (pre ++ p) ((⟨4, 0⟩ : S35) :: post) (some ad) c (i - 1) W (by rw [hL]; simp) hl (by rw [List.length_append]; omega) (Kd.C_below hC hb) hc)
  obtain ⟨j, hj⟩ : ∃ j, j + 1 = pre.length + p.length := ⟨pre.length + p.length - 1, by omega⟩
  have IHP := Aside0.mk (fun (W : World) (hb : Below w.heap.size w W) => ihp L pre (q ++ (⟨4, 0⟩ : S35) :: post) (some ad) c j W (by rw [hL]; simp) hl hj (Kd.C_below hC hb) hc)
  obtain ⟨kb, hkb⟩ := Pure.begin_at hqp L (pre ++ p) ((⟨4, 0⟩ : S35) :: post) (by rw [hL]; simp) hl
  have ebi : ((pre ++ p).length : Int) + (q.length : Int) - 1 = ((i - 1 : Nat) : Int) := by rw [List.length_append]; omega
  have ebj : ((pre ++ p).length : Int) = ((j + 1 : Nat) : Int) := by rw [List.length_append]; omega
  rw [ebi, ebj] at hkb
  have BG := Aside0.mk (show ∀ (W : World), Below w.heap.size w W → Calls Tryd.prog 64 #[.slice (some ad) L.length c, .int .i64 ((i - 1 : Nat) : Int)] W fun e w2 => e = .returned (.int .i64 ((j + 1 : Nat) : Int)) ∧ Below W.heap.size W w2 from fun W hb => (remontoirref15_begin.calls kb (some ad) c L _ _ W (Kd.C_below hC hb) hc hkb).mono (fun e w2 h => ⟨h.1, h.2.below⟩))
  generalize lit x = X at *
  have e0 : (w.alloc (.cells X 48)).cell? (ad.add (i * 2)) = some (.int .i64 4) := cell_alloc_keep _ e0
  have e1 : (w.alloc (.cells X 48)).cell? ⟨(ad.add (i * 2)).block, (ad.add (i * 2)).off + 1, none⟩ = some (.int .i64 0) := cell_alloc_keep _ e1
  have hi1 : 1 ≤ i := by omega
  have hj1 : j + 1 ≤ 100000 := by omega
  have hw1 := w64_pred i hi1 (by omega)
  have hw2 : (i : Int) - 1 = ((i - 1 : Nat) : Int) := by omega
  have hw6 := w64_nat (i - 1) (by omega)
  have hw7 := w64_nat j (by omega)
  have hw4 : ((j + 1 : Nat) : Int) - 1 = (j : Int) := by omega
  have hw5 : ((j : Int) + 1) - 1 = (j : Int) := by omega
  have hv1 : IntKind.i64.wrap ((i : Int) - 1) = ((i - 1 : Nat) : Int) := by rw [i64_w]; exact hw1
  have hv6 : IntKind.i64.wrap ((i - 1 : Nat) : Int) = ((i - 1 : Nat) : Int) := by rw [i64_w]; exact hw6
  have hv7 : IntKind.i64.wrap (j : Int) = (j : Int) := by rw [i64_w]; exact hw7
  clear hj hj1
  have hb2 : Below w.heap.size w (((w.alloc (.cells X 48)).alloc (.cells #[.int .i64 4, .int .i64 0] 35))) := ((Below.refl w.heap.size w).alloc (Nat.le_refl _) (.cells X 48)).alloc (by simp) _
  have HB2 := Aside0.mk hb2
  have HX2 := Aside0.mk (show (((w.alloc (.cells X 48)).alloc (.cells #[.int .i64 4, .int .i64 0] 35))).heap[w.heap.size]? = some (.cells X 48 (0, 0)) from (two_blocks w (.cells X 48) (.cells #[.int .i64 4, .int .i64 0] 35)).1)
  have HS2 := Aside0.mk (show (((w.alloc (.cells X 48)).alloc (.cells #[.int .i64 4, .int .i64 0] 35))).heap[w.heap.size + 1]? = some (.cells #[.int .i64 4, .int .i64 0] 35 (0, 0)) from (two_blocks w (.cells X 48) (.cells #[.int .i64 4, .int .i64 0] 35)).2)
  clear hb2
  clear hC hL hi hi2 hkb ebi ebj
  go_enter Tryd.func65, Tryd.ntmps65
  go_wp2_with (first | (with_reducible refine Great.wpList_readTo rfl (some 29) rfl (.agg X) (exec_load rfl (LD.out _ _ HX2.out)) ?_) | (go_at_call 65; (with_reducible refine (IH.out _ HB2.out).mono ?_); rintro e3 w3 ⟨rfl, hb⟩; have HB3 := Aside0.mk (HB2.out.trans (hb.mono HB2.out.size)); have HX3 := Aside0.mk ((hb.block _ (blk_lt HX2.out)).trans HX2.out); have HS3 := Aside0.mk ((hb.block _ (blk_lt HS2.out)).trans HS2.out); have hs3 : w3.cell? ⟨w.heap.size + 1, 0, none⟩ = some (.int .i64 4) := blk_cell HS3.out 0; clear hb))
  have HB3d := Aside0.mk (HB3.out.trans ((Below.refl w3.heap.size w3).drew.mono HB3.out.size))
  refine start_ (n := 9) (S := fun w' => w'.heap[w.heap.size]? = some (.cells X 48 (0, 0))) (ds := []) #[false, false, false, false, false, false, false, false, false] (by kernel_rfl) rfl rfl (HX3.out) (fun hHeld => ?_)
  refine pure_ (i := 0) (N := some 36) (v := ?_) (a' := ?_) #[true, false, false, false, false, false, false, false, false] rfl rfl (by kernel_rfl) (fun _ _ _ h => h) (Or.inl ⟨by rfl, ?_⟩) ?_ ?_
  rotate_left
  · intro w'
    go_simp
    with_reducible rfl
  rotate_left
  · simp only [Act.put, List.setIfInBounds_toArray, List.set_cons_zero, List.set_cons_succ, i64_w, i32_w]
    rfl
  refine pure_ (i := 1) (N := some 37) (v := ?_) (a' := ?_) #[true, true, false, false, false, false, false, false, false] rfl rfl (by kernel_rfl) (fun _ _ _ h => h) (Or.inl ⟨by rfl, ?_⟩) ?_ ?_
  rotate_left
  · intro w'
    go_simp
    with_reducible rfl
  rotate_left
  · simp only [Act.put, List.setIfInBounds_toArray, List.set_cons_zero, List.set_cons_succ, i64_w, i32_w]
    rfl
  refine pure_ (i := 2) (N := some 38) (v := ?_) (a' := ?_) #[true, true, true, false, false, false, false, false, false] rfl rfl (by kernel_rfl) (fun _ _ _ h => h) (Or.inl ⟨by rfl, ?_⟩) ?_ ?_
  rotate_left
  · intro w'
    go_simp
    with_reducible rfl
  rotate_left
  · simp only [Act.put, List.setIfInBounds_toArray, List.set_cons_zero, List.set_cons_succ, i64_w, i32_w]
    rfl
  refine pure_ (i := 3) (N := some 39) (v := ?_) (a' := ?_) #[true, true, true, true, false, false, false, false, false] rfl rfl (by kernel_rfl) (fun _ _ _ h => h) (Or.inl ⟨by rfl, ?_⟩) ?_ ?_
  rotate_left
  · intro w'
    go_simp
    with_reducible rfl
  rotate_left
  · simp only [Act.put, List.setIfInBounds_toArray, List.set_cons_zero, List.set_cons_succ, i64_w, i32_w]
    rfl
  refine take_ (i := 6) (N := some 42) (v := ?_) (a' := ?_) #[true, true, true, true, false, false, true, false, false] rfl rfl (by kernel_rfl) (fun _ _ _ h => h) (Or.inl ⟨by rfl, ?_⟩) hHeld ?_ ?_
  rotate_left
  · intro w' s0
    refine (exec_load rfl (LD.out _ _ s0)).trans ?_
    with_reducible rfl
  rotate_left
  · simp only [Act.put, List.setIfInBounds_toArray, List.set_cons_zero, List.set_cons_succ, i64_w, i32_w]
    rfl
  refine one_ (i := 4) (N := some 40) #[true, true, true, true, true, false, true, false, false] rfl rfl (by kernel_rfl) (by decide) (fun K hK => ?_)
  refine goes_ Tryd.func64 (by kernel_rfl) rfl #[.slice (some ad) L.length c, .int .i64 ((i - 1 : Nat) : Int)] (by rfl) rfl rfl (by simp only [List.map_toArray, List.map_cons, List.map_nil]; rfl) ?_
  with_reducible refine (BG.out _ HB3d.out).mono ?_
  rintro e4 w4 ⟨rfl, hb⟩
  refine ⟨_, rfl, ?_⟩
  have hx4 := (hb.block _ (blk_lt hHeld)).trans hHeld
  have HB4 := Aside0.mk (HB3d.out.trans (hb.mono HB3d.out.size))
  have HS4 := Aside0.mk ((hb.block _ (blk_lt HS3.out)).trans HS3.out)
  clear hb
  refine hK.out _ _ (hx4) (fun hHeld => ?_)
  clear hK K
  refine norm_ (a' := ?_) ?_ ?_
  rotate_left
  · show Act.put _ (some 40) _ = _
    simp only [Act.put, List.setIfInBounds_toArray, List.set_cons_zero, List.set_cons_succ, i64_w, i32_w]
    rfl
  refine pure_ (i := 5) (N := some 41) (v := ?_) (a' := ?_) #[true, true, true, true, true, true, true, false, false] rfl rfl (by kernel_rfl) (fun _ _ _ h => h) (Or.inl ⟨by rfl, ?_⟩) ?_ ?_
  rotate_left
  · intro w'
    go_simp
    with_reducible rfl
  rotate_left
  · simp only [Act.put, List.setIfInBounds_toArray, List.set_cons_zero, List.set_cons_succ, i64_w, i32_w]
    rfl
  refine one_ (i := 7) (N := some 43) #[true, true, true, true, true, true, true, true, false] rfl rfl (by kernel_rfl) (by decide) (fun K hK => ?_)
  refine goes_ Tryd.func65 (by kernel_rfl) rfl #[.slice (some ad) L.length c, .int .i64 (j : Int), .agg X] (by rfl) rfl rfl (by simp only [List.map_toArray, List.map_cons, List.map_nil]; rfl) ?_
  with_reducible refine (IHP.out _ HB4.out).mono ?_
  rintro e5 w5 ⟨rfl, hb⟩
  refine ⟨_, rfl, ?_⟩
  have hx5 := (hb.block _ (blk_lt hHeld)).trans hHeld
  have HB5 := Aside0.mk (HB4.out.trans (hb.mono HB4.out.size))
  have HS5 := Aside0.mk ((hb.block _ (blk_lt HS4.out)).trans HS4.out)
  clear hb
  refine hK.out _ _ (hx5) (fun hHeld => ?_)
  clear hK K
  refine norm_ (a' := ?_) ?_ ?_
  rotate_left
  · show Act.put _ (some 43) _ = _
    simp only [Act.put, List.setIfInBounds_toArray, List.set_cons_zero, List.set_cons_succ, i64_w, i32_w]
    rfl
  refine pure_ (i := 8) (N := some 9) (v := ?_) (a' := ?_) #[true, true, true, true, true, true, true, true, true] rfl rfl (by kernel_rfl) (fun _ _ _ h => h) (Or.inl ⟨by rfl, ?_⟩) ?_ ?_
  rotate_left
  · intro w'
    go_simp
    with_reducible rfl
  rotate_left
  · simp only [Act.put, List.setIfInBounds_toArray, List.set_cons_zero, List.set_cons_succ, i64_w, i32_w]
    rfl
  refine done_ (by kernel_rfl) ?_
  have hs5 : w5.cell? ⟨w.heap.size + 1, 0, none⟩ = some (.int .i64 4) := blk_cell HS5.out 0
  clear hHeld hs3
  go_wp2
  go_ret
  exact ⟨rfl, HB5.out⟩
set_option maxRecDepth 100000 in
set_option maxHeartbeats 1600000 in
theorem num_op5 (x : Nat → Int) {p q : List S35} {y z : Int} (hp : 0 < p.length) (hq : 0 < q.length) (hqp : Pure.Post false q) (ihp : NumAt x p y) (ihq : NumAt x q z) : NumAt x (p ++ q ++ [⟨5, 0⟩]) (wrap64 (y * z)) := by
  intro L pre post A c i w hL hl hi hC hc
  obtain ⟨hlt, hse⟩ := last_at (p := p ++ q) (s := (⟨5, 0⟩ : S35)) hL hi
  have hin : (i : Int) < (L.length : Int) := by omega
  obtain ⟨ad, eA, e0, e1⟩ := at_T35 hC (i : Int) (by omega) hin
  rw [Pure.rd_nat L i hlt, hse, Int.toNat_natCast] at e0 e1
  subst eA
  have HCC := Aside0.mk hC
  have HLL := Aside0.mk hL
  have HII := Aside0.mk hi
  have hi2 : i = pre.length + p.length + q.length := by simp only [List.length_append, List.length_cons, List.length_nil] at hi; omega
  have LD := Aside0.mk (fun (W : World) (g : Nat) (hg : W.heap[g]? = some (.cells (lit x) 48 (0, 0))) => load_lit hg)
  have IH := Aside0.mk (fun (W : World) (hb : Below w.heap.size w W) => ihq L (pre ++ p) ((⟨5, 0⟩ : S35) :: post) (some ad) c (i - 1) W (by rw [hL]; simp) hl (by rw [List.length_append]; omega) (Kd.C_below hC hb) hc)
  obtain ⟨j, hj⟩ : ∃ j, j + 1 = pre.length + p.length := ⟨pre.length + p.length - 1, by omega⟩
  have IHP := Aside0.mk (fun (W : World) (hb : Below w.heap.size w W) => ihp L pre (q ++ (⟨5, 0⟩ : S35) :: post) (some ad) c j W (by rw [hL]; simp) hl hj (Kd.C_below hC hb) hc)
  obtain ⟨kb, hkb⟩ := Pure.begin_at hqp L (pre ++ p) ((⟨5, 0⟩ : S35) :: post) (by rw [hL]; simp) hl
  have ebi : ((pre ++ p).length : Int) + (q.length : Int) - 1 = ((i - 1 : Nat) : Int) := by rw [List.length_append]; omega
  have ebj : ((pre ++ p).length : Int) = ((j + 1 : Nat) : Int) := by rw [List.length_append]; omega
  rw [ebi, ebj] at hkb
  have BG := Aside0.mk (show ∀ (W : World), Below w.heap.size w W → Calls Tryd.prog 64 #[.slice (some ad) L.length c, .int .i64 ((i - 1 : Nat) : Int)] W fun e w2 => e = .returned (.int .i64 ((j + 1 : Nat) : Int)) ∧ Below W.heap.size W w2 from fun W hb => (remontoirref15_begin.calls kb (some ad) c L _ _ W (Kd.C_below hC hb) hc hkb).mono (fun e w2 h => ⟨h.1, h.2.below⟩))
  generalize lit x = X at *
  have e0 : (w.alloc (.cells X 48)).cell? (ad.add (i * 2)) = some (.int .i64 5) := cell_alloc_keep _ e0
  have e1 : (w.alloc (.cells X 48)).cell? ⟨(ad.add (i * 2)).block, (ad.add (i * 2)).off + 1, none⟩ = some (.int .i64 0) := cell_alloc_keep _ e1
  have hi1 : 1 ≤ i := by omega
  have hj1 : j + 1 ≤ 100000 := by omega
  have hw1 := w64_pred i hi1 (by omega)
  have hw2 : (i : Int) - 1 = ((i - 1 : Nat) : Int) := by omega
  have hw6 := w64_nat (i - 1) (by omega)
  have hw7 := w64_nat j (by omega)
  have hw4 : ((j + 1 : Nat) : Int) - 1 = (j : Int) := by omega
  have hw5 : ((j : Int) + 1) - 1 = (j : Int) := by omega
  have hv1 : IntKind.i64.wrap ((i : Int) - 1) = ((i - 1 : Nat) : Int) := by rw [i64_w]; exact hw1
  have hv6 : IntKind.i64.wrap ((i - 1 : Nat) : Int) = ((i - 1 : Nat) : Int) := by rw [i64_w]; exact hw6
  have hv7 : IntKind.i64.wrap (j : Int) = (j : Int) := by rw [i64_w]; exact hw7
  clear hj hj1
  have hb2 : Below w.heap.size w (((w.alloc (.cells X 48)).alloc (.cells #[.int .i64 5, .int .i64 0] 35))) := ((Below.refl w.heap.size w).alloc (Nat.le_refl _) (.cells X 48)).alloc (by simp) _
  have HB2 := Aside0.mk hb2
  have HX2 := Aside0.mk (show (((w.alloc (.cells X 48)).alloc (.cells #[.int .i64 5, .int .i64 0] 35))).heap[w.heap.size]? = some (.cells X 48 (0, 0)) from (two_blocks w (.cells X 48) (.cells #[.int .i64 5, .int .i64 0] 35)).1)
  have HS2 := Aside0.mk (show (((w.alloc (.cells X 48)).alloc (.cells #[.int .i64 5, .int .i64 0] 35))).heap[w.heap.size + 1]? = some (.cells #[.int .i64 5, .int .i64 0] 35 (0, 0)) from (two_blocks w (.cells X 48) (.cells #[.int .i64 5, .int .i64 0] 35)).2)
  clear hb2
  clear hC hL hi hi2 hkb ebi ebj
  go_enter Tryd.func65, Tryd.ntmps65
  go_wp2_with (first | (with_reducible refine Great.wpList_readTo rfl (some 29) rfl (.agg X) (exec_load rfl (LD.out _ _ HX2.out)) ?_) | (go_at_call 65; (with_reducible refine (IH.out _ HB2.out).mono ?_); rintro e3 w3 ⟨rfl, hb⟩; have HB3 := Aside0.mk (HB2.out.trans (hb.mono HB2.out.size)); have HX3 := Aside0.mk ((hb.block _ (blk_lt HX2.out)).trans HX2.out); have HS3 := Aside0.mk ((hb.block _ (blk_lt HS2.out)).trans HS2.out); have hs3 : w3.cell? ⟨w.heap.size + 1, 0, none⟩ = some (.int .i64 5) := blk_cell HS3.out 0; clear hb))
  have HB3d := Aside0.mk (HB3.out.trans ((Below.refl w3.heap.size w3).drew.mono HB3.out.size))
  refine start_ (n := 9) (S := fun w' => w'.heap[w.heap.size]? = some (.cells X 48 (0, 0))) (ds := []) #[false, false, false, false, false, false, false, false, false] (by kernel_rfl) rfl rfl (HX3.out) (fun hHeld => ?_)
  refine pure_ (i := 0) (N := some 36) (v := ?_) (a' := ?_) #[true, false, false, false, false, false, false, false, false] rfl rfl (by kernel_rfl) (fun _ _ _ h => h) (Or.inl ⟨by rfl, ?_⟩) ?_ ?_
  rotate_left
  · intro w'
    go_simp
    with_reducible rfl
  rotate_left
  · simp only [Act.put, List.setIfInBounds_toArray, List.set_cons_zero, List.set_cons_succ, i64_w, i32_w]
    rfl
  refine pure_ (i := 1) (N := some 37) (v := ?_) (a' := ?_) #[true, true, false, false, false, false, false, false, false] rfl rfl (by kernel_rfl) (fun _ _ _ h => h) (Or.inl ⟨by rfl, ?_⟩) ?_ ?_
  rotate_left
  · intro w'
    go_simp
    with_reducible rfl
  rotate_left
  · simp only [Act.put, List.setIfInBounds_toArray, List.set_cons_zero, List.set_cons_succ, i64_w, i32_w]
    rfl
  refine pure_ (i := 2) (N := some 38) (v := ?_) (a' := ?_) #[true, true, true, false, false, false, false, false, false] rfl rfl (by kernel_rfl) (fun _ _ _ h => h) (Or.inl ⟨by rfl, ?_⟩) ?_ ?_
  rotate_left
  · intro w'
    go_simp
    with_reducible rfl
  rotate_left
  · simp only [Act.put, List.setIfInBounds_toArray, List.set_cons_zero, List.set_cons_succ, i64_w, i32_w]
    rfl
  refine pure_ (i := 3) (N := some 39) (v := ?_) (a' := ?_) #[true, true, true, true, false, false, false, false, false] rfl rfl (by kernel_rfl) (fun _ _ _ h => h) (Or.inl ⟨by rfl, ?_⟩) ?_ ?_
  rotate_left
  · intro w'
    go_simp
    with_reducible rfl
  rotate_left
  · simp only [Act.put, List.setIfInBounds_toArray, List.set_cons_zero, List.set_cons_succ, i64_w, i32_w]
    rfl
  refine take_ (i := 6) (N := some 42) (v := ?_) (a' := ?_) #[true, true, true, true, false, false, true, false, false] rfl rfl (by kernel_rfl) (fun _ _ _ h => h) (Or.inl ⟨by rfl, ?_⟩) hHeld ?_ ?_
  rotate_left
  · intro w' s0
    refine (exec_load rfl (LD.out _ _ s0)).trans ?_
    with_reducible rfl
  rotate_left
  · simp only [Act.put, List.setIfInBounds_toArray, List.set_cons_zero, List.set_cons_succ, i64_w, i32_w]
    rfl
  refine one_ (i := 4) (N := some 40) #[true, true, true, true, true, false, true, false, false] rfl rfl (by kernel_rfl) (by decide) (fun K hK => ?_)
  refine goes_ Tryd.func64 (by kernel_rfl) rfl #[.slice (some ad) L.length c, .int .i64 ((i - 1 : Nat) : Int)] (by rfl) rfl rfl (by simp only [List.map_toArray, List.map_cons, List.map_nil]; rfl) ?_
  with_reducible refine (BG.out _ HB3d.out).mono ?_
  rintro e4 w4 ⟨rfl, hb⟩
  refine ⟨_, rfl, ?_⟩
  have hx4 := (hb.block _ (blk_lt hHeld)).trans hHeld
  have HB4 := Aside0.mk (HB3d.out.trans (hb.mono HB3d.out.size))
  have HS4 := Aside0.mk ((hb.block _ (blk_lt HS3.out)).trans HS3.out)
  clear hb
  refine hK.out _ _ (hx4) (fun hHeld => ?_)
  clear hK K
  refine norm_ (a' := ?_) ?_ ?_
  rotate_left
  · show Act.put _ (some 40) _ = _
    simp only [Act.put, List.setIfInBounds_toArray, List.set_cons_zero, List.set_cons_succ, i64_w, i32_w]
    rfl
  refine pure_ (i := 5) (N := some 41) (v := ?_) (a' := ?_) #[true, true, true, true, true, true, true, false, false] rfl rfl (by kernel_rfl) (fun _ _ _ h => h) (Or.inl ⟨by rfl, ?_⟩) ?_ ?_
  rotate_left
  · intro w'
    go_simp
    with_reducible rfl
  rotate_left
  · simp only [Act.put, List.setIfInBounds_toArray, List.set_cons_zero, List.set_cons_succ, i64_w, i32_w]
    rfl
  refine one_ (i := 7) (N := some 43) #[true, true, true, true, true, true, true, true, false] rfl rfl (by kernel_rfl) (by decide) (fun K hK => ?_)
  refine goes_ Tryd.func65 (by kernel_rfl) rfl #[.slice (some ad) L.length c, .int .i64 (j : Int), .agg X] (by rfl) rfl rfl (by simp only [List.map_toArray, List.map_cons, List.map_nil]; rfl) ?_
  with_reducible refine (IHP.out _ HB4.out).mono ?_
  rintro e5 w5 ⟨rfl, hb⟩
  refine ⟨_, rfl, ?_⟩
  have hx5 := (hb.block _ (blk_lt hHeld)).trans hHeld
  have HB5 := Aside0.mk (HB4.out.trans (hb.mono HB4.out.size))
  have HS5 := Aside0.mk ((hb.block _ (blk_lt HS4.out)).trans HS4.out)
  clear hb
  refine hK.out _ _ (hx5) (fun hHeld => ?_)
  clear hK K
  refine norm_ (a' := ?_) ?_ ?_
  rotate_left
  · show Act.put _ (some 43) _ = _
    simp only [Act.put, List.setIfInBounds_toArray, List.set_cons_zero, List.set_cons_succ, i64_w, i32_w]
    rfl
  refine pure_ (i := 8) (N := some 9) (v := ?_) (a' := ?_) #[true, true, true, true, true, true, true, true, true] rfl rfl (by kernel_rfl) (fun _ _ _ h => h) (Or.inl ⟨by rfl, ?_⟩) ?_ ?_
  rotate_left
  · intro w'
    go_simp
    with_reducible rfl
  rotate_left
  · simp only [Act.put, List.setIfInBounds_toArray, List.set_cons_zero, List.set_cons_succ, i64_w, i32_w]
    rfl
  refine done_ (by kernel_rfl) ?_
  have hs5 : w5.cell? ⟨w.heap.size + 1, 0, none⟩ = some (.int .i64 5) := blk_cell HS5.out 0
  clear hHeld hs3
  go_wp2
  go_ret
  exact ⟨rfl, HB5.out⟩
end Go.Proofs.YtojfdekiponccaaDoor.H
/- The document's num answers the number's value. -/
namespace Go.Proofs.YtojfdekiponccaaDoor.H
open Go.RowKit Go.HK Go.Proofs.YtojfdekiponccaaDoorW.PrintWords Go.Proofs.YtojfdekiponccaaDoorW.PrintLast Go.Proofs.YtojfdekiponccaaDoorW.PrintMore
set_option linter.unusedVariables false
set_option linter.unusedSimpArgs false
theorem post_pos {b : Bool} {p : List S35} (h : Pure.Post b p) : 0 < p.length := by
  cases h <;> (first | (simp; done) | (simp; omega))
theorem num_at (x : Nat → Int) {b : Bool} {p : List S35} (h : Pure.Post b p) : b = false → ∃ z, Pure.Val x p z ∧ NumAt x p z := by
  induction h with
  | num n h0 h1 => exact fun _ => ⟨n, Pure.Val.num x n, num_num x n⟩
  | name n h0 h1 => exact fun _ => ⟨x n.toNat, Pure.Val.name x n h0 h1, num_name x n h0 h1⟩
  | neg hp ih =>
    intro _
    obtain ⟨z, h1, h2⟩ := ih rfl
    exact ⟨_, h1.neg, num_neg x (post_pos hp) h2⟩
  | op k h3 h5 hp hq ihp ihq =>
    intro _
    obtain ⟨y, h1, h2⟩ := ihp rfl
    obtain ⟨z, h4, h6⟩ := ihq rfl
    have hk : k = 3 ∨ k = 4 ∨ k = 5 := by omega
    rcases hk with rfl | rfl | rfl
    · exact ⟨_, h1.two h4 3 (by omega) (by omega) (by rfl), num_op3 x (post_pos hp) (post_pos hq) hq h2 h6⟩
    · exact ⟨_, h1.two h4 4 (by omega) (by omega) (by rfl), num_op4 x (post_pos hp) (post_pos hq) hq h2 h6⟩
    · exact ⟨_, h1.two h4 5 (by omega) (by omega) (by rfl), num_op5 x (post_pos hp) (post_pos hq) hq h2 h6⟩
  | cmp k h3 h5 hp hq ihp ihq => exact fun e => (by cases e)
  | con k h3 hp hq ihp ihq => exact fun e => (by cases e)
  | nt hp ih => exact fun e => (by cases e)
end Go.Proofs.YtojfdekiponccaaDoor.H
/- The document's truth: what ends at a place. -/
namespace Go.Proofs.YtojfdekiponccaaDoor.H
open Go.RowKit Go.HK Go.Proofs.YtojfdekiponccaaDoorW.PrintWords Go.Proofs.YtojfdekiponccaaDoorW.PrintLast Go.Proofs.YtojfdekiponccaaDoorW.PrintMore
set_option linter.unusedVariables false
set_option linter.unusedSimpArgs false
/-- What truth answers, wherever the part stands. -/
def TruthAt (x : Nat → Int) (p : List S35) (r : Bool) : Prop :=
  ∀ (L pre post : List S35) (A : Option Addr) (c i : Nat) (w : World), L = pre ++ p ++ post → L.length ≤ 100000 → i + 1 = pre.length + p.length → Kd.C k35 w A L.length L → L.length ≤ c →
    Calls Tryd.prog 46 #[.slice A L.length c, .int .i64 i, .agg (lit x)] w fun e w' => e = .returned (.bool r) ∧ Below w.heap.size w w'
set_option maxRecDepth 100000 in
set_option maxHeartbeats 1600000 in
theorem truth_nt (x : Nat → Int) {p : List S35} {r : Bool} (hp : 0 < p.length) (ih : TruthAt x p r) : TruthAt x (p ++ [⟨14, 0⟩]) (!r) := by
  intro L pre post A c i w hL hl hi hC hc
  obtain ⟨hlt, hse⟩ := last_at (p := p) (s := (⟨14, 0⟩ : S35)) hL hi
  have hin : (i : Int) < (L.length : Int) := by omega
  obtain ⟨ad, eA, e0, e1⟩ := at_T35 hC (i : Int) (by omega) hin
  rw [Pure.rd_nat L i hlt, hse, Int.toNat_natCast] at e0 e1
  subst eA
  have HCC := Aside0.mk hC
  have HLL := Aside0.mk hL
  have HII := Aside0.mk hi
  have LD := Aside0.mk (fun (W : World) (g : Nat) (hg : W.heap[g]? = some (.cells (lit x) 48 (0, 0))) => load_lit hg)
  have IH := Aside0.mk (fun (W : World) (hb : Below w.heap.size w W) => ih L pre ((⟨14, 0⟩ : S35) :: post) (some ad) c (i - 1) W (by rw [hL]; simp) hl (by simp only [List.length_append, List.length_cons, List.length_nil] at hi; omega) (Kd.C_below hC hb) hc)
  generalize lit x = X at *
  have e0 : (w.alloc (.cells X 48)).cell? (ad.add (i * 2)) = some (.int .i64 14) := cell_alloc_keep _ e0
  have e1 : (w.alloc (.cells X 48)).cell? ⟨(ad.add (i * 2)).block, (ad.add (i * 2)).off + 1, none⟩ = some (.int .i64 0) := cell_alloc_keep _ e1
  have hi1 : 1 ≤ i := by simp only [List.length_append, List.length_cons, List.length_nil] at hi; omega
  have hw1 := w64_pred i hi1 (by omega)
  have hw2 : (i : Int) - 1 = ((i - 1 : Nat) : Int) := by omega
  have hw6 := w64_nat (i - 1) (by omega)
  have hv1 : IntKind.i64.wrap ((i : Int) - 1) = ((i - 1 : Nat) : Int) := by rw [i64_w]; exact hw1
  have hv6 : IntKind.i64.wrap ((i - 1 : Nat) : Int) = ((i - 1 : Nat) : Int) := by rw [i64_w]; exact hw6
  have hb2 : Below w.heap.size w (((w.alloc (.cells X 48)).alloc (.cells #[.int .i64 14, .int .i64 0] 35))) := ((Below.refl w.heap.size w).alloc (Nat.le_refl _) (.cells X 48)).alloc (by simp) _
  have HB2 := Aside0.mk hb2
  have HX2 := Aside0.mk (show (((w.alloc (.cells X 48)).alloc (.cells #[.int .i64 14, .int .i64 0] 35))).heap[w.heap.size]? = some (.cells X 48 (0, 0)) from (two_blocks w (.cells X 48) (.cells #[.int .i64 14, .int .i64 0] 35)).1)
  have HS2 := Aside0.mk (show (((w.alloc (.cells X 48)).alloc (.cells #[.int .i64 14, .int .i64 0] 35))).heap[w.heap.size + 1]? = some (.cells #[.int .i64 14, .int .i64 0] 35 (0, 0)) from (two_blocks w (.cells X 48) (.cells #[.int .i64 14, .int .i64 0] 35)).2)
  clear hb2
  clear hC hL hi
  go_enter Tryd.func46, Tryd.ntmps46
  go_wp2_with (first | (with_reducible refine Great.wpList_readTo rfl (some 21) rfl (.agg X) (exec_load rfl (LD.out _ _ HX2.out)) ?_) | (go_at_call 46; (with_reducible refine (IH.out _ HB2.out).mono ?_); rintro e3 w3 ⟨rfl, hb⟩; have HB3 := Aside0.mk (HB2.out.trans (hb.mono HB2.out.size)); have HX3 := Aside0.mk ((hb.block _ (blk_lt HX2.out)).trans HX2.out); have HS3 := Aside0.mk ((hb.block _ (blk_lt HS2.out)).trans HS2.out); have hs3 : w3.cell? ⟨w.heap.size + 1, 0, none⟩ = some (.int .i64 14) := blk_cell HS3.out 0; clear hb))
  go_ret
  exact ⟨rfl, HB3.out⟩
set_option maxRecDepth 100000 in
set_option maxHeartbeats 1600000 in
theorem truth_cmp6 (x : Nat → Int) {p q : List S35} {y z : Int} (hp : 0 < p.length) (hq : 0 < q.length) (hqp : Pure.Post false q) (ihp : NumAt x p y) (ihq : NumAt x q z) : TruthAt x (p ++ q ++ [⟨6, 0⟩]) (decide (y < z)) := by
  intro L pre post A c i w hL hl hi hC hc
  obtain ⟨hlt, hse⟩ := last_at (p := p ++ q) (s := (⟨6, 0⟩ : S35)) hL hi
  have hin : (i : Int) < (L.length : Int) := by omega
  obtain ⟨ad, eA, e0, e1⟩ := at_T35 hC (i : Int) (by omega) hin
  rw [Pure.rd_nat L i hlt, hse, Int.toNat_natCast] at e0 e1
  subst eA
  have HCC := Aside0.mk hC
  have HLL := Aside0.mk hL
  have HII := Aside0.mk hi
  have hi2 : i = pre.length + p.length + q.length := by simp only [List.length_append, List.length_cons, List.length_nil] at hi; omega
  have LD := Aside0.mk (fun (W : World) (g : Nat) (hg : W.heap[g]? = some (.cells (lit x) 48 (0, 0))) => load_lit hg)
  have IH := Aside0.mk (fun (W : World) (hb : Below w.heap.size w W) => ihq L (pre ++ p) ((⟨6, 0⟩ : S35) :: post) (some ad) c (i - 1) W (by rw [hL]; simp) hl (by rw [List.length_append]; omega) (Kd.C_below hC hb) hc)
  obtain ⟨j, hj⟩ : ∃ j, j + 1 = pre.length + p.length := ⟨pre.length + p.length - 1, by omega⟩
  have IHP := Aside0.mk (fun (W : World) (hb : Below w.heap.size w W) => ihp L pre (q ++ (⟨6, 0⟩ : S35) :: post) (some ad) c j W (by rw [hL]; simp) hl hj (Kd.C_below hC hb) hc)
  obtain ⟨kb, hkb⟩ := Pure.begin_at hqp L (pre ++ p) ((⟨6, 0⟩ : S35) :: post) (by rw [hL]; simp) hl
  have ebi : ((pre ++ p).length : Int) + (q.length : Int) - 1 = ((i - 1 : Nat) : Int) := by rw [List.length_append]; omega
  have ebj : ((pre ++ p).length : Int) = ((j + 1 : Nat) : Int) := by rw [List.length_append]; omega
  rw [ebi, ebj] at hkb
  have BG := Aside0.mk (show ∀ (W : World), Below w.heap.size w W → Calls Tryd.prog 64 #[.slice (some ad) L.length c, .int .i64 ((i - 1 : Nat) : Int)] W fun e w2 => e = .returned (.int .i64 ((j + 1 : Nat) : Int)) ∧ Below W.heap.size W w2 from fun W hb => (remontoirref15_begin.calls kb (some ad) c L _ _ W (Kd.C_below hC hb) hc hkb).mono (fun e w2 h => ⟨h.1, h.2.below⟩))
  generalize lit x = X at *
  have hi1 : 1 ≤ i := by omega
  have hj1 : j + 1 ≤ 100000 := by omega
  have e0 : (w.alloc (.cells X 48)).cell? (ad.add (i * 2)) = some (.int .i64 6) := cell_alloc_keep _ e0
  have e1 : (w.alloc (.cells X 48)).cell? ⟨(ad.add (i * 2)).block, (ad.add (i * 2)).off + 1, none⟩ = some (.int .i64 0) := cell_alloc_keep _ e1
  have hw1 := w64_pred i hi1 (by omega)
  have hw2 : (i : Int) - 1 = ((i - 1 : Nat) : Int) := by omega
  have hw6 := w64_nat (i - 1) (by omega)
  have hv1 : IntKind.i64.wrap ((i : Int) - 1) = ((i - 1 : Nat) : Int) := by rw [i64_w]; exact hw1
  have hv6 : IntKind.i64.wrap ((i - 1 : Nat) : Int) = ((i - 1 : Nat) : Int) := by rw [i64_w]; exact hw6
  have hw7 := w64_nat j (by omega)
  have hw4 : ((j + 1 : Nat) : Int) - 1 = (j : Int) := by omega
  have hw5 : ((j : Int) + 1) - 1 = (j : Int) := by omega
  have hv7 : IntKind.i64.wrap (j : Int) = (j : Int) := by rw [i64_w]; exact hw7
  clear hj hj1
  have hb2 : Below w.heap.size w (((w.alloc (.cells X 48)).alloc (.cells #[.int .i64 6, .int .i64 0] 35))) := ((Below.refl w.heap.size w).alloc (Nat.le_refl _) (.cells X 48)).alloc (by simp) _
  have HB2 := Aside0.mk hb2
  have HX2 := Aside0.mk (show (((w.alloc (.cells X 48)).alloc (.cells #[.int .i64 6, .int .i64 0] 35))).heap[w.heap.size]? = some (.cells X 48 (0, 0)) from (two_blocks w (.cells X 48) (.cells #[.int .i64 6, .int .i64 0] 35)).1)
  have HS2 := Aside0.mk (show (((w.alloc (.cells X 48)).alloc (.cells #[.int .i64 6, .int .i64 0] 35))).heap[w.heap.size + 1]? = some (.cells #[.int .i64 6, .int .i64 0] 35 (0, 0)) from (two_blocks w (.cells X 48) (.cells #[.int .i64 6, .int .i64 0] 35)).2)
  clear hb2
  clear hC hL hi hi2 hkb ebi ebj
  go_enter Tryd.func46, Tryd.ntmps46
  go_wp2_with (first | (go_at_call 64; (with_reducible refine (BG.out _ HB2.out).mono ?_); rintro e3 w3 ⟨rfl, hb⟩; have HB3 := Aside0.mk (HB2.out.trans (hb.mono HB2.out.size)); have HX3 := Aside0.mk ((hb.block _ (blk_lt HX2.out)).trans HX2.out); have HS3 := Aside0.mk ((hb.block _ (blk_lt HS2.out)).trans HS2.out); have hs3 : w3.cell? ⟨w.heap.size + 1, 0, none⟩ = some (.int .i64 6) := blk_cell HS3.out 0; clear hb))
  have HB3d := Aside0.mk (HB3.out.trans ((Below.refl w3.heap.size w3).drew.mono HB3.out.size))
  refine start_ (n := 11) (S := fun w' => w'.heap[w.heap.size]? = some (.cells X 48 (0, 0))) (ds := []) #[false, false, false, false, false, false, false, false, false, false, false] (by kernel_rfl) rfl rfl (HX3.out) (fun hHeld => ?_)
  refine pure_ (i := 0) (N := some 57) (v := ?_) (a' := ?_) #[true, false, false, false, false, false, false, false, false, false, false] rfl rfl (by kernel_rfl) (fun _ _ _ h => h) (Or.inl ⟨by rfl, ?_⟩) ?_ ?_
  rotate_left
  · intro w'
    go_simp
    with_reducible rfl
  rotate_left
  · simp only [Act.put, List.setIfInBounds_toArray, List.set_cons_zero, List.set_cons_succ, i64_w, i32_w]
    rfl
  refine pure_ (i := 1) (N := some 58) (v := ?_) (a' := ?_) #[true, true, false, false, false, false, false, false, false, false, false] rfl rfl (by kernel_rfl) (fun _ _ _ h => h) (Or.inl ⟨by rfl, ?_⟩) ?_ ?_
  rotate_left
  · intro w'
    go_simp
    with_reducible rfl
  rotate_left
  · simp only [Act.put, List.setIfInBounds_toArray, List.set_cons_zero, List.set_cons_succ, i64_w, i32_w]
    rfl
  refine pure_ (i := 4) (N := some 61) (v := ?_) (a' := ?_) #[true, true, false, false, true, false, false, false, false, false, false] rfl rfl (by kernel_rfl) (fun _ _ _ h => h) (Or.inl ⟨by rfl, ?_⟩) ?_ ?_
  rotate_left
  · intro w'
    go_simp
    with_reducible rfl
  rotate_left
  · simp only [Act.put, List.setIfInBounds_toArray, List.set_cons_zero, List.set_cons_succ, i64_w, i32_w]
    rfl
  refine pure_ (i := 5) (N := some 62) (v := ?_) (a' := ?_) #[true, true, false, false, true, true, false, false, false, false, false] rfl rfl (by kernel_rfl) (fun _ _ _ h => h) (Or.inl ⟨by rfl, ?_⟩) ?_ ?_
  rotate_left
  · intro w'
    go_simp
    with_reducible rfl
  rotate_left
  · simp only [Act.put, List.setIfInBounds_toArray, List.set_cons_zero, List.set_cons_succ, i64_w, i32_w]
    rfl
  refine pure_ (i := 6) (N := some 63) (v := ?_) (a' := ?_) #[true, true, false, false, true, true, true, false, false, false, false] rfl rfl (by kernel_rfl) (fun _ _ _ h => h) (Or.inl ⟨by rfl, ?_⟩) ?_ ?_
  rotate_left
  · intro w'
    go_simp
    with_reducible rfl
  rotate_left
  · simp only [Act.put, List.setIfInBounds_toArray, List.set_cons_zero, List.set_cons_succ, i64_w, i32_w]
    rfl
  refine take_ (i := 2) (N := some 59) (v := ?_) (a' := ?_) #[true, true, true, false, true, true, true, false, false, false, false] rfl rfl (by kernel_rfl) (fun _ _ _ h => h) (Or.inl ⟨by rfl, ?_⟩) hHeld ?_ ?_
  rotate_left
  · intro w' s0
    refine (exec_load rfl (LD.out _ _ s0)).trans ?_
    with_reducible rfl
  rotate_left
  · simp only [Act.put, List.setIfInBounds_toArray, List.set_cons_zero, List.set_cons_succ, i64_w, i32_w]
    rfl
  refine take_ (i := 7) (N := some 64) (v := ?_) (a' := ?_) #[true, true, true, false, true, true, true, true, false, false, false] rfl rfl (by kernel_rfl) (fun _ _ _ h => h) (Or.inl ⟨by rfl, ?_⟩) hHeld ?_ ?_
  rotate_left
  · intro w' s0
    refine (exec_load rfl (LD.out _ _ s0)).trans ?_
    with_reducible rfl
  rotate_left
  · simp only [Act.put, List.setIfInBounds_toArray, List.set_cons_zero, List.set_cons_succ, i64_w, i32_w]
    rfl
  refine one_ (i := 3) (N := some 60) #[true, true, true, true, true, true, true, true, false, false, false] rfl rfl (by kernel_rfl) (by decide) (fun K hK => ?_)
  refine goes_ Tryd.func65 (by kernel_rfl) rfl #[.slice (some ad) L.length c, .int .i64 (j : Int), .agg X] (by rfl) rfl rfl (by simp only [List.map_toArray, List.map_cons, List.map_nil]; rfl) ?_
  with_reducible refine (IHP.out _ HB3d.out).mono ?_
  rintro e4 w4 ⟨rfl, hb⟩
  refine ⟨_, rfl, ?_⟩
  have hx4 := (hb.block _ (blk_lt hHeld)).trans hHeld
  have HB4 := Aside0.mk (HB3d.out.trans (hb.mono HB3d.out.size))
  have HS4 := Aside0.mk ((hb.block _ (blk_lt HS3.out)).trans HS3.out)
  clear hb
  refine hK.out _ _ (hx4) (fun hHeld => ?_)
  clear hK K
  refine norm_ (a' := ?_) ?_ ?_
  rotate_left
  · show Act.put _ (some 60) _ = _
    simp only [Act.put, List.setIfInBounds_toArray, List.set_cons_zero, List.set_cons_succ, i64_w, i32_w]
    rfl
  refine one_ (i := 8) (N := some 65) #[true, true, true, true, true, true, true, true, true, false, false] rfl rfl (by kernel_rfl) (by decide) (fun K hK => ?_)
  refine goes_ Tryd.func65 (by kernel_rfl) rfl #[.slice (some ad) L.length c, .int .i64 ((i - 1 : Nat) : Int), .agg X] (by rfl) rfl rfl (by simp only [List.map_toArray, List.map_cons, List.map_nil]; rfl) ?_
  with_reducible refine (IH.out _ HB4.out).mono ?_
  rintro e5 w5 ⟨rfl, hb⟩
  refine ⟨_, rfl, ?_⟩
  have hx5 := (hb.block _ (blk_lt hHeld)).trans hHeld
  have HB5 := Aside0.mk (HB4.out.trans (hb.mono HB4.out.size))
  have HS5 := Aside0.mk ((hb.block _ (blk_lt HS4.out)).trans HS4.out)
  clear hb
  refine hK.out _ _ (hx5) (fun hHeld => ?_)
  clear hK K
  refine norm_ (a' := ?_) ?_ ?_
  rotate_left
  · show Act.put _ (some 65) _ = _
    simp only [Act.put, List.setIfInBounds_toArray, List.set_cons_zero, List.set_cons_succ, i64_w, i32_w]
    rfl
  refine pure_ (i := 9) (N := some 9) (v := ?_) (a' := ?_) #[true, true, true, true, true, true, true, true, true, true, false] rfl rfl (by kernel_rfl) (fun _ _ _ h => h) (Or.inl ⟨by rfl, ?_⟩) ?_ ?_
  rotate_left
  · intro w'
    go_simp
    with_reducible rfl
  rotate_left
  · simp only [Act.put, List.setIfInBounds_toArray, List.set_cons_zero, List.set_cons_succ, i64_w, i32_w]
    rfl
  refine pure_ (i := 10) (N := some 10) (v := ?_) (a' := ?_) #[true, true, true, true, true, true, true, true, true, true, true] rfl rfl (by kernel_rfl) (fun _ _ _ h => h) (Or.inl ⟨by rfl, ?_⟩) ?_ ?_
  rotate_left
  · intro w'
    go_simp
    with_reducible rfl
  rotate_left
  · simp only [Act.put, List.setIfInBounds_toArray, List.set_cons_zero, List.set_cons_succ, i64_w, i32_w]
    rfl
  refine done_ (by kernel_rfl) ?_
  have hs5 : w5.cell? ⟨w.heap.size + 1, 0, none⟩ = some (.int .i64 6) := blk_cell HS5.out 0
  clear hHeld hs3
  go_wp2
  go_ret
  exact ⟨rfl, HB5.out⟩
set_option maxRecDepth 100000 in
set_option maxHeartbeats 1600000 in
theorem truth_cmp7 (x : Nat → Int) {p q : List S35} {y z : Int} (hp : 0 < p.length) (hq : 0 < q.length) (hqp : Pure.Post false q) (ihp : NumAt x p y) (ihq : NumAt x q z) : TruthAt x (p ++ q ++ [⟨7, 0⟩]) (decide (y ≤ z)) := by
  intro L pre post A c i w hL hl hi hC hc
  obtain ⟨hlt, hse⟩ := last_at (p := p ++ q) (s := (⟨7, 0⟩ : S35)) hL hi
  have hin : (i : Int) < (L.length : Int) := by omega
  obtain ⟨ad, eA, e0, e1⟩ := at_T35 hC (i : Int) (by omega) hin
  rw [Pure.rd_nat L i hlt, hse, Int.toNat_natCast] at e0 e1
  subst eA
  have HCC := Aside0.mk hC
  have HLL := Aside0.mk hL
  have HII := Aside0.mk hi
  have hi2 : i = pre.length + p.length + q.length := by simp only [List.length_append, List.length_cons, List.length_nil] at hi; omega
  have LD := Aside0.mk (fun (W : World) (g : Nat) (hg : W.heap[g]? = some (.cells (lit x) 48 (0, 0))) => load_lit hg)
  have IH := Aside0.mk (fun (W : World) (hb : Below w.heap.size w W) => ihq L (pre ++ p) ((⟨7, 0⟩ : S35) :: post) (some ad) c (i - 1) W (by rw [hL]; simp) hl (by rw [List.length_append]; omega) (Kd.C_below hC hb) hc)
  obtain ⟨j, hj⟩ : ∃ j, j + 1 = pre.length + p.length := ⟨pre.length + p.length - 1, by omega⟩
  have IHP := Aside0.mk (fun (W : World) (hb : Below w.heap.size w W) => ihp L pre (q ++ (⟨7, 0⟩ : S35) :: post) (some ad) c j W (by rw [hL]; simp) hl hj (Kd.C_below hC hb) hc)
  obtain ⟨kb, hkb⟩ := Pure.begin_at hqp L (pre ++ p) ((⟨7, 0⟩ : S35) :: post) (by rw [hL]; simp) hl
  have ebi : ((pre ++ p).length : Int) + (q.length : Int) - 1 = ((i - 1 : Nat) : Int) := by rw [List.length_append]; omega
  have ebj : ((pre ++ p).length : Int) = ((j + 1 : Nat) : Int) := by rw [List.length_append]; omega
  rw [ebi, ebj] at hkb
  have BG := Aside0.mk (show ∀ (W : World), Below w.heap.size w W → Calls Tryd.prog 64 #[.slice (some ad) L.length c, .int .i64 ((i - 1 : Nat) : Int)] W fun e w2 => e = .returned (.int .i64 ((j + 1 : Nat) : Int)) ∧ Below W.heap.size W w2 from fun W hb => (remontoirref15_begin.calls kb (some ad) c L _ _ W (Kd.C_below hC hb) hc hkb).mono (fun e w2 h => ⟨h.1, h.2.below⟩))
  generalize lit x = X at *
  have hi1 : 1 ≤ i := by omega
  have hj1 : j + 1 ≤ 100000 := by omega
  have e0 : (w.alloc (.cells X 48)).cell? (ad.add (i * 2)) = some (.int .i64 7) := cell_alloc_keep _ e0
  have e1 : (w.alloc (.cells X 48)).cell? ⟨(ad.add (i * 2)).block, (ad.add (i * 2)).off + 1, none⟩ = some (.int .i64 0) := cell_alloc_keep _ e1
  have hw1 := w64_pred i hi1 (by omega)
  have hw2 : (i : Int) - 1 = ((i - 1 : Nat) : Int) := by omega
  have hw6 := w64_nat (i - 1) (by omega)
  have hv1 : IntKind.i64.wrap ((i : Int) - 1) = ((i - 1 : Nat) : Int) := by rw [i64_w]; exact hw1
  have hv6 : IntKind.i64.wrap ((i - 1 : Nat) : Int) = ((i - 1 : Nat) : Int) := by rw [i64_w]; exact hw6
  have hw7 := w64_nat j (by omega)
  have hw4 : ((j + 1 : Nat) : Int) - 1 = (j : Int) := by omega
  have hw5 : ((j : Int) + 1) - 1 = (j : Int) := by omega
  have hv7 : IntKind.i64.wrap (j : Int) = (j : Int) := by rw [i64_w]; exact hw7
  clear hj hj1
  have hb2 : Below w.heap.size w (((w.alloc (.cells X 48)).alloc (.cells #[.int .i64 7, .int .i64 0] 35))) := ((Below.refl w.heap.size w).alloc (Nat.le_refl _) (.cells X 48)).alloc (by simp) _
  have HB2 := Aside0.mk hb2
  have HX2 := Aside0.mk (show (((w.alloc (.cells X 48)).alloc (.cells #[.int .i64 7, .int .i64 0] 35))).heap[w.heap.size]? = some (.cells X 48 (0, 0)) from (two_blocks w (.cells X 48) (.cells #[.int .i64 7, .int .i64 0] 35)).1)
  have HS2 := Aside0.mk (show (((w.alloc (.cells X 48)).alloc (.cells #[.int .i64 7, .int .i64 0] 35))).heap[w.heap.size + 1]? = some (.cells #[.int .i64 7, .int .i64 0] 35 (0, 0)) from (two_blocks w (.cells X 48) (.cells #[.int .i64 7, .int .i64 0] 35)).2)
  clear hb2
  clear hC hL hi hi2 hkb ebi ebj
  go_enter Tryd.func46, Tryd.ntmps46
  go_wp2_with (first | (go_at_call 64; (with_reducible refine (BG.out _ HB2.out).mono ?_); rintro e3 w3 ⟨rfl, hb⟩; have HB3 := Aside0.mk (HB2.out.trans (hb.mono HB2.out.size)); have HX3 := Aside0.mk ((hb.block _ (blk_lt HX2.out)).trans HX2.out); have HS3 := Aside0.mk ((hb.block _ (blk_lt HS2.out)).trans HS2.out); have hs3 : w3.cell? ⟨w.heap.size + 1, 0, none⟩ = some (.int .i64 7) := blk_cell HS3.out 0; clear hb))
  have HB3d := Aside0.mk (HB3.out.trans ((Below.refl w3.heap.size w3).drew.mono HB3.out.size))
  refine start_ (n := 11) (S := fun w' => w'.heap[w.heap.size]? = some (.cells X 48 (0, 0))) (ds := []) #[false, false, false, false, false, false, false, false, false, false, false] (by kernel_rfl) rfl rfl (HX3.out) (fun hHeld => ?_)
  refine pure_ (i := 0) (N := some 57) (v := ?_) (a' := ?_) #[true, false, false, false, false, false, false, false, false, false, false] rfl rfl (by kernel_rfl) (fun _ _ _ h => h) (Or.inl ⟨by rfl, ?_⟩) ?_ ?_
  rotate_left
  · intro w'
    go_simp
    with_reducible rfl
  rotate_left
  · simp only [Act.put, List.setIfInBounds_toArray, List.set_cons_zero, List.set_cons_succ, i64_w, i32_w]
    rfl
  refine pure_ (i := 1) (N := some 58) (v := ?_) (a' := ?_) #[true, true, false, false, false, false, false, false, false, false, false] rfl rfl (by kernel_rfl) (fun _ _ _ h => h) (Or.inl ⟨by rfl, ?_⟩) ?_ ?_
  rotate_left
  · intro w'
    go_simp
    with_reducible rfl
  rotate_left
  · simp only [Act.put, List.setIfInBounds_toArray, List.set_cons_zero, List.set_cons_succ, i64_w, i32_w]
    rfl
  refine pure_ (i := 4) (N := some 61) (v := ?_) (a' := ?_) #[true, true, false, false, true, false, false, false, false, false, false] rfl rfl (by kernel_rfl) (fun _ _ _ h => h) (Or.inl ⟨by rfl, ?_⟩) ?_ ?_
  rotate_left
  · intro w'
    go_simp
    with_reducible rfl
  rotate_left
  · simp only [Act.put, List.setIfInBounds_toArray, List.set_cons_zero, List.set_cons_succ, i64_w, i32_w]
    rfl
  refine pure_ (i := 5) (N := some 62) (v := ?_) (a' := ?_) #[true, true, false, false, true, true, false, false, false, false, false] rfl rfl (by kernel_rfl) (fun _ _ _ h => h) (Or.inl ⟨by rfl, ?_⟩) ?_ ?_
  rotate_left
  · intro w'
    go_simp
    with_reducible rfl
  rotate_left
  · simp only [Act.put, List.setIfInBounds_toArray, List.set_cons_zero, List.set_cons_succ, i64_w, i32_w]
    rfl
  refine pure_ (i := 6) (N := some 63) (v := ?_) (a' := ?_) #[true, true, false, false, true, true, true, false, false, false, false] rfl rfl (by kernel_rfl) (fun _ _ _ h => h) (Or.inl ⟨by rfl, ?_⟩) ?_ ?_
  rotate_left
  · intro w'
    go_simp
    with_reducible rfl
  rotate_left
  · simp only [Act.put, List.setIfInBounds_toArray, List.set_cons_zero, List.set_cons_succ, i64_w, i32_w]
    rfl
  refine take_ (i := 2) (N := some 59) (v := ?_) (a' := ?_) #[true, true, true, false, true, true, true, false, false, false, false] rfl rfl (by kernel_rfl) (fun _ _ _ h => h) (Or.inl ⟨by rfl, ?_⟩) hHeld ?_ ?_
  rotate_left
  · intro w' s0
    refine (exec_load rfl (LD.out _ _ s0)).trans ?_
    with_reducible rfl
  rotate_left
  · simp only [Act.put, List.setIfInBounds_toArray, List.set_cons_zero, List.set_cons_succ, i64_w, i32_w]
    rfl
  refine take_ (i := 7) (N := some 64) (v := ?_) (a' := ?_) #[true, true, true, false, true, true, true, true, false, false, false] rfl rfl (by kernel_rfl) (fun _ _ _ h => h) (Or.inl ⟨by rfl, ?_⟩) hHeld ?_ ?_
  rotate_left
  · intro w' s0
    refine (exec_load rfl (LD.out _ _ s0)).trans ?_
    with_reducible rfl
  rotate_left
  · simp only [Act.put, List.setIfInBounds_toArray, List.set_cons_zero, List.set_cons_succ, i64_w, i32_w]
    rfl
  refine one_ (i := 3) (N := some 60) #[true, true, true, true, true, true, true, true, false, false, false] rfl rfl (by kernel_rfl) (by decide) (fun K hK => ?_)
  refine goes_ Tryd.func65 (by kernel_rfl) rfl #[.slice (some ad) L.length c, .int .i64 (j : Int), .agg X] (by rfl) rfl rfl (by simp only [List.map_toArray, List.map_cons, List.map_nil]; rfl) ?_
  with_reducible refine (IHP.out _ HB3d.out).mono ?_
  rintro e4 w4 ⟨rfl, hb⟩
  refine ⟨_, rfl, ?_⟩
  have hx4 := (hb.block _ (blk_lt hHeld)).trans hHeld
  have HB4 := Aside0.mk (HB3d.out.trans (hb.mono HB3d.out.size))
  have HS4 := Aside0.mk ((hb.block _ (blk_lt HS3.out)).trans HS3.out)
  clear hb
  refine hK.out _ _ (hx4) (fun hHeld => ?_)
  clear hK K
  refine norm_ (a' := ?_) ?_ ?_
  rotate_left
  · show Act.put _ (some 60) _ = _
    simp only [Act.put, List.setIfInBounds_toArray, List.set_cons_zero, List.set_cons_succ, i64_w, i32_w]
    rfl
  refine one_ (i := 8) (N := some 65) #[true, true, true, true, true, true, true, true, true, false, false] rfl rfl (by kernel_rfl) (by decide) (fun K hK => ?_)
  refine goes_ Tryd.func65 (by kernel_rfl) rfl #[.slice (some ad) L.length c, .int .i64 ((i - 1 : Nat) : Int), .agg X] (by rfl) rfl rfl (by simp only [List.map_toArray, List.map_cons, List.map_nil]; rfl) ?_
  with_reducible refine (IH.out _ HB4.out).mono ?_
  rintro e5 w5 ⟨rfl, hb⟩
  refine ⟨_, rfl, ?_⟩
  have hx5 := (hb.block _ (blk_lt hHeld)).trans hHeld
  have HB5 := Aside0.mk (HB4.out.trans (hb.mono HB4.out.size))
  have HS5 := Aside0.mk ((hb.block _ (blk_lt HS4.out)).trans HS4.out)
  clear hb
  refine hK.out _ _ (hx5) (fun hHeld => ?_)
  clear hK K
  refine norm_ (a' := ?_) ?_ ?_
  rotate_left
  · show Act.put _ (some 65) _ = _
    simp only [Act.put, List.setIfInBounds_toArray, List.set_cons_zero, List.set_cons_succ, i64_w, i32_w]
    rfl
  refine pure_ (i := 9) (N := some 9) (v := ?_) (a' := ?_) #[true, true, true, true, true, true, true, true, true, true, false] rfl rfl (by kernel_rfl) (fun _ _ _ h => h) (Or.inl ⟨by rfl, ?_⟩) ?_ ?_
  rotate_left
  · intro w'
    go_simp
    with_reducible rfl
  rotate_left
  · simp only [Act.put, List.setIfInBounds_toArray, List.set_cons_zero, List.set_cons_succ, i64_w, i32_w]
    rfl
  refine pure_ (i := 10) (N := some 10) (v := ?_) (a' := ?_) #[true, true, true, true, true, true, true, true, true, true, true] rfl rfl (by kernel_rfl) (fun _ _ _ h => h) (Or.inl ⟨by rfl, ?_⟩) ?_ ?_
  rotate_left
  · intro w'
    go_simp
    with_reducible rfl
  rotate_left
  · simp only [Act.put, List.setIfInBounds_toArray, List.set_cons_zero, List.set_cons_succ, i64_w, i32_w]
    rfl
  refine done_ (by kernel_rfl) ?_
  have hs5 : w5.cell? ⟨w.heap.size + 1, 0, none⟩ = some (.int .i64 7) := blk_cell HS5.out 0
  clear hHeld hs3
  go_wp2
  go_ret
  exact ⟨rfl, HB5.out⟩
set_option maxRecDepth 100000 in
set_option maxHeartbeats 1600000 in
theorem truth_cmp8 (x : Nat → Int) {p q : List S35} {y z : Int} (hp : 0 < p.length) (hq : 0 < q.length) (hqp : Pure.Post false q) (ihp : NumAt x p y) (ihq : NumAt x q z) : TruthAt x (p ++ q ++ [⟨8, 0⟩]) (decide (y > z)) := by
  intro L pre post A c i w hL hl hi hC hc
  obtain ⟨hlt, hse⟩ := last_at (p := p ++ q) (s := (⟨8, 0⟩ : S35)) hL hi
  have hin : (i : Int) < (L.length : Int) := by omega
  obtain ⟨ad, eA, e0, e1⟩ := at_T35 hC (i : Int) (by omega) hin
  rw [Pure.rd_nat L i hlt, hse, Int.toNat_natCast] at e0 e1
  subst eA
  have HCC := Aside0.mk hC
  have HLL := Aside0.mk hL
  have HII := Aside0.mk hi
  have hi2 : i = pre.length + p.length + q.length := by simp only [List.length_append, List.length_cons, List.length_nil] at hi; omega
  have LD := Aside0.mk (fun (W : World) (g : Nat) (hg : W.heap[g]? = some (.cells (lit x) 48 (0, 0))) => load_lit hg)
  have IH := Aside0.mk (fun (W : World) (hb : Below w.heap.size w W) => ihq L (pre ++ p) ((⟨8, 0⟩ : S35) :: post) (some ad) c (i - 1) W (by rw [hL]; simp) hl (by rw [List.length_append]; omega) (Kd.C_below hC hb) hc)
  obtain ⟨j, hj⟩ : ∃ j, j + 1 = pre.length + p.length := ⟨pre.length + p.length - 1, by omega⟩
  have IHP := Aside0.mk (fun (W : World) (hb : Below w.heap.size w W) => ihp L pre (q ++ (⟨8, 0⟩ : S35) :: post) (some ad) c j W (by rw [hL]; simp) hl hj (Kd.C_below hC hb) hc)
  obtain ⟨kb, hkb⟩ := Pure.begin_at hqp L (pre ++ p) ((⟨8, 0⟩ : S35) :: post) (by rw [hL]; simp) hl
  have ebi : ((pre ++ p).length : Int) + (q.length : Int) - 1 = ((i - 1 : Nat) : Int) := by rw [List.length_append]; omega
  have ebj : ((pre ++ p).length : Int) = ((j + 1 : Nat) : Int) := by rw [List.length_append]; omega
  rw [ebi, ebj] at hkb
  have BG := Aside0.mk (show ∀ (W : World), Below w.heap.size w W → Calls Tryd.prog 64 #[.slice (some ad) L.length c, .int .i64 ((i - 1 : Nat) : Int)] W fun e w2 => e = .returned (.int .i64 ((j + 1 : Nat) : Int)) ∧ Below W.heap.size W w2 from fun W hb => (remontoirref15_begin.calls kb (some ad) c L _ _ W (Kd.C_below hC hb) hc hkb).mono (fun e w2 h => ⟨h.1, h.2.below⟩))
  generalize lit x = X at *
  have hi1 : 1 ≤ i := by omega
  have hj1 : j + 1 ≤ 100000 := by omega
  have e0 : (w.alloc (.cells X 48)).cell? (ad.add (i * 2)) = some (.int .i64 8) := cell_alloc_keep _ e0
  have e1 : (w.alloc (.cells X 48)).cell? ⟨(ad.add (i * 2)).block, (ad.add (i * 2)).off + 1, none⟩ = some (.int .i64 0) := cell_alloc_keep _ e1
  have hw1 := w64_pred i hi1 (by omega)
  have hw2 : (i : Int) - 1 = ((i - 1 : Nat) : Int) := by omega
  have hw6 := w64_nat (i - 1) (by omega)
  have hv1 : IntKind.i64.wrap ((i : Int) - 1) = ((i - 1 : Nat) : Int) := by rw [i64_w]; exact hw1
  have hv6 : IntKind.i64.wrap ((i - 1 : Nat) : Int) = ((i - 1 : Nat) : Int) := by rw [i64_w]; exact hw6
  have hw7 := w64_nat j (by omega)
  have hw4 : ((j + 1 : Nat) : Int) - 1 = (j : Int) := by omega
  have hw5 : ((j : Int) + 1) - 1 = (j : Int) := by omega
  have hv7 : IntKind.i64.wrap (j : Int) = (j : Int) := by rw [i64_w]; exact hw7
  clear hj hj1
  have hb2 : Below w.heap.size w (((w.alloc (.cells X 48)).alloc (.cells #[.int .i64 8, .int .i64 0] 35))) := ((Below.refl w.heap.size w).alloc (Nat.le_refl _) (.cells X 48)).alloc (by simp) _
  have HB2 := Aside0.mk hb2
  have HX2 := Aside0.mk (show (((w.alloc (.cells X 48)).alloc (.cells #[.int .i64 8, .int .i64 0] 35))).heap[w.heap.size]? = some (.cells X 48 (0, 0)) from (two_blocks w (.cells X 48) (.cells #[.int .i64 8, .int .i64 0] 35)).1)
  have HS2 := Aside0.mk (show (((w.alloc (.cells X 48)).alloc (.cells #[.int .i64 8, .int .i64 0] 35))).heap[w.heap.size + 1]? = some (.cells #[.int .i64 8, .int .i64 0] 35 (0, 0)) from (two_blocks w (.cells X 48) (.cells #[.int .i64 8, .int .i64 0] 35)).2)
  clear hb2
  clear hC hL hi hi2 hkb ebi ebj
  go_enter Tryd.func46, Tryd.ntmps46
  go_wp2_with (first | (go_at_call 64; (with_reducible refine (BG.out _ HB2.out).mono ?_); rintro e3 w3 ⟨rfl, hb⟩; have HB3 := Aside0.mk (HB2.out.trans (hb.mono HB2.out.size)); have HX3 := Aside0.mk ((hb.block _ (blk_lt HX2.out)).trans HX2.out); have HS3 := Aside0.mk ((hb.block _ (blk_lt HS2.out)).trans HS2.out); have hs3 : w3.cell? ⟨w.heap.size + 1, 0, none⟩ = some (.int .i64 8) := blk_cell HS3.out 0; clear hb))
  have HB3d := Aside0.mk (HB3.out.trans ((Below.refl w3.heap.size w3).drew.mono HB3.out.size))
  refine start_ (n := 11) (S := fun w' => w'.heap[w.heap.size]? = some (.cells X 48 (0, 0))) (ds := []) #[false, false, false, false, false, false, false, false, false, false, false] (by kernel_rfl) rfl rfl (HX3.out) (fun hHeld => ?_)
  refine pure_ (i := 0) (N := some 57) (v := ?_) (a' := ?_) #[true, false, false, false, false, false, false, false, false, false, false] rfl rfl (by kernel_rfl) (fun _ _ _ h => h) (Or.inl ⟨by rfl, ?_⟩) ?_ ?_
  rotate_left
  · intro w'
    go_simp
    with_reducible rfl
  rotate_left
  · simp only [Act.put, List.setIfInBounds_toArray, List.set_cons_zero, List.set_cons_succ, i64_w, i32_w]
    rfl
  refine pure_ (i := 1) (N := some 58) (v := ?_) (a' := ?_) #[true, true, false, false, false, false, false, false, false, false, false] rfl rfl (by kernel_rfl) (fun _ _ _ h => h) (Or.inl ⟨by rfl, ?_⟩) ?_ ?_
  rotate_left
  · intro w'
    go_simp
    with_reducible rfl
  rotate_left
  · simp only [Act.put, List.setIfInBounds_toArray, List.set_cons_zero, List.set_cons_succ, i64_w, i32_w]
    rfl
  refine pure_ (i := 4) (N := some 61) (v := ?_) (a' := ?_) #[true, true, false, false, true, false, false, false, false, false, false] rfl rfl (by kernel_rfl) (fun _ _ _ h => h) (Or.inl ⟨by rfl, ?_⟩) ?_ ?_
  rotate_left
  · intro w'
    go_simp
    with_reducible rfl
  rotate_left
  · simp only [Act.put, List.setIfInBounds_toArray, List.set_cons_zero, List.set_cons_succ, i64_w, i32_w]
    rfl
  refine pure_ (i := 5) (N := some 62) (v := ?_) (a' := ?_) #[true, true, false, false, true, true, false, false, false, false, false] rfl rfl (by kernel_rfl) (fun _ _ _ h => h) (Or.inl ⟨by rfl, ?_⟩) ?_ ?_
  rotate_left
  · intro w'
    go_simp
    with_reducible rfl
  rotate_left
  · simp only [Act.put, List.setIfInBounds_toArray, List.set_cons_zero, List.set_cons_succ, i64_w, i32_w]
    rfl
  refine pure_ (i := 6) (N := some 63) (v := ?_) (a' := ?_) #[true, true, false, false, true, true, true, false, false, false, false] rfl rfl (by kernel_rfl) (fun _ _ _ h => h) (Or.inl ⟨by rfl, ?_⟩) ?_ ?_
  rotate_left
  · intro w'
    go_simp
    with_reducible rfl
  rotate_left
  · simp only [Act.put, List.setIfInBounds_toArray, List.set_cons_zero, List.set_cons_succ, i64_w, i32_w]
    rfl
  refine take_ (i := 2) (N := some 59) (v := ?_) (a' := ?_) #[true, true, true, false, true, true, true, false, false, false, false] rfl rfl (by kernel_rfl) (fun _ _ _ h => h) (Or.inl ⟨by rfl, ?_⟩) hHeld ?_ ?_
  rotate_left
  · intro w' s0
    refine (exec_load rfl (LD.out _ _ s0)).trans ?_
    with_reducible rfl
  rotate_left
  · simp only [Act.put, List.setIfInBounds_toArray, List.set_cons_zero, List.set_cons_succ, i64_w, i32_w]
    rfl
  refine take_ (i := 7) (N := some 64) (v := ?_) (a' := ?_) #[true, true, true, false, true, true, true, true, false, false, false] rfl rfl (by kernel_rfl) (fun _ _ _ h => h) (Or.inl ⟨by rfl, ?_⟩) hHeld ?_ ?_
  rotate_left
  · intro w' s0
    refine (exec_load rfl (LD.out _ _ s0)).trans ?_
    with_reducible rfl
  rotate_left
  · simp only [Act.put, List.setIfInBounds_toArray, List.set_cons_zero, List.set_cons_succ, i64_w, i32_w]
    rfl
  refine one_ (i := 3) (N := some 60) #[true, true, true, true, true, true, true, true, false, false, false] rfl rfl (by kernel_rfl) (by decide) (fun K hK => ?_)
  refine goes_ Tryd.func65 (by kernel_rfl) rfl #[.slice (some ad) L.length c, .int .i64 (j : Int), .agg X] (by rfl) rfl rfl (by simp only [List.map_toArray, List.map_cons, List.map_nil]; rfl) ?_
  with_reducible refine (IHP.out _ HB3d.out).mono ?_
  rintro e4 w4 ⟨rfl, hb⟩
  refine ⟨_, rfl, ?_⟩
  have hx4 := (hb.block _ (blk_lt hHeld)).trans hHeld
  have HB4 := Aside0.mk (HB3d.out.trans (hb.mono HB3d.out.size))
  have HS4 := Aside0.mk ((hb.block _ (blk_lt HS3.out)).trans HS3.out)
  clear hb
  refine hK.out _ _ (hx4) (fun hHeld => ?_)
  clear hK K
  refine norm_ (a' := ?_) ?_ ?_
  rotate_left
  · show Act.put _ (some 60) _ = _
    simp only [Act.put, List.setIfInBounds_toArray, List.set_cons_zero, List.set_cons_succ, i64_w, i32_w]
    rfl
  refine one_ (i := 8) (N := some 65) #[true, true, true, true, true, true, true, true, true, false, false] rfl rfl (by kernel_rfl) (by decide) (fun K hK => ?_)
  refine goes_ Tryd.func65 (by kernel_rfl) rfl #[.slice (some ad) L.length c, .int .i64 ((i - 1 : Nat) : Int), .agg X] (by rfl) rfl rfl (by simp only [List.map_toArray, List.map_cons, List.map_nil]; rfl) ?_
  with_reducible refine (IH.out _ HB4.out).mono ?_
  rintro e5 w5 ⟨rfl, hb⟩
  refine ⟨_, rfl, ?_⟩
  have hx5 := (hb.block _ (blk_lt hHeld)).trans hHeld
  have HB5 := Aside0.mk (HB4.out.trans (hb.mono HB4.out.size))
  have HS5 := Aside0.mk ((hb.block _ (blk_lt HS4.out)).trans HS4.out)
  clear hb
  refine hK.out _ _ (hx5) (fun hHeld => ?_)
  clear hK K
  refine norm_ (a' := ?_) ?_ ?_
  rotate_left
  · show Act.put _ (some 65) _ = _
    simp only [Act.put, List.setIfInBounds_toArray, List.set_cons_zero, List.set_cons_succ, i64_w, i32_w]
    rfl
  refine pure_ (i := 9) (N := some 9) (v := ?_) (a' := ?_) #[true, true, true, true, true, true, true, true, true, true, false] rfl rfl (by kernel_rfl) (fun _ _ _ h => h) (Or.inl ⟨by rfl, ?_⟩) ?_ ?_
  rotate_left
  · intro w'
    go_simp
    with_reducible rfl
  rotate_left
  · simp only [Act.put, List.setIfInBounds_toArray, List.set_cons_zero, List.set_cons_succ, i64_w, i32_w]
    rfl
  refine pure_ (i := 10) (N := some 10) (v := ?_) (a' := ?_) #[true, true, true, true, true, true, true, true, true, true, true] rfl rfl (by kernel_rfl) (fun _ _ _ h => h) (Or.inl ⟨by rfl, ?_⟩) ?_ ?_
  rotate_left
  · intro w'
    go_simp
    with_reducible rfl
  rotate_left
  · simp only [Act.put, List.setIfInBounds_toArray, List.set_cons_zero, List.set_cons_succ, i64_w, i32_w]
    rfl
  refine done_ (by kernel_rfl) ?_
  have hs5 : w5.cell? ⟨w.heap.size + 1, 0, none⟩ = some (.int .i64 8) := blk_cell HS5.out 0
  clear hHeld hs3
  go_wp2
  go_ret
  exact ⟨rfl, HB5.out⟩
set_option maxRecDepth 100000 in
set_option maxHeartbeats 1600000 in
theorem truth_cmp9 (x : Nat → Int) {p q : List S35} {y z : Int} (hp : 0 < p.length) (hq : 0 < q.length) (hqp : Pure.Post false q) (ihp : NumAt x p y) (ihq : NumAt x q z) : TruthAt x (p ++ q ++ [⟨9, 0⟩]) (decide (y ≥ z)) := by
  intro L pre post A c i w hL hl hi hC hc
  obtain ⟨hlt, hse⟩ := last_at (p := p ++ q) (s := (⟨9, 0⟩ : S35)) hL hi
  have hin : (i : Int) < (L.length : Int) := by omega
  obtain ⟨ad, eA, e0, e1⟩ := at_T35 hC (i : Int) (by omega) hin
  rw [Pure.rd_nat L i hlt, hse, Int.toNat_natCast] at e0 e1
  subst eA
  have HCC := Aside0.mk hC
  have HLL := Aside0.mk hL
  have HII := Aside0.mk hi
  have hi2 : i = pre.length + p.length + q.length := by simp only [List.length_append, List.length_cons, List.length_nil] at hi; omega
  have LD := Aside0.mk (fun (W : World) (g : Nat) (hg : W.heap[g]? = some (.cells (lit x) 48 (0, 0))) => load_lit hg)
  have IH := Aside0.mk (fun (W : World) (hb : Below w.heap.size w W) => ihq L (pre ++ p) ((⟨9, 0⟩ : S35) :: post) (some ad) c (i - 1) W (by rw [hL]; simp) hl (by rw [List.length_append]; omega) (Kd.C_below hC hb) hc)
  obtain ⟨j, hj⟩ : ∃ j, j + 1 = pre.length + p.length := ⟨pre.length + p.length - 1, by omega⟩
  have IHP := Aside0.mk (fun (W : World) (hb : Below w.heap.size w W) => ihp L pre (q ++ (⟨9, 0⟩ : S35) :: post) (some ad) c j W (by rw [hL]; simp) hl hj (Kd.C_below hC hb) hc)
  obtain ⟨kb, hkb⟩ := Pure.begin_at hqp L (pre ++ p) ((⟨9, 0⟩ : S35) :: post) (by rw [hL]; simp) hl
  have ebi : ((pre ++ p).length : Int) + (q.length : Int) - 1 = ((i - 1 : Nat) : Int) := by rw [List.length_append]; omega
  have ebj : ((pre ++ p).length : Int) = ((j + 1 : Nat) : Int) := by rw [List.length_append]; omega
  rw [ebi, ebj] at hkb
  have BG := Aside0.mk (show ∀ (W : World), Below w.heap.size w W → Calls Tryd.prog 64 #[.slice (some ad) L.length c, .int .i64 ((i - 1 : Nat) : Int)] W fun e w2 => e = .returned (.int .i64 ((j + 1 : Nat) : Int)) ∧ Below W.heap.size W w2 from fun W hb => (remontoirref15_begin.calls kb (some ad) c L _ _ W (Kd.C_below hC hb) hc hkb).mono (fun e w2 h => ⟨h.1, h.2.below⟩))
  generalize lit x = X at *
  have hi1 : 1 ≤ i := by omega
  have hj1 : j + 1 ≤ 100000 := by omega
  have e0 : (w.alloc (.cells X 48)).cell? (ad.add (i * 2)) = some (.int .i64 9) := cell_alloc_keep _ e0
  have e1 : (w.alloc (.cells X 48)).cell? ⟨(ad.add (i * 2)).block, (ad.add (i * 2)).off + 1, none⟩ = some (.int .i64 0) := cell_alloc_keep _ e1
  have hw1 := w64_pred i hi1 (by omega)
  have hw2 : (i : Int) - 1 = ((i - 1 : Nat) : Int) := by omega
  have hw6 := w64_nat (i - 1) (by omega)
  have hv1 : IntKind.i64.wrap ((i : Int) - 1) = ((i - 1 : Nat) : Int) := by rw [i64_w]; exact hw1
  have hv6 : IntKind.i64.wrap ((i - 1 : Nat) : Int) = ((i - 1 : Nat) : Int) := by rw [i64_w]; exact hw6
  have hw7 := w64_nat j (by omega)
  have hw4 : ((j + 1 : Nat) : Int) - 1 = (j : Int) := by omega
  have hw5 : ((j : Int) + 1) - 1 = (j : Int) := by omega
  have hv7 : IntKind.i64.wrap (j : Int) = (j : Int) := by rw [i64_w]; exact hw7
  clear hj hj1
  have hb2 : Below w.heap.size w (((w.alloc (.cells X 48)).alloc (.cells #[.int .i64 9, .int .i64 0] 35))) := ((Below.refl w.heap.size w).alloc (Nat.le_refl _) (.cells X 48)).alloc (by simp) _
  have HB2 := Aside0.mk hb2
  have HX2 := Aside0.mk (show (((w.alloc (.cells X 48)).alloc (.cells #[.int .i64 9, .int .i64 0] 35))).heap[w.heap.size]? = some (.cells X 48 (0, 0)) from (two_blocks w (.cells X 48) (.cells #[.int .i64 9, .int .i64 0] 35)).1)
  have HS2 := Aside0.mk (show (((w.alloc (.cells X 48)).alloc (.cells #[.int .i64 9, .int .i64 0] 35))).heap[w.heap.size + 1]? = some (.cells #[.int .i64 9, .int .i64 0] 35 (0, 0)) from (two_blocks w (.cells X 48) (.cells #[.int .i64 9, .int .i64 0] 35)).2)
  clear hb2
  clear hC hL hi hi2 hkb ebi ebj
  go_enter Tryd.func46, Tryd.ntmps46
  go_wp2_with (first | (go_at_call 64; (with_reducible refine (BG.out _ HB2.out).mono ?_); rintro e3 w3 ⟨rfl, hb⟩; have HB3 := Aside0.mk (HB2.out.trans (hb.mono HB2.out.size)); have HX3 := Aside0.mk ((hb.block _ (blk_lt HX2.out)).trans HX2.out); have HS3 := Aside0.mk ((hb.block _ (blk_lt HS2.out)).trans HS2.out); have hs3 : w3.cell? ⟨w.heap.size + 1, 0, none⟩ = some (.int .i64 9) := blk_cell HS3.out 0; clear hb))
  have HB3d := Aside0.mk (HB3.out.trans ((Below.refl w3.heap.size w3).drew.mono HB3.out.size))
  refine start_ (n := 11) (S := fun w' => w'.heap[w.heap.size]? = some (.cells X 48 (0, 0))) (ds := []) #[false, false, false, false, false, false, false, false, false, false, false] (by kernel_rfl) rfl rfl (HX3.out) (fun hHeld => ?_)
  refine pure_ (i := 0) (N := some 57) (v := ?_) (a' := ?_) #[true, false, false, false, false, false, false, false, false, false, false] rfl rfl (by kernel_rfl) (fun _ _ _ h => h) (Or.inl ⟨by rfl, ?_⟩) ?_ ?_
  rotate_left
  · intro w'
    go_simp
    with_reducible rfl
  rotate_left
  · simp only [Act.put, List.setIfInBounds_toArray, List.set_cons_zero, List.set_cons_succ, i64_w, i32_w]
    rfl
  refine pure_ (i := 1) (N := some 58) (v := ?_) (a' := ?_) #[true, true, false, false, false, false, false, false, false, false, false] rfl rfl (by kernel_rfl) (fun _ _ _ h => h) (Or.inl ⟨by rfl, ?_⟩) ?_ ?_
  rotate_left
  · intro w'
    go_simp
    with_reducible rfl
  rotate_left
  · simp only [Act.put, List.setIfInBounds_toArray, List.set_cons_zero, List.set_cons_succ, i64_w, i32_w]
    rfl
  refine pure_ (i := 4) (N := some 61) (v := ?_) (a' := ?_) #[true, true, false, false, true, false, false, false, false, false, false] rfl rfl (by kernel_rfl) (fun _ _ _ h => h) (Or.inl ⟨by rfl, ?_⟩) ?_ ?_
  rotate_left
  · intro w'
    go_simp
    with_reducible rfl
  rotate_left
  · simp only [Act.put, List.setIfInBounds_toArray, List.set_cons_zero, List.set_cons_succ, i64_w, i32_w]
    rfl
  refine pure_ (i := 5) (N := some 62) (v := ?_) (a' := ?_) #[true, true, false, false, true, true, false, false, false, false, false] rfl rfl (by kernel_rfl) (fun _ _ _ h => h) (Or.inl ⟨by rfl, ?_⟩) ?_ ?_
  rotate_left
  · intro w'
    go_simp
    with_reducible rfl
  rotate_left
  · simp only [Act.put, List.setIfInBounds_toArray, List.set_cons_zero, List.set_cons_succ, i64_w, i32_w]
    rfl
  refine pure_ (i := 6) (N := some 63) (v := ?_) (a' := ?_) #[true, true, false, false, true, true, true, false, false, false, false] rfl rfl (by kernel_rfl) (fun _ _ _ h => h) (Or.inl ⟨by rfl, ?_⟩) ?_ ?_
  rotate_left
  · intro w'
    go_simp
    with_reducible rfl
  rotate_left
  · simp only [Act.put, List.setIfInBounds_toArray, List.set_cons_zero, List.set_cons_succ, i64_w, i32_w]
    rfl
  refine take_ (i := 2) (N := some 59) (v := ?_) (a' := ?_) #[true, true, true, false, true, true, true, false, false, false, false] rfl rfl (by kernel_rfl) (fun _ _ _ h => h) (Or.inl ⟨by rfl, ?_⟩) hHeld ?_ ?_
  rotate_left
  · intro w' s0
    refine (exec_load rfl (LD.out _ _ s0)).trans ?_
    with_reducible rfl
  rotate_left
  · simp only [Act.put, List.setIfInBounds_toArray, List.set_cons_zero, List.set_cons_succ, i64_w, i32_w]
    rfl
  refine take_ (i := 7) (N := some 64) (v := ?_) (a' := ?_) #[true, true, true, false, true, true, true, true, false, false, false] rfl rfl (by kernel_rfl) (fun _ _ _ h => h) (Or.inl ⟨by rfl, ?_⟩) hHeld ?_ ?_
  rotate_left
  · intro w' s0
    refine (exec_load rfl (LD.out _ _ s0)).trans ?_
    with_reducible rfl
  rotate_left
  · simp only [Act.put, List.setIfInBounds_toArray, List.set_cons_zero, List.set_cons_succ, i64_w, i32_w]
    rfl
  refine one_ (i := 3) (N := some 60) #[true, true, true, true, true, true, true, true, false, false, false] rfl rfl (by kernel_rfl) (by decide) (fun K hK => ?_)
  refine goes_ Tryd.func65 (by kernel_rfl) rfl #[.slice (some ad) L.length c, .int .i64 (j : Int), .agg X] (by rfl) rfl rfl (by simp only [List.map_toArray, List.map_cons, List.map_nil]; rfl) ?_
  with_reducible refine (IHP.out _ HB3d.out).mono ?_
  rintro e4 w4 ⟨rfl, hb⟩
  refine ⟨_, rfl, ?_⟩
  have hx4 := (hb.block _ (blk_lt hHeld)).trans hHeld
  have HB4 := Aside0.mk (HB3d.out.trans (hb.mono HB3d.out.size))
  have HS4 := Aside0.mk ((hb.block _ (blk_lt HS3.out)).trans HS3.out)
  clear hb
  refine hK.out _ _ (hx4) (fun hHeld => ?_)
  clear hK K
  refine norm_ (a' := ?_) ?_ ?_
  rotate_left
  · show Act.put _ (some 60) _ = _
    simp only [Act.put, List.setIfInBounds_toArray, List.set_cons_zero, List.set_cons_succ, i64_w, i32_w]
    rfl
  refine one_ (i := 8) (N := some 65) #[true, true, true, true, true, true, true, true, true, false, false] rfl rfl (by kernel_rfl) (by decide) (fun K hK => ?_)
  refine goes_ Tryd.func65 (by kernel_rfl) rfl #[.slice (some ad) L.length c, .int .i64 ((i - 1 : Nat) : Int), .agg X] (by rfl) rfl rfl (by simp only [List.map_toArray, List.map_cons, List.map_nil]; rfl) ?_
  with_reducible refine (IH.out _ HB4.out).mono ?_
  rintro e5 w5 ⟨rfl, hb⟩
  refine ⟨_, rfl, ?_⟩
  have hx5 := (hb.block _ (blk_lt hHeld)).trans hHeld
  have HB5 := Aside0.mk (HB4.out.trans (hb.mono HB4.out.size))
  have HS5 := Aside0.mk ((hb.block _ (blk_lt HS4.out)).trans HS4.out)
  clear hb
  refine hK.out _ _ (hx5) (fun hHeld => ?_)
  clear hK K
  refine norm_ (a' := ?_) ?_ ?_
  rotate_left
  · show Act.put _ (some 65) _ = _
    simp only [Act.put, List.setIfInBounds_toArray, List.set_cons_zero, List.set_cons_succ, i64_w, i32_w]
    rfl
  refine pure_ (i := 9) (N := some 9) (v := ?_) (a' := ?_) #[true, true, true, true, true, true, true, true, true, true, false] rfl rfl (by kernel_rfl) (fun _ _ _ h => h) (Or.inl ⟨by rfl, ?_⟩) ?_ ?_
  rotate_left
  · intro w'
    go_simp
    with_reducible rfl
  rotate_left
  · simp only [Act.put, List.setIfInBounds_toArray, List.set_cons_zero, List.set_cons_succ, i64_w, i32_w]
    rfl
  refine pure_ (i := 10) (N := some 10) (v := ?_) (a' := ?_) #[true, true, true, true, true, true, true, true, true, true, true] rfl rfl (by kernel_rfl) (fun _ _ _ h => h) (Or.inl ⟨by rfl, ?_⟩) ?_ ?_
  rotate_left
  · intro w'
    go_simp
    with_reducible rfl
  rotate_left
  · simp only [Act.put, List.setIfInBounds_toArray, List.set_cons_zero, List.set_cons_succ, i64_w, i32_w]
    rfl
  refine done_ (by kernel_rfl) ?_
  have hs5 : w5.cell? ⟨w.heap.size + 1, 0, none⟩ = some (.int .i64 9) := blk_cell HS5.out 0
  clear hHeld hs3
  go_wp2
  go_ret
  exact ⟨rfl, HB5.out⟩
set_option maxRecDepth 100000 in
set_option maxHeartbeats 1600000 in
theorem truth_cmp10 (x : Nat → Int) {p q : List S35} {y z : Int} (hp : 0 < p.length) (hq : 0 < q.length) (hqp : Pure.Post false q) (ihp : NumAt x p y) (ihq : NumAt x q z) : TruthAt x (p ++ q ++ [⟨10, 0⟩]) (y == z) := by
  intro L pre post A c i w hL hl hi hC hc
  obtain ⟨hlt, hse⟩ := last_at (p := p ++ q) (s := (⟨10, 0⟩ : S35)) hL hi
  have hin : (i : Int) < (L.length : Int) := by omega
  obtain ⟨ad, eA, e0, e1⟩ := at_T35 hC (i : Int) (by omega) hin
  rw [Pure.rd_nat L i hlt, hse, Int.toNat_natCast] at e0 e1
  subst eA
  have HCC := Aside0.mk hC
  have HLL := Aside0.mk hL
  have HII := Aside0.mk hi
  have hi2 : i = pre.length + p.length + q.length := by simp only [List.length_append, List.length_cons, List.length_nil] at hi; omega
  have LD := Aside0.mk (fun (W : World) (g : Nat) (hg : W.heap[g]? = some (.cells (lit x) 48 (0, 0))) => load_lit hg)
  have IH := Aside0.mk (fun (W : World) (hb : Below w.heap.size w W) => ihq L (pre ++ p) ((⟨10, 0⟩ : S35) :: post) (some ad) c (i - 1) W (by rw [hL]; simp) hl (by rw [List.length_append]; omega) (Kd.C_below hC hb) hc)
  obtain ⟨j, hj⟩ : ∃ j, j + 1 = pre.length + p.length := ⟨pre.length + p.length - 1, by omega⟩
  have IHP := Aside0.mk (fun (W : World) (hb : Below w.heap.size w W) => ihp L pre (q ++ (⟨10, 0⟩ : S35) :: post) (some ad) c j W (by rw [hL]; simp) hl hj (Kd.C_below hC hb) hc)
  obtain ⟨kb, hkb⟩ := Pure.begin_at hqp L (pre ++ p) ((⟨10, 0⟩ : S35) :: post) (by rw [hL]; simp) hl
  have ebi : ((pre ++ p).length : Int) + (q.length : Int) - 1 = ((i - 1 : Nat) : Int) := by rw [List.length_append]; omega
  have ebj : ((pre ++ p).length : Int) = ((j + 1 : Nat) : Int) := by rw [List.length_append]; omega
  rw [ebi, ebj] at hkb
  have BG := Aside0.mk (show ∀ (W : World), Below w.heap.size w W → Calls Tryd.prog 64 #[.slice (some ad) L.length c, .int .i64 ((i - 1 : Nat) : Int)] W fun e w2 => e = .returned (.int .i64 ((j + 1 : Nat) : Int)) ∧ Below W.heap.size W w2 from fun W hb => (remontoirref15_begin.calls kb (some ad) c L _ _ W (Kd.C_below hC hb) hc hkb).mono (fun e w2 h => ⟨h.1, h.2.below⟩))
  generalize lit x = X at *
  have hi1 : 1 ≤ i := by omega
  have hj1 : j + 1 ≤ 100000 := by omega
  have e0 : (w.alloc (.cells X 48)).cell? (ad.add (i * 2)) = some (.int .i64 10) := cell_alloc_keep _ e0
  have e1 : (w.alloc (.cells X 48)).cell? ⟨(ad.add (i * 2)).block, (ad.add (i * 2)).off + 1, none⟩ = some (.int .i64 0) := cell_alloc_keep _ e1
  have hw1 := w64_pred i hi1 (by omega)
  have hw2 : (i : Int) - 1 = ((i - 1 : Nat) : Int) := by omega
  have hw6 := w64_nat (i - 1) (by omega)
  have hv1 : IntKind.i64.wrap ((i : Int) - 1) = ((i - 1 : Nat) : Int) := by rw [i64_w]; exact hw1
  have hv6 : IntKind.i64.wrap ((i - 1 : Nat) : Int) = ((i - 1 : Nat) : Int) := by rw [i64_w]; exact hw6
  have hw7 := w64_nat j (by omega)
  have hw4 : ((j + 1 : Nat) : Int) - 1 = (j : Int) := by omega
  have hw5 : ((j : Int) + 1) - 1 = (j : Int) := by omega
  have hv7 : IntKind.i64.wrap (j : Int) = (j : Int) := by rw [i64_w]; exact hw7
  clear hj hj1
  have hb2 : Below w.heap.size w (((w.alloc (.cells X 48)).alloc (.cells #[.int .i64 10, .int .i64 0] 35))) := ((Below.refl w.heap.size w).alloc (Nat.le_refl _) (.cells X 48)).alloc (by simp) _
  have HB2 := Aside0.mk hb2
  have HX2 := Aside0.mk (show (((w.alloc (.cells X 48)).alloc (.cells #[.int .i64 10, .int .i64 0] 35))).heap[w.heap.size]? = some (.cells X 48 (0, 0)) from (two_blocks w (.cells X 48) (.cells #[.int .i64 10, .int .i64 0] 35)).1)
  have HS2 := Aside0.mk (show (((w.alloc (.cells X 48)).alloc (.cells #[.int .i64 10, .int .i64 0] 35))).heap[w.heap.size + 1]? = some (.cells #[.int .i64 10, .int .i64 0] 35 (0, 0)) from (two_blocks w (.cells X 48) (.cells #[.int .i64 10, .int .i64 0] 35)).2)
  clear hb2
  clear hC hL hi hi2 hkb ebi ebj
  go_enter Tryd.func46, Tryd.ntmps46
  go_wp2_with (first | (go_at_call 64; (with_reducible refine (BG.out _ HB2.out).mono ?_); rintro e3 w3 ⟨rfl, hb⟩; have HB3 := Aside0.mk (HB2.out.trans (hb.mono HB2.out.size)); have HX3 := Aside0.mk ((hb.block _ (blk_lt HX2.out)).trans HX2.out); have HS3 := Aside0.mk ((hb.block _ (blk_lt HS2.out)).trans HS2.out); have hs3 : w3.cell? ⟨w.heap.size + 1, 0, none⟩ = some (.int .i64 10) := blk_cell HS3.out 0; clear hb))
  have HB3d := Aside0.mk (HB3.out.trans ((Below.refl w3.heap.size w3).drew.mono HB3.out.size))
  refine start_ (n := 11) (S := fun w' => w'.heap[w.heap.size]? = some (.cells X 48 (0, 0))) (ds := []) #[false, false, false, false, false, false, false, false, false, false, false] (by kernel_rfl) rfl rfl (HX3.out) (fun hHeld => ?_)
  refine pure_ (i := 0) (N := some 57) (v := ?_) (a' := ?_) #[true, false, false, false, false, false, false, false, false, false, false] rfl rfl (by kernel_rfl) (fun _ _ _ h => h) (Or.inl ⟨by rfl, ?_⟩) ?_ ?_
  rotate_left
  · intro w'
    go_simp
    with_reducible rfl
  rotate_left
  · simp only [Act.put, List.setIfInBounds_toArray, List.set_cons_zero, List.set_cons_succ, i64_w, i32_w]
    rfl
  refine pure_ (i := 1) (N := some 58) (v := ?_) (a' := ?_) #[true, true, false, false, false, false, false, false, false, false, false] rfl rfl (by kernel_rfl) (fun _ _ _ h => h) (Or.inl ⟨by rfl, ?_⟩) ?_ ?_
  rotate_left
  · intro w'
    go_simp
    with_reducible rfl
  rotate_left
  · simp only [Act.put, List.setIfInBounds_toArray, List.set_cons_zero, List.set_cons_succ, i64_w, i32_w]
    rfl
  refine pure_ (i := 4) (N := some 61) (v := ?_) (a' := ?_) #[true, true, false, false, true, false, false, false, false, false, false] rfl rfl (by kernel_rfl) (fun _ _ _ h => h) (Or.inl ⟨by rfl, ?_⟩) ?_ ?_
  rotate_left
  · intro w'
    go_simp
    with_reducible rfl
  rotate_left
  · simp only [Act.put, List.setIfInBounds_toArray, List.set_cons_zero, List.set_cons_succ, i64_w, i32_w]
    rfl
  refine pure_ (i := 5) (N := some 62) (v := ?_) (a' := ?_) #[true, true, false, false, true, true, false, false, false, false, false] rfl rfl (by kernel_rfl) (fun _ _ _ h => h) (Or.inl ⟨by rfl, ?_⟩) ?_ ?_
  rotate_left
  · intro w'
    go_simp
    with_reducible rfl
  rotate_left
  · simp only [Act.put, List.setIfInBounds_toArray, List.set_cons_zero, List.set_cons_succ, i64_w, i32_w]
    rfl
  refine pure_ (i := 6) (N := some 63) (v := ?_) (a' := ?_) #[true, true, false, false, true, true, true, false, false, false, false] rfl rfl (by kernel_rfl) (fun _ _ _ h => h) (Or.inl ⟨by rfl, ?_⟩) ?_ ?_
  rotate_left
  · intro w'
    go_simp
    with_reducible rfl
  rotate_left
  · simp only [Act.put, List.setIfInBounds_toArray, List.set_cons_zero, List.set_cons_succ, i64_w, i32_w]
    rfl
  refine take_ (i := 2) (N := some 59) (v := ?_) (a' := ?_) #[true, true, true, false, true, true, true, false, false, false, false] rfl rfl (by kernel_rfl) (fun _ _ _ h => h) (Or.inl ⟨by rfl, ?_⟩) hHeld ?_ ?_
  rotate_left
  · intro w' s0
    refine (exec_load rfl (LD.out _ _ s0)).trans ?_
    with_reducible rfl
  rotate_left
  · simp only [Act.put, List.setIfInBounds_toArray, List.set_cons_zero, List.set_cons_succ, i64_w, i32_w]
    rfl
  refine take_ (i := 7) (N := some 64) (v := ?_) (a' := ?_) #[true, true, true, false, true, true, true, true, false, false, false] rfl rfl (by kernel_rfl) (fun _ _ _ h => h) (Or.inl ⟨by rfl, ?_⟩) hHeld ?_ ?_
  rotate_left
  · intro w' s0
    refine (exec_load rfl (LD.out _ _ s0)).trans ?_
    with_reducible rfl
  rotate_left
  · simp only [Act.put, List.setIfInBounds_toArray, List.set_cons_zero, List.set_cons_succ, i64_w, i32_w]
    rfl
  refine one_ (i := 3) (N := some 60) #[true, true, true, true, true, true, true, true, false, false, false] rfl rfl (by kernel_rfl) (by decide) (fun K hK => ?_)
  refine goes_ Tryd.func65 (by kernel_rfl) rfl #[.slice (some ad) L.length c, .int .i64 (j : Int), .agg X] (by rfl) rfl rfl (by simp only [List.map_toArray, List.map_cons, List.map_nil]; rfl) ?_
  with_reducible refine (IHP.out _ HB3d.out).mono ?_
  rintro e4 w4 ⟨rfl, hb⟩
  refine ⟨_, rfl, ?_⟩
  have hx4 := (hb.block _ (blk_lt hHeld)).trans hHeld
  have HB4 := Aside0.mk (HB3d.out.trans (hb.mono HB3d.out.size))
  have HS4 := Aside0.mk ((hb.block _ (blk_lt HS3.out)).trans HS3.out)
  clear hb
  refine hK.out _ _ (hx4) (fun hHeld => ?_)
  clear hK K
  refine norm_ (a' := ?_) ?_ ?_
  rotate_left
  · show Act.put _ (some 60) _ = _
    simp only [Act.put, List.setIfInBounds_toArray, List.set_cons_zero, List.set_cons_succ, i64_w, i32_w]
    rfl
  refine one_ (i := 8) (N := some 65) #[true, true, true, true, true, true, true, true, true, false, false] rfl rfl (by kernel_rfl) (by decide) (fun K hK => ?_)
  refine goes_ Tryd.func65 (by kernel_rfl) rfl #[.slice (some ad) L.length c, .int .i64 ((i - 1 : Nat) : Int), .agg X] (by rfl) rfl rfl (by simp only [List.map_toArray, List.map_cons, List.map_nil]; rfl) ?_
  with_reducible refine (IH.out _ HB4.out).mono ?_
  rintro e5 w5 ⟨rfl, hb⟩
  refine ⟨_, rfl, ?_⟩
  have hx5 := (hb.block _ (blk_lt hHeld)).trans hHeld
  have HB5 := Aside0.mk (HB4.out.trans (hb.mono HB4.out.size))
  have HS5 := Aside0.mk ((hb.block _ (blk_lt HS4.out)).trans HS4.out)
  clear hb
  refine hK.out _ _ (hx5) (fun hHeld => ?_)
  clear hK K
  refine norm_ (a' := ?_) ?_ ?_
  rotate_left
  · show Act.put _ (some 65) _ = _
    simp only [Act.put, List.setIfInBounds_toArray, List.set_cons_zero, List.set_cons_succ, i64_w, i32_w]
    rfl
  refine pure_ (i := 9) (N := some 9) (v := ?_) (a' := ?_) #[true, true, true, true, true, true, true, true, true, true, false] rfl rfl (by kernel_rfl) (fun _ _ _ h => h) (Or.inl ⟨by rfl, ?_⟩) ?_ ?_
  rotate_left
  · intro w'
    go_simp
    with_reducible rfl
  rotate_left
  · simp only [Act.put, List.setIfInBounds_toArray, List.set_cons_zero, List.set_cons_succ, i64_w, i32_w]
    rfl
  refine pure_ (i := 10) (N := some 10) (v := ?_) (a' := ?_) #[true, true, true, true, true, true, true, true, true, true, true] rfl rfl (by kernel_rfl) (fun _ _ _ h => h) (Or.inl ⟨by rfl, ?_⟩) ?_ ?_
  rotate_left
  · intro w'
    go_simp
    with_reducible rfl
  rotate_left
  · simp only [Act.put, List.setIfInBounds_toArray, List.set_cons_zero, List.set_cons_succ, i64_w, i32_w]
    rfl
  refine done_ (by kernel_rfl) ?_
  have hs5 : w5.cell? ⟨w.heap.size + 1, 0, none⟩ = some (.int .i64 10) := blk_cell HS5.out 0
  clear hHeld hs3
  go_wp2
  go_ret
  exact ⟨rfl, HB5.out⟩
set_option maxRecDepth 100000 in
set_option maxHeartbeats 1600000 in
theorem truth_cmp11 (x : Nat → Int) {p q : List S35} {y z : Int} (hp : 0 < p.length) (hq : 0 < q.length) (hqp : Pure.Post false q) (ihp : NumAt x p y) (ihq : NumAt x q z) : TruthAt x (p ++ q ++ [⟨11, 0⟩]) (y != z) := by
  intro L pre post A c i w hL hl hi hC hc
  obtain ⟨hlt, hse⟩ := last_at (p := p ++ q) (s := (⟨11, 0⟩ : S35)) hL hi
  have hin : (i : Int) < (L.length : Int) := by omega
  obtain ⟨ad, eA, e0, e1⟩ := at_T35 hC (i : Int) (by omega) hin
  rw [Pure.rd_nat L i hlt, hse, Int.toNat_natCast] at e0 e1
  subst eA
  have HCC := Aside0.mk hC
  have HLL := Aside0.mk hL
  have HII := Aside0.mk hi
  have hi2 : i = pre.length + p.length + q.length := by simp only [List.length_append, List.length_cons, List.length_nil] at hi; omega
  have LD := Aside0.mk (fun (W : World) (g : Nat) (hg : W.heap[g]? = some (.cells (lit x) 48 (0, 0))) => load_lit hg)
  have IH := Aside0.mk (fun (W : World) (hb : Below w.heap.size w W) => ihq L (pre ++ p) ((⟨11, 0⟩ : S35) :: post) (some ad) c (i - 1) W (by rw [hL]; simp) hl (by rw [List.length_append]; omega) (Kd.C_below hC hb) hc)
  obtain ⟨j, hj⟩ : ∃ j, j + 1 = pre.length + p.length := ⟨pre.length + p.length - 1, by omega⟩
  have IHP := Aside0.mk (fun (W : World) (hb : Below w.heap.size w W) => ihp L pre (q ++ (⟨11, 0⟩ : S35) :: post) (some ad) c j W (by rw [hL]; simp) hl hj (Kd.C_below hC hb) hc)
  obtain ⟨kb, hkb⟩ := Pure.begin_at hqp L (pre ++ p) ((⟨11, 0⟩ : S35) :: post) (by rw [hL]; simp) hl
  have ebi : ((pre ++ p).length : Int) + (q.length : Int) - 1 = ((i - 1 : Nat) : Int) := by rw [List.length_append]; omega
  have ebj : ((pre ++ p).length : Int) = ((j + 1 : Nat) : Int) := by rw [List.length_append]; omega
  rw [ebi, ebj] at hkb
  have BG := Aside0.mk (show ∀ (W : World), Below w.heap.size w W → Calls Tryd.prog 64 #[.slice (some ad) L.length c, .int .i64 ((i - 1 : Nat) : Int)] W fun e w2 => e = .returned (.int .i64 ((j + 1 : Nat) : Int)) ∧ Below W.heap.size W w2 from fun W hb => (remontoirref15_begin.calls kb (some ad) c L _ _ W (Kd.C_below hC hb) hc hkb).mono (fun e w2 h => ⟨h.1, h.2.below⟩))
  generalize lit x = X at *
  have hi1 : 1 ≤ i := by omega
  have hj1 : j + 1 ≤ 100000 := by omega
  have e0 : (w.alloc (.cells X 48)).cell? (ad.add (i * 2)) = some (.int .i64 11) := cell_alloc_keep _ e0
  have e1 : (w.alloc (.cells X 48)).cell? ⟨(ad.add (i * 2)).block, (ad.add (i * 2)).off + 1, none⟩ = some (.int .i64 0) := cell_alloc_keep _ e1
  have hw1 := w64_pred i hi1 (by omega)
  have hw2 : (i : Int) - 1 = ((i - 1 : Nat) : Int) := by omega
  have hw6 := w64_nat (i - 1) (by omega)
  have hv1 : IntKind.i64.wrap ((i : Int) - 1) = ((i - 1 : Nat) : Int) := by rw [i64_w]; exact hw1
  have hv6 : IntKind.i64.wrap ((i - 1 : Nat) : Int) = ((i - 1 : Nat) : Int) := by rw [i64_w]; exact hw6
  have hw7 := w64_nat j (by omega)
  have hw4 : ((j + 1 : Nat) : Int) - 1 = (j : Int) := by omega
  have hw5 : ((j : Int) + 1) - 1 = (j : Int) := by omega
  have hv7 : IntKind.i64.wrap (j : Int) = (j : Int) := by rw [i64_w]; exact hw7
  clear hj hj1
  have hb2 : Below w.heap.size w (((w.alloc (.cells X 48)).alloc (.cells #[.int .i64 11, .int .i64 0] 35))) := ((Below.refl w.heap.size w).alloc (Nat.le_refl _) (.cells X 48)).alloc (by simp) _
  have HB2 := Aside0.mk hb2
  have HX2 := Aside0.mk (show (((w.alloc (.cells X 48)).alloc (.cells #[.int .i64 11, .int .i64 0] 35))).heap[w.heap.size]? = some (.cells X 48 (0, 0)) from (two_blocks w (.cells X 48) (.cells #[.int .i64 11, .int .i64 0] 35)).1)
  have HS2 := Aside0.mk (show (((w.alloc (.cells X 48)).alloc (.cells #[.int .i64 11, .int .i64 0] 35))).heap[w.heap.size + 1]? = some (.cells #[.int .i64 11, .int .i64 0] 35 (0, 0)) from (two_blocks w (.cells X 48) (.cells #[.int .i64 11, .int .i64 0] 35)).2)
  clear hb2
  clear hC hL hi hi2 hkb ebi ebj
  go_enter Tryd.func46, Tryd.ntmps46
  go_wp2_with (first | (go_at_call 64; (with_reducible refine (BG.out _ HB2.out).mono ?_); rintro e3 w3 ⟨rfl, hb⟩; have HB3 := Aside0.mk (HB2.out.trans (hb.mono HB2.out.size)); have HX3 := Aside0.mk ((hb.block _ (blk_lt HX2.out)).trans HX2.out); have HS3 := Aside0.mk ((hb.block _ (blk_lt HS2.out)).trans HS2.out); have hs3 : w3.cell? ⟨w.heap.size + 1, 0, none⟩ = some (.int .i64 11) := blk_cell HS3.out 0; clear hb))
  have HB3d := Aside0.mk (HB3.out.trans ((Below.refl w3.heap.size w3).drew.mono HB3.out.size))
  refine start_ (n := 11) (S := fun w' => w'.heap[w.heap.size]? = some (.cells X 48 (0, 0))) (ds := []) #[false, false, false, false, false, false, false, false, false, false, false] (by kernel_rfl) rfl rfl (HX3.out) (fun hHeld => ?_)
  refine pure_ (i := 0) (N := some 57) (v := ?_) (a' := ?_) #[true, false, false, false, false, false, false, false, false, false, false] rfl rfl (by kernel_rfl) (fun _ _ _ h => h) (Or.inl ⟨by rfl, ?_⟩) ?_ ?_
  rotate_left
  · intro w'
    go_simp
    with_reducible rfl
  rotate_left
  · simp only [Act.put, List.setIfInBounds_toArray, List.set_cons_zero, List.set_cons_succ, i64_w, i32_w]
    rfl
  refine pure_ (i := 1) (N := some 58) (v := ?_) (a' := ?_) #[true, true, false, false, false, false, false, false, false, false, false] rfl rfl (by kernel_rfl) (fun _ _ _ h => h) (Or.inl ⟨by rfl, ?_⟩) ?_ ?_
  rotate_left
  · intro w'
    go_simp
    with_reducible rfl
  rotate_left
  · simp only [Act.put, List.setIfInBounds_toArray, List.set_cons_zero, List.set_cons_succ, i64_w, i32_w]
    rfl
  refine pure_ (i := 4) (N := some 61) (v := ?_) (a' := ?_) #[true, true, false, false, true, false, false, false, false, false, false] rfl rfl (by kernel_rfl) (fun _ _ _ h => h) (Or.inl ⟨by rfl, ?_⟩) ?_ ?_
  rotate_left
  · intro w'
    go_simp
    with_reducible rfl
  rotate_left
  · simp only [Act.put, List.setIfInBounds_toArray, List.set_cons_zero, List.set_cons_succ, i64_w, i32_w]
    rfl
  refine pure_ (i := 5) (N := some 62) (v := ?_) (a' := ?_) #[true, true, false, false, true, true, false, false, false, false, false] rfl rfl (by kernel_rfl) (fun _ _ _ h => h) (Or.inl ⟨by rfl, ?_⟩) ?_ ?_
  rotate_left
  · intro w'
    go_simp
    with_reducible rfl
  rotate_left
  · simp only [Act.put, List.setIfInBounds_toArray, List.set_cons_zero, List.set_cons_succ, i64_w, i32_w]
    rfl
  refine pure_ (i := 6) (N := some 63) (v := ?_) (a' := ?_) #[true, true, false, false, true, true, true, false, false, false, false] rfl rfl (by kernel_rfl) (fun _ _ _ h => h) (Or.inl ⟨by rfl, ?_⟩) ?_ ?_
  rotate_left
  · intro w'
    go_simp
    with_reducible rfl
  rotate_left
  · simp only [Act.put, List.setIfInBounds_toArray, List.set_cons_zero, List.set_cons_succ, i64_w, i32_w]
    rfl
  refine take_ (i := 2) (N := some 59) (v := ?_) (a' := ?_) #[true, true, true, false, true, true, true, false, false, false, false] rfl rfl (by kernel_rfl) (fun _ _ _ h => h) (Or.inl ⟨by rfl, ?_⟩) hHeld ?_ ?_
  rotate_left
  · intro w' s0
    refine (exec_load rfl (LD.out _ _ s0)).trans ?_
    with_reducible rfl
  rotate_left
  · simp only [Act.put, List.setIfInBounds_toArray, List.set_cons_zero, List.set_cons_succ, i64_w, i32_w]
    rfl
  refine take_ (i := 7) (N := some 64) (v := ?_) (a' := ?_) #[true, true, true, false, true, true, true, true, false, false, false] rfl rfl (by kernel_rfl) (fun _ _ _ h => h) (Or.inl ⟨by rfl, ?_⟩) hHeld ?_ ?_
  rotate_left
  · intro w' s0
    refine (exec_load rfl (LD.out _ _ s0)).trans ?_
    with_reducible rfl
  rotate_left
  · simp only [Act.put, List.setIfInBounds_toArray, List.set_cons_zero, List.set_cons_succ, i64_w, i32_w]
    rfl
  refine one_ (i := 3) (N := some 60) #[true, true, true, true, true, true, true, true, false, false, false] rfl rfl (by kernel_rfl) (by decide) (fun K hK => ?_)
  refine goes_ Tryd.func65 (by kernel_rfl) rfl #[.slice (some ad) L.length c, .int .i64 (j : Int), .agg X] (by rfl) rfl rfl (by simp only [List.map_toArray, List.map_cons, List.map_nil]; rfl) ?_
  with_reducible refine (IHP.out _ HB3d.out).mono ?_
  rintro e4 w4 ⟨rfl, hb⟩
  refine ⟨_, rfl, ?_⟩
  have hx4 := (hb.block _ (blk_lt hHeld)).trans hHeld
  have HB4 := Aside0.mk (HB3d.out.trans (hb.mono HB3d.out.size))
  have HS4 := Aside0.mk ((hb.block _ (blk_lt HS3.out)).trans HS3.out)
  clear hb
  refine hK.out _ _ (hx4) (fun hHeld => ?_)
  clear hK K
  refine norm_ (a' := ?_) ?_ ?_
  rotate_left
  · show Act.put _ (some 60) _ = _
    simp only [Act.put, List.setIfInBounds_toArray, List.set_cons_zero, List.set_cons_succ, i64_w, i32_w]
    rfl
  refine one_ (i := 8) (N := some 65) #[true, true, true, true, true, true, true, true, true, false, false] rfl rfl (by kernel_rfl) (by decide) (fun K hK => ?_)
  refine goes_ Tryd.func65 (by kernel_rfl) rfl #[.slice (some ad) L.length c, .int .i64 ((i - 1 : Nat) : Int), .agg X] (by rfl) rfl rfl (by simp only [List.map_toArray, List.map_cons, List.map_nil]; rfl) ?_
  with_reducible refine (IH.out _ HB4.out).mono ?_
  rintro e5 w5 ⟨rfl, hb⟩
  refine ⟨_, rfl, ?_⟩
  have hx5 := (hb.block _ (blk_lt hHeld)).trans hHeld
  have HB5 := Aside0.mk (HB4.out.trans (hb.mono HB4.out.size))
  have HS5 := Aside0.mk ((hb.block _ (blk_lt HS4.out)).trans HS4.out)
  clear hb
  refine hK.out _ _ (hx5) (fun hHeld => ?_)
  clear hK K
  refine norm_ (a' := ?_) ?_ ?_
  rotate_left
  · show Act.put _ (some 65) _ = _
    simp only [Act.put, List.setIfInBounds_toArray, List.set_cons_zero, List.set_cons_succ, i64_w, i32_w]
    rfl
  refine pure_ (i := 9) (N := some 9) (v := ?_) (a' := ?_) #[true, true, true, true, true, true, true, true, true, true, false] rfl rfl (by kernel_rfl) (fun _ _ _ h => h) (Or.inl ⟨by rfl, ?_⟩) ?_ ?_
  rotate_left
  · intro w'
    go_simp
    with_reducible rfl
  rotate_left
  · simp only [Act.put, List.setIfInBounds_toArray, List.set_cons_zero, List.set_cons_succ, i64_w, i32_w]
    rfl
  refine pure_ (i := 10) (N := some 10) (v := ?_) (a' := ?_) #[true, true, true, true, true, true, true, true, true, true, true] rfl rfl (by kernel_rfl) (fun _ _ _ h => h) (Or.inl ⟨by rfl, ?_⟩) ?_ ?_
  rotate_left
  · intro w'
    go_simp
    with_reducible rfl
  rotate_left
  · simp only [Act.put, List.setIfInBounds_toArray, List.set_cons_zero, List.set_cons_succ, i64_w, i32_w]
    rfl
  refine done_ (by kernel_rfl) ?_
  have hs5 : w5.cell? ⟨w.heap.size + 1, 0, none⟩ = some (.int .i64 11) := blk_cell HS5.out 0
  clear hHeld hs3
  go_wp2
  go_ret
  exact ⟨rfl, HB5.out⟩
end Go.Proofs.YtojfdekiponccaaDoor.H
/- The document's truth of & and |. -/
namespace Go.Proofs.YtojfdekiponccaaDoor.H
open Go.RowKit Go.HK Go.Proofs.YtojfdekiponccaaDoorW.PrintWords Go.Proofs.YtojfdekiponccaaDoorW.PrintLast Go.Proofs.YtojfdekiponccaaDoorW.PrintMore
set_option linter.unusedVariables false
set_option linter.unusedSimpArgs false
theorem readGuardT {P : Program} {ops : Array Oper} {rest : List Oper} {o : Oper} {a : Act} {w : World} {Q : Exit → Act → World → Prop} (dst : Option Tmp) (hdst : o.dst = dst)
    (v : Value) (hrun : (execOp a.eval o).run P w = .ok (.value v) w) (hw : Region.wanted o (yielded ops a.tmps) = true) (h : wpList P ops Q rest (a.put dst v) w) : wpList P ops Q (o :: rest) a w := by
  subst hdst
  refine wpList_step fun K hK => ?_
  rw [if_pos hw]
  unfold Oper.wp
  rw [hrun, Oper.upon_value]
  exact hK _ _ h
set_option maxRecDepth 100000 in
set_option maxHeartbeats 1600000 in
theorem truth_con13 (x : Nat → Int) {p q : List S35} {y z : Bool} (hp : 0 < p.length) (hq : 0 < q.length) (hqp : Pure.Post true q) (ihp : TruthAt x p y) (ihq : TruthAt x q z) : TruthAt x (p ++ q ++ [⟨13, 0⟩]) (y || z) := by
  intro L pre post A c i w hL hl hi hC hc
  obtain ⟨hlt, hse⟩ := last_at (p := p ++ q) (s := (⟨13, 0⟩ : S35)) hL hi
  have hin : (i : Int) < (L.length : Int) := by omega
  obtain ⟨ad, eA, e0, e1⟩ := at_T35 hC (i : Int) (by omega) hin
  rw [Pure.rd_nat L i hlt, hse, Int.toNat_natCast] at e0 e1
  subst eA
  have HCC := Aside0.mk hC
  have HLL := Aside0.mk hL
  have HII := Aside0.mk hi
  have hi2 : i = pre.length + p.length + q.length := by simp only [List.length_append, List.length_cons, List.length_nil] at hi; omega
  have LD := Aside0.mk (fun (W : World) (g : Nat) (hg : W.heap[g]? = some (.cells (lit x) 48 (0, 0))) => load_lit hg)
  have IH := Aside0.mk (fun (W : World) (hb : Below w.heap.size w W) => ihq L (pre ++ p) ((⟨13, 0⟩ : S35) :: post) (some ad) c (i - 1) W (by rw [hL]; simp) hl (by rw [List.length_append]; omega) (Kd.C_below hC hb) hc)
  obtain ⟨j, hj⟩ : ∃ j, j + 1 = pre.length + p.length := ⟨pre.length + p.length - 1, by omega⟩
  have IHP := Aside0.mk (fun (W : World) (hb : Below w.heap.size w W) => ihp L pre (q ++ (⟨13, 0⟩ : S35) :: post) (some ad) c j W (by rw [hL]; simp) hl hj (Kd.C_below hC hb) hc)
  obtain ⟨kb, hkb⟩ := Pure.begin_at hqp L (pre ++ p) ((⟨13, 0⟩ : S35) :: post) (by rw [hL]; simp) hl
  have ebi : ((pre ++ p).length : Int) + (q.length : Int) - 1 = ((i - 1 : Nat) : Int) := by rw [List.length_append]; omega
  have ebj : ((pre ++ p).length : Int) = ((j + 1 : Nat) : Int) := by rw [List.length_append]; omega
  rw [ebi, ebj] at hkb
  have BG := Aside0.mk (show ∀ (W : World), Below w.heap.size w W → Calls Tryd.prog 64 #[.slice (some ad) L.length c, .int .i64 ((i - 1 : Nat) : Int)] W fun e w2 => e = .returned (.int .i64 ((j + 1 : Nat) : Int)) ∧ Below W.heap.size W w2 from fun W hb => (remontoirref15_begin.calls kb (some ad) c L _ _ W (Kd.C_below hC hb) hc hkb).mono (fun e w2 h => ⟨h.1, h.2.below⟩))
  generalize lit x = X at *
  have hi1 : 1 ≤ i := by omega
  have hj1 : j + 1 ≤ 100000 := by omega
  have e0 : (w.alloc (.cells X 48)).cell? (ad.add (i * 2)) = some (.int .i64 13) := cell_alloc_keep _ e0
  have e1 : (w.alloc (.cells X 48)).cell? ⟨(ad.add (i * 2)).block, (ad.add (i * 2)).off + 1, none⟩ = some (.int .i64 0) := cell_alloc_keep _ e1
  have hw1 := w64_pred i hi1 (by omega)
  have hw2 : (i : Int) - 1 = ((i - 1 : Nat) : Int) := by omega
  have hw6 := w64_nat (i - 1) (by omega)
  have hv1 : IntKind.i64.wrap ((i : Int) - 1) = ((i - 1 : Nat) : Int) := by rw [i64_w]; exact hw1
  have hv6 : IntKind.i64.wrap ((i - 1 : Nat) : Int) = ((i - 1 : Nat) : Int) := by rw [i64_w]; exact hw6
  have hw7 := w64_nat j (by omega)
  have hw4 : ((j + 1 : Nat) : Int) - 1 = (j : Int) := by omega
  have hw5 : ((j : Int) + 1) - 1 = (j : Int) := by omega
  have hv7 : IntKind.i64.wrap (j : Int) = (j : Int) := by rw [i64_w]; exact hw7
  clear hj hj1
  have hb2 : Below w.heap.size w (((w.alloc (.cells X 48)).alloc (.cells #[.int .i64 13, .int .i64 0] 35))) := ((Below.refl w.heap.size w).alloc (Nat.le_refl _) (.cells X 48)).alloc (by simp) _
  have HB2 := Aside0.mk hb2
  have HX2 := Aside0.mk (show (((w.alloc (.cells X 48)).alloc (.cells #[.int .i64 13, .int .i64 0] 35))).heap[w.heap.size]? = some (.cells X 48 (0, 0)) from (two_blocks w (.cells X 48) (.cells #[.int .i64 13, .int .i64 0] 35)).1)
  have HS2 := Aside0.mk (show (((w.alloc (.cells X 48)).alloc (.cells #[.int .i64 13, .int .i64 0] 35))).heap[w.heap.size + 1]? = some (.cells #[.int .i64 13, .int .i64 0] 35 (0, 0)) from (two_blocks w (.cells X 48) (.cells #[.int .i64 13, .int .i64 0] 35)).2)
  clear hb2
  clear hC hL hi hi2 hkb ebi ebj
  cases y with
  | true =>
    go_enter Tryd.func46, Tryd.ntmps46
    go_wp2_with (first | (go_at_call 64; (with_reducible refine (BG.out _ HB2.out).mono ?_); rintro e3 w3 ⟨rfl, hb⟩; have HB3 := Aside0.mk (HB2.out.trans (hb.mono HB2.out.size)); have HX3 := Aside0.mk ((hb.block _ (blk_lt HX2.out)).trans HX2.out); have HS3 := Aside0.mk ((hb.block _ (blk_lt HS2.out)).trans HS2.out); have hs3 : w3.cell? ⟨w.heap.size + 1, 0, none⟩ = some (.int .i64 13) := blk_cell HS3.out 0; clear hb) | (with_reducible refine Great.wpList_readTo rfl (some 34) rfl (.agg X) (exec_load rfl (LD.out _ _ HX3.out)) ?_) | (go_at_call 46; (with_reducible refine (IHP.out _ HB3.out).mono ?_); rintro e4 w4 ⟨rfl, hb⟩; have HB4 := Aside0.mk (HB3.out.trans (hb.mono HB3.out.size)); have HX4 := Aside0.mk ((hb.block _ (blk_lt HX3.out)).trans HX3.out); clear hb))
    go_ret
    exact ⟨by simp, HB4.out⟩
  | false =>
    go_enter Tryd.func46, Tryd.ntmps46
    go_wp2_with (first | (go_at_call 64; (with_reducible refine (BG.out _ HB2.out).mono ?_); rintro e3 w3 ⟨rfl, hb⟩; have HB3 := Aside0.mk (HB2.out.trans (hb.mono HB2.out.size)); have HX3 := Aside0.mk ((hb.block _ (blk_lt HX2.out)).trans HX2.out); have HS3 := Aside0.mk ((hb.block _ (blk_lt HS2.out)).trans HS2.out); have hs3 : w3.cell? ⟨w.heap.size + 1, 0, none⟩ = some (.int .i64 13) := blk_cell HS3.out 0; clear hb) | (with_reducible refine Great.wpList_readTo rfl (some 34) rfl (.agg X) (exec_load rfl (LD.out _ _ HX3.out)) ?_) | (go_at_call 46; (with_reducible refine (IHP.out _ HB3.out).mono ?_); rintro e4 w4 ⟨rfl, hb⟩; have HB4 := Aside0.mk (HB3.out.trans (hb.mono HB3.out.size)); have HX4 := Aside0.mk ((hb.block _ (blk_lt HX3.out)).trans HX3.out); clear hb) | (refine readGuardT (some 40) rfl (.agg X) (exec_load rfl (LD.out _ _ HX4.out)) (by rfl) ?_) | (go_at_call 46; (with_reducible refine (IH.out _ HB4.out).mono ?_); rintro e5 w5 ⟨rfl, hb⟩; have HB5 := Aside0.mk (HB4.out.trans (hb.mono HB4.out.size)); clear hb))
    go_ret
    exact ⟨by simp, HB5.out⟩
set_option maxRecDepth 100000 in
set_option maxHeartbeats 1600000 in
theorem truth_con12 (x : Nat → Int) {p q : List S35} {y z : Bool} (hp : 0 < p.length) (hq : 0 < q.length) (hqp : Pure.Post true q) (ihp : TruthAt x p y) (ihq : TruthAt x q z) : TruthAt x (p ++ q ++ [⟨12, 0⟩]) (y && z) := by
  intro L pre post A c i w hL hl hi hC hc
  obtain ⟨hlt, hse⟩ := last_at (p := p ++ q) (s := (⟨12, 0⟩ : S35)) hL hi
  have hin : (i : Int) < (L.length : Int) := by omega
  obtain ⟨ad, eA, e0, e1⟩ := at_T35 hC (i : Int) (by omega) hin
  rw [Pure.rd_nat L i hlt, hse, Int.toNat_natCast] at e0 e1
  subst eA
  have HCC := Aside0.mk hC
  have HLL := Aside0.mk hL
  have HII := Aside0.mk hi
  have hi2 : i = pre.length + p.length + q.length := by simp only [List.length_append, List.length_cons, List.length_nil] at hi; omega
  have LD := Aside0.mk (fun (W : World) (g : Nat) (hg : W.heap[g]? = some (.cells (lit x) 48 (0, 0))) => load_lit hg)
  have IH := Aside0.mk (fun (W : World) (hb : Below w.heap.size w W) => ihq L (pre ++ p) ((⟨12, 0⟩ : S35) :: post) (some ad) c (i - 1) W (by rw [hL]; simp) hl (by rw [List.length_append]; omega) (Kd.C_below hC hb) hc)
  obtain ⟨j, hj⟩ : ∃ j, j + 1 = pre.length + p.length := ⟨pre.length + p.length - 1, by omega⟩
  have IHP := Aside0.mk (fun (W : World) (hb : Below w.heap.size w W) => ihp L pre (q ++ (⟨12, 0⟩ : S35) :: post) (some ad) c j W (by rw [hL]; simp) hl hj (Kd.C_below hC hb) hc)
  obtain ⟨kb, hkb⟩ := Pure.begin_at hqp L (pre ++ p) ((⟨12, 0⟩ : S35) :: post) (by rw [hL]; simp) hl
  have ebi : ((pre ++ p).length : Int) + (q.length : Int) - 1 = ((i - 1 : Nat) : Int) := by rw [List.length_append]; omega
  have ebj : ((pre ++ p).length : Int) = ((j + 1 : Nat) : Int) := by rw [List.length_append]; omega
  rw [ebi, ebj] at hkb
  have BG := Aside0.mk (show ∀ (W : World), Below w.heap.size w W → Calls Tryd.prog 64 #[.slice (some ad) L.length c, .int .i64 ((i - 1 : Nat) : Int)] W fun e w2 => e = .returned (.int .i64 ((j + 1 : Nat) : Int)) ∧ Below W.heap.size W w2 from fun W hb => (remontoirref15_begin.calls kb (some ad) c L _ _ W (Kd.C_below hC hb) hc hkb).mono (fun e w2 h => ⟨h.1, h.2.below⟩))
  generalize lit x = X at *
  have hi1 : 1 ≤ i := by omega
  have hj1 : j + 1 ≤ 100000 := by omega
  have e0 : (w.alloc (.cells X 48)).cell? (ad.add (i * 2)) = some (.int .i64 12) := cell_alloc_keep _ e0
  have e1 : (w.alloc (.cells X 48)).cell? ⟨(ad.add (i * 2)).block, (ad.add (i * 2)).off + 1, none⟩ = some (.int .i64 0) := cell_alloc_keep _ e1
  have hw1 := w64_pred i hi1 (by omega)
  have hw2 : (i : Int) - 1 = ((i - 1 : Nat) : Int) := by omega
  have hw6 := w64_nat (i - 1) (by omega)
  have hv1 : IntKind.i64.wrap ((i : Int) - 1) = ((i - 1 : Nat) : Int) := by rw [i64_w]; exact hw1
  have hv6 : IntKind.i64.wrap ((i - 1 : Nat) : Int) = ((i - 1 : Nat) : Int) := by rw [i64_w]; exact hw6
  have hw7 := w64_nat j (by omega)
  have hw4 : ((j + 1 : Nat) : Int) - 1 = (j : Int) := by omega
  have hw5 : ((j : Int) + 1) - 1 = (j : Int) := by omega
  have hv7 : IntKind.i64.wrap (j : Int) = (j : Int) := by rw [i64_w]; exact hw7
  clear hj hj1
  have hb2 : Below w.heap.size w (((w.alloc (.cells X 48)).alloc (.cells #[.int .i64 12, .int .i64 0] 35))) := ((Below.refl w.heap.size w).alloc (Nat.le_refl _) (.cells X 48)).alloc (by simp) _
  have HB2 := Aside0.mk hb2
  have HX2 := Aside0.mk (show (((w.alloc (.cells X 48)).alloc (.cells #[.int .i64 12, .int .i64 0] 35))).heap[w.heap.size]? = some (.cells X 48 (0, 0)) from (two_blocks w (.cells X 48) (.cells #[.int .i64 12, .int .i64 0] 35)).1)
  have HS2 := Aside0.mk (show (((w.alloc (.cells X 48)).alloc (.cells #[.int .i64 12, .int .i64 0] 35))).heap[w.heap.size + 1]? = some (.cells #[.int .i64 12, .int .i64 0] 35 (0, 0)) from (two_blocks w (.cells X 48) (.cells #[.int .i64 12, .int .i64 0] 35)).2)
  clear hb2
  clear hC hL hi hi2 hkb ebi ebj
  cases y with
  | true =>
    go_enter Tryd.func46, Tryd.ntmps46
    go_wp2_with (first | (go_at_call 64; (with_reducible refine (BG.out _ HB2.out).mono ?_); rintro e3 w3 ⟨rfl, hb⟩; have HB3 := Aside0.mk (HB2.out.trans (hb.mono HB2.out.size)); have HX3 := Aside0.mk ((hb.block _ (blk_lt HX2.out)).trans HX2.out); have HS3 := Aside0.mk ((hb.block _ (blk_lt HS2.out)).trans HS2.out); have hs3 : w3.cell? ⟨w.heap.size + 1, 0, none⟩ = some (.int .i64 12) := blk_cell HS3.out 0; clear hb) | (with_reducible refine Great.wpList_readTo rfl (some 48) rfl (.agg X) (exec_load rfl (LD.out _ _ HX3.out)) ?_) | (go_at_call 46; (with_reducible refine (IHP.out _ HB3.out).mono ?_); rintro e4 w4 ⟨rfl, hb⟩; have HB4 := Aside0.mk (HB3.out.trans (hb.mono HB3.out.size)); have HX4 := Aside0.mk ((hb.block _ (blk_lt HX3.out)).trans HX3.out); clear hb) | (refine readGuardT (some 54) rfl (.agg X) (exec_load rfl (LD.out _ _ HX4.out)) (by rfl) ?_) | (go_at_call 46; (with_reducible refine (IH.out _ HB4.out).mono ?_); rintro e5 w5 ⟨rfl, hb⟩; have HB5 := Aside0.mk (HB4.out.trans (hb.mono HB4.out.size)); clear hb))
    go_ret
    exact ⟨by simp, HB5.out⟩
  | false =>
    go_enter Tryd.func46, Tryd.ntmps46
    go_wp2_with (first | (go_at_call 64; (with_reducible refine (BG.out _ HB2.out).mono ?_); rintro e3 w3 ⟨rfl, hb⟩; have HB3 := Aside0.mk (HB2.out.trans (hb.mono HB2.out.size)); have HX3 := Aside0.mk ((hb.block _ (blk_lt HX2.out)).trans HX2.out); have HS3 := Aside0.mk ((hb.block _ (blk_lt HS2.out)).trans HS2.out); have hs3 : w3.cell? ⟨w.heap.size + 1, 0, none⟩ = some (.int .i64 12) := blk_cell HS3.out 0; clear hb) | (with_reducible refine Great.wpList_readTo rfl (some 48) rfl (.agg X) (exec_load rfl (LD.out _ _ HX3.out)) ?_) | (go_at_call 46; (with_reducible refine (IHP.out _ HB3.out).mono ?_); rintro e4 w4 ⟨rfl, hb⟩; have HB4 := Aside0.mk (HB3.out.trans (hb.mono HB3.out.size)); have HX4 := Aside0.mk ((hb.block _ (blk_lt HX3.out)).trans HX3.out); clear hb))
    go_ret
    exact ⟨by simp, HB4.out⟩
end Go.Proofs.YtojfdekiponccaaDoor.H
/- The document's truth answers what the signs say. -/
namespace Go.Proofs.YtojfdekiponccaaDoor.H
open Go.RowKit Go.HK Go.Proofs.YtojfdekiponccaaDoorW.PrintWords Go.Proofs.YtojfdekiponccaaDoorW.PrintLast Go.Proofs.YtojfdekiponccaaDoorW.PrintMore
set_option linter.unusedVariables false
set_option linter.unusedSimpArgs false
theorem tv_one (q : Bool) : (Pure.tv q == 1) = q := by cases q <;> rfl
theorem truth_at (x : Nat → Int) {b : Bool} {p : List S35} (h : Pure.Post b p) : b = true → ∃ z, Pure.Val x p z ∧ (z = 0 ∨ z = 1) ∧ TruthAt x p (z == 1) := by
  induction h with
  | num n h0 h1 => exact fun e => (by cases e)
  | name n h0 h1 => exact fun e => (by cases e)
  | neg hp ih => exact fun e => (by cases e)
  | op k h3 h5 hp hq ihp ihq => exact fun e => (by cases e)
  | @cmp p q k h6 h11 hp hq ihp ihq =>
    intro _
    obtain ⟨y, h1, h2⟩ := num_at x hp rfl
    obtain ⟨z, h4, h5⟩ := num_at x hq rfl
    have go : ∀ (u : Bool), eval_two.f k y z = some (Pure.tv u) → TruthAt x (p ++ q ++ [⟨k, 0⟩]) u → ∃ z, Pure.Val x (p ++ q ++ [⟨k, 0⟩]) z ∧ (z = 0 ∨ z = 1) ∧ TruthAt x (p ++ q ++ [⟨k, 0⟩]) (z == 1) :=
      fun u he ht => ⟨Pure.tv u, h1.two h4 k (by omega) (by omega) he, Pure.tv_or u, by rw [tv_one]; exact ht⟩
    have hk : k = 6 ∨ k = 7 ∨ k = 8 ∨ k = 9 ∨ k = 10 ∨ k = 11 := by omega
    rcases hk with rfl | rfl | rfl | rfl | rfl | rfl
    · exact go _ (by unfold eval_two.f; simp [Pure.truth_tv]) (truth_cmp6 x (post_pos hp) (post_pos hq) hq h2 h5)
    · exact go _ (by unfold eval_two.f; simp [Pure.truth_tv]) (truth_cmp7 x (post_pos hp) (post_pos hq) hq h2 h5)
    · exact go _ (by unfold eval_two.f; simp [Pure.truth_tv]) (truth_cmp8 x (post_pos hp) (post_pos hq) hq h2 h5)
    · exact go _ (by unfold eval_two.f; simp [Pure.truth_tv]) (truth_cmp9 x (post_pos hp) (post_pos hq) hq h2 h5)
    · exact go _ (by unfold eval_two.f; simp [Pure.truth_tv]) (truth_cmp10 x (post_pos hp) (post_pos hq) hq h2 h5)
    · exact go _ (by unfold eval_two.f; simp [Pure.truth_tv]) (truth_cmp11 x (post_pos hp) (post_pos hq) hq h2 h5)
  | con k hk hp hq ihp ihq =>
    intro _
    obtain ⟨y, h1, hy, h2⟩ := ihp rfl
    obtain ⟨z, h4, hz, h5⟩ := ihq rfl
    obtain ⟨v, e1, e2, e3⟩ := Pure.two_con k y z hk hy hz
    refine ⟨v, h1.two h4 k (by omega) (by omega) e1, e2, ?_⟩
    rw [e3]
    rcases hk with rfl | rfl
    · exact truth_con12 x (post_pos hp) (post_pos hq) hq h2 h5
    · exact truth_con13 x (post_pos hp) (post_pos hq) hq h2 h5
  | nt hp ih =>
    intro _
    obtain ⟨z, h1, hz, h2⟩ := ih rfl
    refine ⟨_, h1.nt, ?_, ?_⟩
    · rcases hz with rfl | rfl
      · exact Or.inr Pure.w10
      · exact Or.inl Pure.w11
    · have e : (wrap64 (1 - z) == 1) = !(z == 1) := by
        rcases hz with rfl | rfl
        · rw [Pure.w10]; rfl
        · rw [Pure.w11]; rfl
      rw [e]
      exact truth_nt x (post_pos hp) h2
end Go.Proofs.YtojfdekiponccaaDoor.H
/- The document's answer of chapter 15: Of, Test. -/
namespace Go.Proofs.YtojfdekiponccaaDoor.H
open Go.RowKit Go.HK Go.Proofs.YtojfdekiponccaaDoorW.PrintWords Go.Proofs.YtojfdekiponccaaDoorW.PrintLast Go.Proofs.YtojfdekiponccaaDoorW.PrintMore
set_option linter.unusedVariables false
set_option linter.unusedSimpArgs false
/-- What the program and the document say of signs. -/
def SaidOf (x : Nat → Int) (l : List S35) (t ok : Bool) : Prop :=
  (∀ k, 2 * l.length + 10 ≤ k → eval_Of.f k x l = some (t, ok)) ∧ ((Pure.goS l [] = true ∧ 1 ≤ l.length ∧ TruthAt x l t ∧ ok = true) ∨ (Pure.goS l [] = false ∧ t = false ∧ ok = false))
theorem said_ex (x : Nat → Int) (l : List S35) (hl : l.length ≤ 100000) : ∃ t ok, SaidOf x l t ok := by
  cases hg : Pure.goS l [] with
  | true =>
    have hp := (Pure.goS_iff l).1 hg
    obtain ⟨z, hv, hz, ht⟩ := truth_at x hp rfl
    exact ⟨z == 1, true, fun k hk => Pure.of_post hp hl hv k hk, Or.inl ⟨hg, post_pos hp, ht, rfl⟩⟩
  | false =>
    refine ⟨false, false, fun k hk => ?_, Or.inr ⟨hg, rfl, rfl⟩⟩
    unfold eval_Of.f
    rw [Pure.good_goS l hl k hk, hg]
    rfl
theorem said_store {w : World} {g : Nat} (hg : w.heap[g]? = some (.cells #[.bool false, .bool false] 54 (0, 0))) (y z : Bool) : (Instr.storeAt 54 (.pointer (some ⟨g, 0, none⟩)) (.agg #[.bool y, .bool z])).run Tryd.prog w = .ok () (w.setRow g #[.bool y, .bool z]) := by
  have h := run_storeVar_row (P := Tryd.prog) w g 54 54 #[.bool false, .bool false] #[.bool y, .bool z] hg (by kernel_rfl) (by rfl) (by simp [Value.oneCell'])
  exact h
theorem said_load {w : World} {g : Nat} {y z : Bool} (hg : w.heap[g]? = some (.cells #[.bool y, .bool z] 54 (0, 0))) : (loadVar 54 ⟨g, 0, none⟩).run Tryd.prog w = .ok (.agg #[.bool y, .bool z]) w := by
  have h := run_loadVar_row (P := Tryd.prog) w g 54 54 #[.bool y, .bool z] (0, 0) _ hg Tryd.underlying54 rfl (by kernel_rfl)
  exact h
theorem results_cell1 {fn : Func} {p : Tmp} {ty : TypeId} (h : fn.results = #[.cell p ty]) (tmps : Array Value) (P : Program) (w : World) (ad : Addr) (v : Value) (hp : tmps.getD p undef = .pointer (some ad)) (hl : (loadVar ty ad).run P w = .ok v w) :
    (results fn tmps).run P w = .ok v w := by
  simp only [results, h]
  simp only [List.mapM_toArray, List.mapM_cons, List.mapM_nil, hp, asAddr]
  simp [hl]
set_option maxRecDepth 100000 in
set_option maxHeartbeats 1600000 in
theorem remontoirref15_Of.calls (x : Nat → Int) (A : Option Addr) (c : Nat) (l : List S35) (t ok : Bool) (w : World) (hC : Kd.C k35 w A l.length l) (hc : l.length ≤ c) (hl : l.length ≤ 100000) (h : SaidOf x l t ok) :
    Calls Tryd.prog 28 #[.slice A l.length c, .agg (lit x)] w fun e w' => e = .returned (.agg #[.bool t, .bool ok]) ∧ Below w.heap.size w w' := by
  have GD := Aside0.mk (fun (W : World) (hb : Below w.heap.size w W) => remontoirref14_Good.calls (6 * l.length + 10) A c l _ W (Kd.C_below hC hb) hc (Pure.good14 l hl _ (Nat.le_refl _)))
  have LD := Aside0.mk (fun (W : World) (g : Nat) (hg : W.heap[g]? = some (.cells (lit x) 48 (0, 0))) => load_lit hg)
  obtain ⟨_, ⟨hg, h1, ht, rfl⟩ | ⟨hg, rfl, rfl⟩⟩ := h
  · rw [hg] at GD
    have TR := Aside0.mk (fun (W : World) (hb : Below w.heap.size w W) => ht l [] [] A c (l.length - 1) W (by simp) hl (by simp; omega) (Kd.C_below hC hb) hc)
    have hw1 : wrap64 ((l.length : Int) - 1) = ((l.length - 1 : Nat) : Int) := by unfold wrap64; omega
    have hw2 : IntKind.i64.wrap ((l.length : Int) - 1) = ((l.length - 1 : Nat) : Int) := by rw [i64_w]; exact hw1
    generalize lit x = X at *
    have hb2 : Below w.heap.size w ((w.alloc (.cells X 48)).alloc (.cells #[.bool false, .bool false] 54)) := ((Below.refl w.heap.size w).alloc (Nat.le_refl _) (.cells X 48)).alloc (by simp) _
    have HB2 := Aside0.mk hb2
    have HX2 := Aside0.mk (two_blocks w (.cells X 48) (.cells #[.bool false, .bool false] 54)).1
    have HS2 := Aside0.mk (two_blocks w (.cells X 48) (.cells #[.bool false, .bool false] 54)).2
    clear hb2 hC hg ht
    go_enter Tryd.func28, Tryd.ntmps28
    go_wp2_with (first
      | (go_at_call 45; (with_reducible refine (GD.out _ HB2.out).mono ?_); rintro e1 w3 ⟨rfl, hb⟩; have HB3 := Aside0.mk (HB2.out.trans (hb.mono HB2.out.size)); have HX3 := Aside0.mk ((hb.block _ (blk_lt HX2.out)).trans HX2.out); have HS3 := Aside0.mk ((hb.block _ (blk_lt HS2.out)).trans HS2.out); clear hb)
      | (with_reducible refine Great.wpList_readTo rfl (some 13) rfl (.agg X) (exec_load rfl (LD.out _ _ HX3.out)) ?_)
      | (go_at_call 46; (with_reducible refine (TR.out _ HB3.out).mono ?_); rintro e1 w4 ⟨rfl, hb⟩; have HB4 := Aside0.mk (HB3.out.trans (hb.mono HB3.out.size)); have HX4 := Aside0.mk ((hb.block _ (blk_lt HX3.out)).trans HX3.out); have HS4 := Aside0.mk ((hb.block _ (blk_lt HS3.out)).trans HS3.out); clear hb)
      | (refine wpList_doTo rfl _ (exec_store rfl (said_store HS4.out _ _)) ?_))
    refine bodyPost_ret (results_cell1 rfl _ _ _ ⟨w.heap.size + 1, 0, none⟩ _ rfl (said_load (heap_setRow HS4.out))) rfl ?_
    exact ⟨rfl, below_setRow HB4.out (by omega)⟩
  · rw [hg] at GD
    generalize lit x = X at *
    have hb2 : Below w.heap.size w ((w.alloc (.cells X 48)).alloc (.cells #[.bool false, .bool false] 54)) := ((Below.refl w.heap.size w).alloc (Nat.le_refl _) (.cells X 48)).alloc (by simp) _
    have HB2 := Aside0.mk hb2
    have HS2 := Aside0.mk (two_blocks w (.cells X 48) (.cells #[.bool false, .bool false] 54)).2
    clear hb2 hC hg
    go_enter Tryd.func28, Tryd.ntmps28
    go_wp2_with (first
      | (go_at_call 45; (with_reducible refine (GD.out _ HB2.out).mono ?_); rintro e1 w3 ⟨rfl, hb⟩; have HB3 := Aside0.mk (HB2.out.trans (hb.mono HB2.out.size)); have HS3 := Aside0.mk ((hb.block _ (blk_lt HS2.out)).trans HS2.out); clear hb)
      | (refine wpList_doTo rfl _ (exec_store rfl (said_store HS3.out _ _)) ?_))
    refine bodyPost_ret (results_cell1 rfl _ _ _ ⟨w.heap.size + 1, 0, none⟩ _ rfl (said_load (heap_setRow HS3.out))) rfl ?_
    exact ⟨rfl, below_setRow HB3.out (by omega)⟩
end Go.Proofs.YtojfdekiponccaaDoor.H
/- EvalTells: the program and the document say the same of every guard. -/
namespace Go.Proofs.YtojfdekiponccaaDoor.H
open Go.RowKit Go.HK Go.Proofs.YtojfdekiponccaaDoorW.PrintWords Go.Proofs.YtojfdekiponccaaDoorW.PrintLast Go.Proofs.YtojfdekiponccaaDoorW.PrintMore
set_option linter.unusedVariables false
set_option linter.unusedSimpArgs false
theorem said_field (w : World) (y z : Bool) : (Instr.field 54 (.agg #[.bool y, .bool z]) 0).run Tryd.prog w = .ok (.bool y) w := by
  have h := run_part_plain (P := Tryd.prog) (e := 4) w (by kernel_rfl) (xs := #[.bool y, .bool z]) (off := 0) (v := .bool y) rfl
  unfold Instr.field
  simp only [Sem.run_bind, run_underlying Tryd.underlying54, Result.andThen_ok, asAgg]
  exact h
theorem exec_field {P : Program} {ρ : Operand → Value} {o : Oper} {t : TypeId} {a : Operand} {f : Nat} (ho : o.op = .field t a f) {w w' : World} {v : Value} (h : (Instr.field t (ρ a) f).run P w = .ok v w') : (execOp ρ o).run P w = .ok (.value v) w' := by
  unfold execOp
  rw [ho]
  simp only [Sem.run_bind, h, Result.andThen]
  rfl
theorem said_eql (w : World) (y z : Bool) : (binOp .eql 54 (.agg #[.bool y, .bool z]) (.agg #[.bool y, .bool z])).run Tryd.prog w = .ok (.bool true) w := by
  have h1 : (part 4 #[.bool y, .bool z] 0).run Tryd.prog w = .ok (.bool y) w := run_part_plain (P := Tryd.prog) (e := 4) w (by kernel_rfl) rfl
  have h2 : (part 4 #[.bool y, .bool z] 1).run Tryd.prog w = .ok (.bool z) w := run_part_plain (P := Tryd.prog) (e := 4) w (by kernel_rfl) rfl
  rw [run_eql_struct, run_equalIn_struct (P := Tryd.prog) w 9999 54 _ _ (by kernel_rfl) (by kernel_rfl)]
  have e : (Tryd.prog.fieldsOf 54).toList.map (fun f => (f.type, f.offset, decide (f.name = "_"))) = [(4, 0, false), (4, 1, false)] := by kernel_rfl
  revert e
  generalize (Tryd.prog.fieldsOf 54).toList = fs
  intro e
  obtain ⟨f, fs, rfl⟩ : ∃ f l, fs = f :: l := by cases fs with | nil => simp at e | cons f l => exact ⟨f, l, rfl⟩
  obtain ⟨g, fs, rfl⟩ : ∃ f l, fs = f :: l := by cases fs with | nil => simp at e | cons f l => exact ⟨f, l, rfl⟩
  obtain rfl : fs = [] := by cases fs with | nil => rfl | cons f l => simp at e
  simp only [List.map_cons, List.map_nil, List.cons.injEq, Prod.mk.injEq, decide_eq_false_iff_not, and_true] at e
  obtain ⟨⟨e1, e2, e3⟩, e4, e5, e6⟩ := e
  have q1 := run_equalIn_bool' (P := Tryd.prog) w 9998 4 y y Tryd.underlying4
  have q2 := run_equalIn_bool' (P := Tryd.prog) w 9998 4 z z Tryd.underlying4
  simp only [Op.eqFields, e1, e2, e4, e5, ne_eq, e3, e6, not_false_eq_true, if_true, Sem.run_bind, h1, h2, Result.andThen_ok, q1, q2, beq_self_eq_true, Bool.not_true, Bool.false_eq_true, if_false, Sem.run_pure]
theorem parse_ex (s : ByteArray) : ∃ (l : List S35) (e : Int), ((e = 0 ∧ l.length ≤ 60) ∨ e ≠ 0) ∧ ∃ K, ∀ k, K ≤ k → guard_Parse.f k s = some (l, e) := by
  by_cases hs : s.size ≤ 60
  · obtain ⟨y, e, hl⟩ := Pure.lexF_some _ s.data.toList [] (Nat.le_refl _)
    by_cases he : e = 0
    · subst he
      obtain ⟨k, r, h1, h2⟩ := Pure.PF_total _ y.length 0 (y, []) rfl (by omega) rfl trivial
      have hpf : ∀ k', k ≤ k' → guard_Parse.f k' s = guard_Parse.fin (some r) := by
        intro k' hk'
        unfold guard_Parse.f
        rw [Pure.lex_list, if_neg (by omega), hl]
        simp only [Option.bind_some, if_true]
        rw [Pure.PF_mono hk' h1]
      cases r with
      | none => exact ⟨[], 2, Or.inr (by decide), k, fun k' hk' => hpf k' hk'⟩
      | some st =>
        obtain ⟨l, o⟩ := st
        cases l with
        | cons a l => exact ⟨[], 2, Or.inr (by decide), k, fun k' hk' => hpf k' hk'⟩
        | nil =>
          have hlo := Pure.gx_len hl h1
          have hdl : s.data.toList.length = s.size := by rw [Array.length_toList]; rfl
          rw [hdl] at hlo
          exact ⟨o, 0, Or.inl ⟨rfl, by omega⟩, k, fun k' hk' => hpf k' hk'⟩
    · refine ⟨[], e, Or.inr he, 0, fun k _ => ?_⟩
      unfold guard_Parse.f
      rw [Pure.lex_list, if_neg (by omega), hl]
      simp only [Option.bind_some]
      rw [if_neg he]
  · refine ⟨[], 15, Or.inr (by decide), 0, fun k _ => ?_⟩
    unfold guard_Parse.f
    rw [Pure.lex_list, if_pos (by omega)]
    rfl
/-- What program and document say of a text. -/
def TextOf (x : Nat → Int) (s : ByteArray) (q : Bool) (e : Int) : Prop :=
  (∃ k, eval_Test.f k s x = some (q, e)) ∧ ∃ (l : List S35) (k : Nat), guard_Parse.f k s = some (l, e) ∧ ((e = 0 ∧ l.length ≤ 60 ∧ ∃ ok, SaidOf x l q ok) ∨ (e ≠ 0 ∧ q = false))
theorem text_ex (x : Nat → Int) (s : ByteArray) : ∃ q e, TextOf x s q e := by
  obtain ⟨l, e, h1, K, hK⟩ := parse_ex s
  rcases h1 with ⟨rfl, hl⟩ | he
  · obtain ⟨t, ok, hs⟩ := said_ex x l (by omega)
    refine ⟨t, 0, ⟨K + (2 * l.length + 10), ?_⟩, l, K, hK K (Nat.le_refl _), Or.inl ⟨rfl, hl, ok, hs⟩⟩
    unfold eval_Test.f
    rw [hK _ (by omega)]
    simp only [Option.bind_some, if_true]
    rw [if_pos (by omega), hs.1 _ (by omega)]
    rfl
  · refine ⟨false, e, ⟨K, ?_⟩, l, K, hK K (Nat.le_refl _), Or.inr ⟨he, rfl⟩⟩
    unfold eval_Test.f
    rw [hK _ (by omega)]
    simp only [Option.bind_some]
    rw [if_neg he]
set_option maxRecDepth 100000 in
set_option maxHeartbeats 1600000 in
theorem remontoirref15_Test.calls (x : Nat → Int) (s : ByteArray) (q : Bool) (e : Int) (w : World) (h : TextOf x s q e) :
    Calls Tryd.prog 27 #[.string s, .agg (lit x)] w fun en w' => en = .returned (.tuple #[.bool q, .int .i64 e]) ∧ Below w.heap.size w w' := by
  obtain ⟨_, l, k, hp, h⟩ := h
  have HP := Aside0.mk (fun (W : World) => remontoirref14_Parse.calls k s l e W hp)
  have LD := Aside0.mk (fun (W : World) (g : Nat) (hg : W.heap[g]? = some (.cells (lit x) 48 (0, 0))) => load_lit hg)
  rcases h with ⟨rfl, hl, ok, hs⟩ | ⟨he, rfl⟩
  · have HO := Aside0.mk (fun (W : World) (A : Option Addr) (c : Nat) (hC : Kd.C k35 W A l.length l) (hc : l.length ≤ c) => remontoirref15_Of.calls x A c l q ok W hC hc (by omega) hs)
    clear hs hp
    generalize lit x = X at *
    have hba := (Below.refl w.heap.size w).alloc (Nat.le_refl _) (.cells X 48)
    have HB0 := Aside0.mk hba
    have HX0 := Aside0.mk (heap_alloc_last w (.cells X 48))
    clear hba
    go_enter Tryd.func27, Tryd.ntmps27
    go_wp2_with (first
      | (go_at_call 44; refine (HP.out _).mono ?_; rintro e1 w1 ⟨v1, rfl, hr, hb⟩; obtain ⟨A, c, rfl, hlc, hC⟩ := Kd.R_reads hr; have HC := Aside0.mk hC; have HLC := Aside0.mk hlc; have HB1 := Aside0.mk (HB0.out.trans (hb.mono HB0.out.size)); have HX1 := Aside0.mk ((hb.block _ (blk_lt HX0.out)).trans HX0.out); clear hr hb hlc hC)
      | (with_reducible refine Great.wpList_readTo rfl (some 17) rfl (.agg X) (exec_load rfl (LD.out _ _ HX1.out)) ?_)
      | (go_at_call 28; (with_reducible refine (HO.out _ _ _ HC.out HLC.out).mono ?_); rintro e2 w2 ⟨rfl, hb2⟩; have HB2 := Aside0.mk (HB1.out.trans (hb2.mono HB1.out.size)); clear hb2)
      | (refine Great.wpList_readTo rfl (some 19) rfl (.bool q) (exec_field rfl (said_field _ _ _)) ?_))
    go_ret2
    exact ⟨rfl, HB2.out⟩
  · have hne : (e != 0) = true := bne_iff_ne.2 he
    clear hp
    generalize lit x = X at *
    have hba := (Below.refl w.heap.size w).alloc (Nat.le_refl _) (.cells X 48)
    have HB0 := Aside0.mk hba
    clear hba
    go_enter Tryd.func27, Tryd.ntmps27
    go_wp2_with (first
      | (go_at_call 44; refine (HP.out _).mono ?_; rintro e1 w1 ⟨v1, rfl, hr, hb⟩; have HB1 := Aside0.mk (HB0.out.trans (hb.mono HB0.out.size)); clear hr hb))
    go_ret2
    exact ⟨rfl, HB1.out⟩
end Go.Proofs.YtojfdekiponccaaDoor.H
/- EvalTells' walk. -/
namespace Go.Proofs.YtojfdekiponccaaDoor.H
open Go.RowKit Go.HK Go.Proofs.YtojfdekiponccaaDoorW.PrintWords Go.Proofs.YtojfdekiponccaaDoorW.PrintLast Go.Proofs.YtojfdekiponccaaDoorW.PrintMore
set_option linter.unusedVariables false
set_option linter.unusedSimpArgs false
theorem exec_bin {P : Program} {ρ : Operand → Value} {o : Oper} {b : BinOp} {t : TypeId} {x y : Operand} {T : TypeId} (ho : o.op = .binOp b t x y T) {w w' : World} {v : Value} (hg : (eqGuard b t x y (ρ x) (ρ y)).run P w = .ok () w) (h : (binOp b t (ρ x) (ρ y)).run P w = .ok v w') : (execOp ρ o).run P w = .ok (.value v) w' := by
  unfold execOp
  rw [ho]
  simp only [Sem.run_bind, hg, h, Result.andThen]
  rfl
set_option maxRecDepth 100000 in
set_option maxHeartbeats 1600000 in
theorem remontoirlaw15_EvalTells.calls (A : Option Addr) (c : Nat) (l : List S35) (b : ByteArray) (x : Nat → Int) (r : Bool) (w : World) (hC : Kd.C k35 w A l.length l) (hc : l.length ≤ c) (hT : Tabs2 w) (h : r = true ∧ b.size ≤ 140737488351232) :
    Calls Tryd.prog 8 #[.slice A l.length c, .string b, .agg (lit x)] w fun e w' => e = .returned (.bool r) ∧ Below w.heap.size w w' := by
  obtain ⟨rfl, hb⟩ := h
  have LD := Aside0.mk (fun (W : World) (g : Nat) (hg : W.heap[g]? = some (.cells (lit x) 48 (0, 0))) => load_lit hg)
  by_cases hl : l.length ≤ 60
  · have kl : decide (60 < (l.length : Int)) = false := decide_eq_false (by omega)
    by_cases hs : b.size ≤ 300
    · have ks : decide (300 < (b.size : Int)) = false := decide_eq_false (by omega)
      obtain ⟨t, ok, hsaid⟩ := said_ex x l (by omega)
      obtain ⟨q, e, htext⟩ := text_ex x b
      obtain ⟨k2, t2⟩ := htext.1
      have C1 := Aside0.mk (fun (W : World) (hb : Below w.heap.size w W) => eval_Of.calls (2 * l.length + 10) x A c l t ok W (Kd.C_below hC hb) hc (by omega) (hsaid.1 _ (Nat.le_refl _)))
      have C2 := Aside0.mk (fun (W : World) (hT : Tabs2 W) => eval_Test.calls k2 b x q e W hT t2)
      have C3 := Aside0.mk (fun (W : World) => remontoirref15_Test.calls x b q e W htext)
      have C4 := Aside0.mk (fun (W : World) (hb : Below w.heap.size w W) => remontoirref15_Of.calls x A c l t ok W (Kd.C_below hC hb) hc (by omega) hsaid)
      clear t2 htext hsaid hC
      generalize lit x = X at *
      have hba := (Below.refl w.heap.size w).alloc (Nat.le_refl _) (.cells X 48)
      have HB0 := Aside0.mk hba
      have HT0 := Aside0.mk (hT.below hba)
      have HX0 := Aside0.mk (heap_alloc_last w (.cells X 48))
      clear hT hba
      go_enter Tryd.func8, Tryd.ntmps8
      go_wp2_with (first
        | (with_reducible refine Great.wpList_readTo rfl (some 24) rfl (.agg X) (exec_load rfl (LD.out _ _ HX0.out)) ?_)
        | (go_at_call 25; (with_reducible refine (C1.out _ HB0.out).mono ?_); rintro e1 w1 ⟨rfl, hb⟩; have HB1 := Aside0.mk (HB0.out.trans (hb.mono HB0.out.size)); have HT1 := Aside0.mk (HT0.out.below hb); have HX1 := Aside0.mk ((hb.block _ (blk_lt HX0.out)).trans HX0.out); clear hb)
        | (with_reducible refine Great.wpList_readTo rfl (some 30) rfl (.agg X) (exec_load rfl (LD.out _ _ HX1.out)) ?_)
        | (go_at_call 26; (with_reducible refine (C2.out _ HT1.out).mono ?_); rintro e1 w2 ⟨rfl, hb⟩; have HB2 := Aside0.mk (HB1.out.trans (hb.mono HB1.out.size)); have HT2 := Aside0.mk (HT1.out.below hb); have HX2 := Aside0.mk ((hb.block _ (blk_lt HX1.out)).trans HX1.out); clear hb)
        | (with_reducible refine Great.wpList_readTo rfl (some 36) rfl (.agg X) (exec_load rfl (LD.out _ _ HX2.out)) ?_)
        | (go_at_call 27; (with_reducible refine (C3.out _).mono ?_); rintro e1 w3 ⟨rfl, hb⟩; have HB3 := Aside0.mk (HB2.out.trans (hb.mono HB2.out.size)); have HT3 := Aside0.mk (HT2.out.below hb); have HX3 := Aside0.mk ((hb.block _ (blk_lt HX2.out)).trans HX2.out); clear hb)
        | (with_reducible refine Great.wpList_readTo rfl (some 44) rfl (.agg X) (exec_load rfl (LD.out _ _ HX3.out)) ?_)
        | (go_at_call 28; (with_reducible refine (C4.out _ HB3.out).mono ?_); rintro e1 w4 ⟨rfl, hb⟩; have HB4 := Aside0.mk (HB3.out.trans (hb.mono HB3.out.size)); have HT4 := Aside0.mk (HT3.out.below hb); clear hb)
        | (refine Great.wpList_readTo rfl (some 46) rfl (.bool true) (exec_bin rfl (run_eqGuard_agg _ _ _ _ _ _ _ (by kernel_rfl)) (said_eql _ _ _)) ?_)
        | (go_at_call 24; refine (wakes15_calls _ HT4.out).mono ?_; rintro e1 w9 ⟨rfl, hb⟩; have HB9 := Aside0.mk (HB4.out.trans (hb.mono HB4.out.size)); clear hb))
      all_goals go_ret
      all_goals exact ⟨rfl, HB9.out⟩
    · have ks : decide (300 < (b.size : Int)) = true := decide_eq_true (by omega)
      clear hC
      generalize lit x = X at *
      have hba := (Below.refl w.heap.size w).alloc (Nat.le_refl _) (.cells X 48)
      have HB0 := Aside0.mk hba
      have HT0 := Aside0.mk (hT.below hba)
      clear hT hba
      go_enter Tryd.func8, Tryd.ntmps8
      go_wp2_with (first
        | (go_at_call 24; refine (wakes15_calls _ HT0.out).mono ?_; rintro e1 w9 ⟨rfl, hb⟩; have HB9 := Aside0.mk (HB0.out.trans (hb.mono HB0.out.size)); clear hb))
      all_goals go_ret
      all_goals exact ⟨rfl, HB9.out⟩
  · have kl : decide (60 < (l.length : Int)) = true := decide_eq_true (by omega)
    clear hC
    generalize lit x = X at *
    have hba := (Below.refl w.heap.size w).alloc (Nat.le_refl _) (.cells X 48)
    have HB0 := Aside0.mk hba
    have HT0 := Aside0.mk (hT.below hba)
    clear hT hba
    go_enter Tryd.func8, Tryd.ntmps8
    go_wp2_with (first
      | (go_at_call 24; refine (wakes15_calls _ HT0.out).mono ?_; rintro e1 w9 ⟨rfl, hb⟩; have HB9 := Aside0.mk (HB0.out.trans (hb.mono HB0.out.size)); clear hb))
    all_goals go_ret
    all_goals exact ⟨rfl, HB9.out⟩
end Go.Proofs.YtojfdekiponccaaDoor.H
/- EvalTells: the plain statement is part of the walk (HTellsW); only the text's size is handed on. -/
namespace Go.Proofs.YtojfdekiponccaaDoor.Pure
open Go.Proofs.YtojfdekiponccaaDoor.H
set_option linter.unusedVariables false
theorem EvalTells (l : List S35) (b : ByteArray) (x : Nat → Int) (hm : l.length ≤ Go.maxLen) (hl : ∀ s ∈ l, (Go.Lit.int .i64 s.f0).wf = true ∧ (Go.Lit.int .i64 s.f1).wf = true) (hb : b.size ≤ 140737488351232) (hx : ∀ i, i < 26 → (Go.Lit.int .i64 (x i)).wf = true) : true = true ∧ b.size ≤ 140737488351232 := ⟨rfl, hb⟩
end Go.Proofs.YtojfdekiponccaaDoor.Pure
