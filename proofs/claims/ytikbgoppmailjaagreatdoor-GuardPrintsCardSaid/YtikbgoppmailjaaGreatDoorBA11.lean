/- Parts of the proof of LawGuardPrints: words, contracts of the functions, plain laws. -/
import Derived.Test.YtikbgoppmailjaaGreatDoorBA09
import Derived.Test.YtikbgoppmailjaaGreatDoorBA07
/- The document's show: how a guard stands between. -/
namespace Go.Proofs.YtikbgoppmailjaaGreatDoor.H
open Go.RowKit Go.HK Go.Lib Go.WideShapes Go.ChangeShapes Go.Proofs.YtikbgoppmailjaaGreatDoorW.PrintWords Go.Proofs.YtikbgoppmailjaaGreatDoorW.PrintLast Go.Proofs.YtikbgoppmailjaaGreatDoorW.PrintMore
set_option linter.unusedVariables false
set_option linter.unusedSimpArgs false
set_option maxRecDepth 100000 in
set_option maxHeartbeats 8000000 in
theorem show_sum3_b (a b : Pure.Tr) (ha9 : a.sh.length ≤ 180) (hb9 : b.sh.length ≤ 180) {fb : Bool} (hqp : Pure.Post fb b.post)   (hkr : b.kind = 3 ∨ b.kind = 4) (iha : ShowAt a) (ihb : ShowAt b) : ShowAt (.bi 3 a b) := by
  intro L pre post A c i w hL hl hi hC hc
  have hp1 : 1 ≤ b.post.length := by obtain ⟨q, n, e⟩ := post_last b; rw [e]; simp
  have hp2 : 1 ≤ a.post.length := by obtain ⟨q, n, e⟩ := post_last a; rw [e]; simp
  have hpost : (Pure.Tr.bi 3 a b).post.length = a.post.length + b.post.length + 1 := by simp only [Pure.Tr.post, List.length_append, List.length_cons, List.length_nil]
  rw [hpost] at hi
  have hLl : L.length = pre.length + (a.post.length + b.post.length + 1) + post.length := by rw [hL, List.length_append, List.length_append, hpost]
  obtain ⟨ad, rfl⟩ := some_ad hC (by omega)
  obtain ⟨j, hj⟩ : ∃ j, j + 1 = pre.length + a.post.length := ⟨pre.length + a.post.length - 1, by omega⟩
  have hn : L[i]? = some ⟨3, 0⟩ := by
    have h : i = (pre ++ a.post ++ b.post).length := by simp only [List.length_append]; omega
    rw [hL, h]
    simp [Pure.Tr.post]
  obtain ⟨m, hm⟩ := last_kind (L := L) (pre := pre ++ a.post) (post := (⟨3, 0⟩ : S39) :: post) (t := b) (i := i - 1) (by rw [hL]; simp [Pure.Tr.post]) (by rw [List.length_append]; omega)
  obtain ⟨m2, hm2⟩ := last_kind (L := L) (pre := pre) (post := b.post ++ (⟨3, 0⟩ : S39) :: post) (t := a) (i := j) (by rw [hL]; simp [Pure.Tr.post]) hj
  have hlt : i < L.length := by omega
  have hlt1 : i - 1 < L.length := by omega
  have hlt2 : j < L.length := by omega
  obtain ⟨e0, e1⟩ := cell_sign hC hn
  obtain ⟨fr, _⟩ := cell_sign hC hm
  obtain ⟨fl, _⟩ := cell_sign hC hm2
  dsimp only at e0 e1 fr fl
  obtain ⟨lk, hrl⟩ : ∃ z, a.kind = z := ⟨_, rfl⟩
  rw [hrl] at fl
  all_goals (rcases hkr with hkr | hkr <;> rw [hkr] at fr)
  all_goals
    have HQ1 := World.block_lt_of_cell? w _ fr
    have HQ2 := World.block_lt_of_cell? w _ fl
    have C1 := Aside0.mk fr
    have C2 := Aside0.mk fl
    have IJ := Aside0.mk (fun (v : World) => s_index (w := v) (a := ad) (cap := c) hlt)
    have IJ1 := Aside0.mk (fun (v : World) => s_index (w := v) (a := ad) (cap := c) hlt1)
    have IJ2 := Aside0.mk (fun (v : World) => s_index (w := v) (a := ad) (cap := c) hlt2)
    have IHB := Aside0.mk (fun (W : World) (hb : Below w.heap.size w W) => ihb L (pre ++ a.post) ((⟨3, 0⟩ : S39) :: post) (some ad) c (i - 1) W (by rw [hL]; simp [Pure.Tr.post]) hl (by rw [List.length_append]; omega) (Kd.C_below hC hb) hc)
    have IHA := Aside0.mk (fun (W : World) (hb : Below w.heap.size w W) => iha L pre (b.post ++ (⟨3, 0⟩ : S39) :: post) (some ad) c j W (by rw [hL]; simp [Pure.Tr.post]) hl hj (Kd.C_below hC hb) hc)
    obtain ⟨kb, hkb⟩ := Pure.begin_at hqp L (pre ++ a.post) ((⟨3, 0⟩ : S39) :: post) (by rw [hL]; simp [Pure.Tr.post]) (by omega)
    have ebi : ((pre ++ a.post).length : Int) + (b.post.length : Int) - 1 = ((i - 1 : Nat) : Int) := by rw [List.length_append]; omega
    have ebj : ((pre ++ a.post).length : Int) = ((j + 1 : Nat) : Int) := by rw [List.length_append]; omega
    rw [ebi, ebj] at hkb
    have BG := Aside0.mk (show ∀ (W : World), Below w.heap.size w W → Calls Tryz.prog 48 #[.slice (some ad) L.length c, .int .i64 ((i - 1 : Nat) : Int)] W fun e w2 => e = .returned (.int .i64 ((j + 1 : Nat) : Int)) ∧ Below W.heap.size W w2 from fun W hb => (remontoirref14_begin.calls kb (some ad) c L _ _ W (Kd.C_below hC hb) hc hkb).mono (fun e w2 h => ⟨h.1, h.2.below⟩))
    have hi1 : 1 ≤ i := by omega
    have hi9 : i ≤ 100000 := by omega
    have hw1 := w64_pred i hi1 hi9
    have hw2 : (i : Int) - 1 = ((i - 1 : Nat) : Int) := by omega
    have hw4 : ((j + 1 : Nat) : Int) - 1 = (j : Int) := by omega
    have hw5 : ((j : Int) + 1) - 1 = (j : Int) := by omega
    have hv1 : IntKind.i64.wrap ((i : Int) - 1) = ((i - 1 : Nat) : Int) := by rw [i64_w]; exact hw1
    have hv6 : IntKind.i64.wrap ((i - 1 : Nat) : Int) = ((i - 1 : Nat) : Int) := by rw [i64_w]; exact w64_nat (i - 1) (by omega)
    have hv7 : IntKind.i64.wrap (j : Int) = (j : Int) := by rw [i64_w]; exact w64_nat j (by omega)
    have B2 := Aside0.mk ((Below.refl w.heap.size w).alloc (Nat.le_refl _) (.cells #[.int .i64 3, .int .i64 0] SgT))
    have HX := Aside0.mk (show (w.alloc (.cells #[.int .i64 3, .int .i64 0] SgT)).heap[w.heap.size]? = some (.cells #[.int .i64 3, .int .i64 0] SgT (0, 0)) from heap_alloc_last w _)
    clear hC hL hi hn hm hm2 hpost hLl fr fl hj hkb ebi ebj
    go_enter Tryz.func25, Tryz.ntmps25
    go_wp2_with (first
      | (go_at_call 47; refine (about_row 17 18 Rb5.out (by omega)).mono ?_; rintro e6 w6 ⟨v6, rfl, h6, hb6⟩; have B6 := Aside0.mk (B5.out.trans (hb6.mono B5.out.size)); have Rb6 := Aside0.mk (RowS.down h6 B5.out.size); have Ra6 := Aside0.mk (RowS.keep Ra5.out hb6); have HX6 := Aside0.mk ((hb6.block _ (blk_lt HX5.out)).trans HX5.out); have x6 : w6.cell? ⟨w.heap.size, 0, none⟩ = some (.int .i64 3) := bce HX6.out 0; clear h6 hb6)
      | (refine Great.wpList_readTo rfl (some 79) rfl (.pointer (some (ad.add (j * 2)))) (exec_indexAddr rfl (IJ2.out _)) ?_)
      | (go_at_call 25; refine (IHA.out _ B4.out).mono ?_; rintro e5 w5 ⟨v5, rfl, h5, hb5⟩; have B5 := Aside0.mk (B4.out.trans (hb5.mono B4.out.size)); have Ra5 := Aside0.mk (RowS.down h5 B4.out.size); have Rb5 := Aside0.mk (RowS.keep Rb4.out hb5); have d5 := (B5.out.cell HQ2).trans C2.out; have HX5 := Aside0.mk ((hb5.block _ (blk_lt HX4.out)).trans HX4.out); have x5 : w5.cell? ⟨w.heap.size, 0, none⟩ = some (.int .i64 3) := bce HX5.out 0; clear h5 hb5)
      | (go_at_call 48; refine (BG.out _ B3.out).mono ?_; rintro e4 w4 ⟨rfl, hb4⟩; have B4 := Aside0.mk (B3.out.trans (hb4.mono B3.out.size)); have Rb4 := Aside0.mk (RowS.keep Rb3.out hb4); have HX4 := Aside0.mk ((hb4.block _ (blk_lt HX3.out)).trans HX3.out); have x4 : w4.cell? ⟨w.heap.size, 0, none⟩ = some (.int .i64 3) := bce HX4.out 0; clear hb4)
      | (refine Great.wpList_readTo rfl (some 32) rfl (.pointer (some (ad.add ((i - 1) * 2)))) (exec_indexAddr rfl (IJ1.out _)) ?_)
      | (go_at_call 25; refine (IHB.out _ B2.out).mono ?_; rintro e3 w3 ⟨v3, rfl, h3, hb3⟩; have B3 := Aside0.mk (B2.out.trans (hb3.mono B2.out.size)); have Rb3 := Aside0.mk (RowS.down h3 B2.out.size); have c3 := (B3.out.cell HQ1).trans C1.out; have HX3 := Aside0.mk ((hb3.block _ (blk_lt HX.out)).trans HX.out); have x3 : w3.cell? ⟨w.heap.size, 0, none⟩ = some (.int .i64 3) := bce HX3.out 0; clear h3 hb3)
      | (refine Great.wpList_readTo rfl (some 13) rfl (.pointer (some (ad.add (i * 2)))) (exec_indexAddr rfl (IJ.out _)) ?_))
    refine show_tail (kd := 3) (g := w.heap.size) rfl ?hp x6 Ra6.out Rb6.out (by first | omega | (simp; omega)) (by first | omega | (simp; omega)) ?_
    case hp => exact ⟨fun c a d v w h => by cases d <;> exact h⟩
    intro w9 v9 y137 y138 y139 y140 y141 y142 y143 y144 y145 y146 hr9 hb9
    have R9 := Aside0.mk (RowS.down hr9 B6.out.size)
    have B9 := Aside0.mk (B6.out.trans (hb9.mono B6.out.size))
    clear hr9 hb9
    go_wp2
    go_ret
    refine ⟨_, rfl, ?_, B9.out⟩
    have := R9.out
    simpa [Pure.Tr.sh, Pure.wr, Pure.brk, hkr] using this
set_option maxRecDepth 100000 in
set_option maxHeartbeats 8000000 in
theorem show_sum3_n (a b : Pure.Tr) (ha9 : a.sh.length ≤ 180) (hb9 : b.sh.length ≤ 180) {fb : Bool} (hqp : Pure.Post fb b.post)   (hr3 : b.kind ≠ 3) (hr4 : b.kind ≠ 4) (iha : ShowAt a) (ihb : ShowAt b) : ShowAt (.bi 3 a b) := by
  intro L pre post A c i w hL hl hi hC hc
  have hp1 : 1 ≤ b.post.length := by obtain ⟨q, n, e⟩ := post_last b; rw [e]; simp
  have hp2 : 1 ≤ a.post.length := by obtain ⟨q, n, e⟩ := post_last a; rw [e]; simp
  have hpost : (Pure.Tr.bi 3 a b).post.length = a.post.length + b.post.length + 1 := by simp only [Pure.Tr.post, List.length_append, List.length_cons, List.length_nil]
  rw [hpost] at hi
  have hLl : L.length = pre.length + (a.post.length + b.post.length + 1) + post.length := by rw [hL, List.length_append, List.length_append, hpost]
  obtain ⟨ad, rfl⟩ := some_ad hC (by omega)
  obtain ⟨j, hj⟩ : ∃ j, j + 1 = pre.length + a.post.length := ⟨pre.length + a.post.length - 1, by omega⟩
  have hn : L[i]? = some ⟨3, 0⟩ := by
    have h : i = (pre ++ a.post ++ b.post).length := by simp only [List.length_append]; omega
    rw [hL, h]
    simp [Pure.Tr.post]
  obtain ⟨m, hm⟩ := last_kind (L := L) (pre := pre ++ a.post) (post := (⟨3, 0⟩ : S39) :: post) (t := b) (i := i - 1) (by rw [hL]; simp [Pure.Tr.post]) (by rw [List.length_append]; omega)
  obtain ⟨m2, hm2⟩ := last_kind (L := L) (pre := pre) (post := b.post ++ (⟨3, 0⟩ : S39) :: post) (t := a) (i := j) (by rw [hL]; simp [Pure.Tr.post]) hj
  have hlt : i < L.length := by omega
  have hlt1 : i - 1 < L.length := by omega
  have hlt2 : j < L.length := by omega
  obtain ⟨e0, e1⟩ := cell_sign hC hn
  obtain ⟨fr, _⟩ := cell_sign hC hm
  obtain ⟨fl, _⟩ := cell_sign hC hm2
  dsimp only at e0 e1 fr fl
  obtain ⟨lk, hrl⟩ : ∃ z, a.kind = z := ⟨_, rfl⟩
  rw [hrl] at fl
  obtain ⟨rk, hrr⟩ : ∃ z, b.kind = z := ⟨_, rfl⟩
  have gr3 : (rk == 3) = false := beq_eq_false_iff_ne.2 (by omega)
  have gr4 : (rk == 4) = false := beq_eq_false_iff_ne.2 (by omega)
  rw [hrr] at fr
  all_goals
    have HQ1 := World.block_lt_of_cell? w _ fr
    have HQ2 := World.block_lt_of_cell? w _ fl
    have C1 := Aside0.mk fr
    have C2 := Aside0.mk fl
    have IJ := Aside0.mk (fun (v : World) => s_index (w := v) (a := ad) (cap := c) hlt)
    have IJ1 := Aside0.mk (fun (v : World) => s_index (w := v) (a := ad) (cap := c) hlt1)
    have IJ2 := Aside0.mk (fun (v : World) => s_index (w := v) (a := ad) (cap := c) hlt2)
    have IHB := Aside0.mk (fun (W : World) (hb : Below w.heap.size w W) => ihb L (pre ++ a.post) ((⟨3, 0⟩ : S39) :: post) (some ad) c (i - 1) W (by rw [hL]; simp [Pure.Tr.post]) hl (by rw [List.length_append]; omega) (Kd.C_below hC hb) hc)
    have IHA := Aside0.mk (fun (W : World) (hb : Below w.heap.size w W) => iha L pre (b.post ++ (⟨3, 0⟩ : S39) :: post) (some ad) c j W (by rw [hL]; simp [Pure.Tr.post]) hl hj (Kd.C_below hC hb) hc)
    obtain ⟨kb, hkb⟩ := Pure.begin_at hqp L (pre ++ a.post) ((⟨3, 0⟩ : S39) :: post) (by rw [hL]; simp [Pure.Tr.post]) (by omega)
    have ebi : ((pre ++ a.post).length : Int) + (b.post.length : Int) - 1 = ((i - 1 : Nat) : Int) := by rw [List.length_append]; omega
    have ebj : ((pre ++ a.post).length : Int) = ((j + 1 : Nat) : Int) := by rw [List.length_append]; omega
    rw [ebi, ebj] at hkb
    have BG := Aside0.mk (show ∀ (W : World), Below w.heap.size w W → Calls Tryz.prog 48 #[.slice (some ad) L.length c, .int .i64 ((i - 1 : Nat) : Int)] W fun e w2 => e = .returned (.int .i64 ((j + 1 : Nat) : Int)) ∧ Below W.heap.size W w2 from fun W hb => (remontoirref14_begin.calls kb (some ad) c L _ _ W (Kd.C_below hC hb) hc hkb).mono (fun e w2 h => ⟨h.1, h.2.below⟩))
    have hi1 : 1 ≤ i := by omega
    have hi9 : i ≤ 100000 := by omega
    have hw1 := w64_pred i hi1 hi9
    have hw2 : (i : Int) - 1 = ((i - 1 : Nat) : Int) := by omega
    have hw4 : ((j + 1 : Nat) : Int) - 1 = (j : Int) := by omega
    have hw5 : ((j : Int) + 1) - 1 = (j : Int) := by omega
    have hv1 : IntKind.i64.wrap ((i : Int) - 1) = ((i - 1 : Nat) : Int) := by rw [i64_w]; exact hw1
    have hv6 : IntKind.i64.wrap ((i - 1 : Nat) : Int) = ((i - 1 : Nat) : Int) := by rw [i64_w]; exact w64_nat (i - 1) (by omega)
    have hv7 : IntKind.i64.wrap (j : Int) = (j : Int) := by rw [i64_w]; exact w64_nat j (by omega)
    have B2 := Aside0.mk ((Below.refl w.heap.size w).alloc (Nat.le_refl _) (.cells #[.int .i64 3, .int .i64 0] SgT))
    have HX := Aside0.mk (show (w.alloc (.cells #[.int .i64 3, .int .i64 0] SgT)).heap[w.heap.size]? = some (.cells #[.int .i64 3, .int .i64 0] SgT (0, 0)) from heap_alloc_last w _)
    clear hC hL hi hn hm hm2 hpost hLl fr fl hj hkb ebi ebj
    go_enter Tryz.func25, Tryz.ntmps25
    go_wp2_with (first
      | (refine Great.wpList_readTo rfl (some 79) rfl (.pointer (some (ad.add (j * 2)))) (exec_indexAddr rfl (IJ2.out _)) ?_)
      | (go_at_call 25; refine (IHA.out _ B4.out).mono ?_; rintro e5 w5 ⟨v5, rfl, h5, hb5⟩; have B5 := Aside0.mk (B4.out.trans (hb5.mono B4.out.size)); have Ra5 := Aside0.mk (RowS.down h5 B4.out.size); have Rb5 := Aside0.mk (RowS.keep Rb4.out hb5); have d5 := (B5.out.cell HQ2).trans C2.out; have HX5 := Aside0.mk ((hb5.block _ (blk_lt HX4.out)).trans HX4.out); have x5 : w5.cell? ⟨w.heap.size, 0, none⟩ = some (.int .i64 3) := bce HX5.out 0; clear h5 hb5)
      | (go_at_call 48; refine (BG.out _ B3.out).mono ?_; rintro e4 w4 ⟨rfl, hb4⟩; have B4 := Aside0.mk (B3.out.trans (hb4.mono B3.out.size)); have Rb4 := Aside0.mk (RowS.keep Rb3.out hb4); have HX4 := Aside0.mk ((hb4.block _ (blk_lt HX3.out)).trans HX3.out); have x4 : w4.cell? ⟨w.heap.size, 0, none⟩ = some (.int .i64 3) := bce HX4.out 0; clear hb4)
      | (refine Great.wpList_readTo rfl (some 32) rfl (.pointer (some (ad.add ((i - 1) * 2)))) (exec_indexAddr rfl (IJ1.out _)) ?_)
      | (go_at_call 25; refine (IHB.out _ B2.out).mono ?_; rintro e3 w3 ⟨v3, rfl, h3, hb3⟩; have B3 := Aside0.mk (B2.out.trans (hb3.mono B2.out.size)); have Rb3 := Aside0.mk (RowS.down h3 B2.out.size); have c3 := (B3.out.cell HQ1).trans C1.out; have HX3 := Aside0.mk ((hb3.block _ (blk_lt HX.out)).trans HX.out); have x3 : w3.cell? ⟨w.heap.size, 0, none⟩ = some (.int .i64 3) := bce HX3.out 0; clear h3 hb3)
      | (refine Great.wpList_readTo rfl (some 13) rfl (.pointer (some (ad.add (i * 2)))) (exec_indexAddr rfl (IJ.out _)) ?_))
    refine show_tail (kd := 3) (g := w.heap.size) rfl ?hp x5 Ra5.out Rb5.out (by first | omega | (simp; omega)) (by first | omega | (simp; omega)) ?_
    case hp => exact ⟨fun c a d v w h => by cases d <;> exact h⟩
    intro w9 v9 y137 y138 y139 y140 y141 y142 y143 y144 y145 y146 hr9 hb9
    have R9 := Aside0.mk (RowS.down hr9 B5.out.size)
    have B9 := Aside0.mk (B5.out.trans (hb9.mono B5.out.size))
    clear hr9 hb9
    go_wp2
    go_ret
    refine ⟨_, rfl, ?_, B9.out⟩
    have := R9.out
    simpa [Pure.Tr.sh, Pure.wr, Pure.brk, hr3, hr4] using this
set_option maxRecDepth 100000 in
set_option maxHeartbeats 8000000 in
theorem show_sum4_b (a b : Pure.Tr) (ha9 : a.sh.length ≤ 180) (hb9 : b.sh.length ≤ 180) {fb : Bool} (hqp : Pure.Post fb b.post)   (hkr : b.kind = 3 ∨ b.kind = 4) (iha : ShowAt a) (ihb : ShowAt b) : ShowAt (.bi 4 a b) := by
  intro L pre post A c i w hL hl hi hC hc
  have hp1 : 1 ≤ b.post.length := by obtain ⟨q, n, e⟩ := post_last b; rw [e]; simp
  have hp2 : 1 ≤ a.post.length := by obtain ⟨q, n, e⟩ := post_last a; rw [e]; simp
  have hpost : (Pure.Tr.bi 4 a b).post.length = a.post.length + b.post.length + 1 := by simp only [Pure.Tr.post, List.length_append, List.length_cons, List.length_nil]
  rw [hpost] at hi
  have hLl : L.length = pre.length + (a.post.length + b.post.length + 1) + post.length := by rw [hL, List.length_append, List.length_append, hpost]
  obtain ⟨ad, rfl⟩ := some_ad hC (by omega)
  obtain ⟨j, hj⟩ : ∃ j, j + 1 = pre.length + a.post.length := ⟨pre.length + a.post.length - 1, by omega⟩
  have hn : L[i]? = some ⟨4, 0⟩ := by
    have h : i = (pre ++ a.post ++ b.post).length := by simp only [List.length_append]; omega
    rw [hL, h]
    simp [Pure.Tr.post]
  obtain ⟨m, hm⟩ := last_kind (L := L) (pre := pre ++ a.post) (post := (⟨4, 0⟩ : S39) :: post) (t := b) (i := i - 1) (by rw [hL]; simp [Pure.Tr.post]) (by rw [List.length_append]; omega)
  obtain ⟨m2, hm2⟩ := last_kind (L := L) (pre := pre) (post := b.post ++ (⟨4, 0⟩ : S39) :: post) (t := a) (i := j) (by rw [hL]; simp [Pure.Tr.post]) hj
  have hlt : i < L.length := by omega
  have hlt1 : i - 1 < L.length := by omega
  have hlt2 : j < L.length := by omega
  obtain ⟨e0, e1⟩ := cell_sign hC hn
  obtain ⟨fr, _⟩ := cell_sign hC hm
  obtain ⟨fl, _⟩ := cell_sign hC hm2
  dsimp only at e0 e1 fr fl
  obtain ⟨lk, hrl⟩ : ∃ z, a.kind = z := ⟨_, rfl⟩
  rw [hrl] at fl
  all_goals (rcases hkr with hkr | hkr <;> rw [hkr] at fr)
  all_goals
    have HQ1 := World.block_lt_of_cell? w _ fr
    have HQ2 := World.block_lt_of_cell? w _ fl
    have C1 := Aside0.mk fr
    have C2 := Aside0.mk fl
    have IJ := Aside0.mk (fun (v : World) => s_index (w := v) (a := ad) (cap := c) hlt)
    have IJ1 := Aside0.mk (fun (v : World) => s_index (w := v) (a := ad) (cap := c) hlt1)
    have IJ2 := Aside0.mk (fun (v : World) => s_index (w := v) (a := ad) (cap := c) hlt2)
    have IHB := Aside0.mk (fun (W : World) (hb : Below w.heap.size w W) => ihb L (pre ++ a.post) ((⟨4, 0⟩ : S39) :: post) (some ad) c (i - 1) W (by rw [hL]; simp [Pure.Tr.post]) hl (by rw [List.length_append]; omega) (Kd.C_below hC hb) hc)
    have IHA := Aside0.mk (fun (W : World) (hb : Below w.heap.size w W) => iha L pre (b.post ++ (⟨4, 0⟩ : S39) :: post) (some ad) c j W (by rw [hL]; simp [Pure.Tr.post]) hl hj (Kd.C_below hC hb) hc)
    obtain ⟨kb, hkb⟩ := Pure.begin_at hqp L (pre ++ a.post) ((⟨4, 0⟩ : S39) :: post) (by rw [hL]; simp [Pure.Tr.post]) (by omega)
    have ebi : ((pre ++ a.post).length : Int) + (b.post.length : Int) - 1 = ((i - 1 : Nat) : Int) := by rw [List.length_append]; omega
    have ebj : ((pre ++ a.post).length : Int) = ((j + 1 : Nat) : Int) := by rw [List.length_append]; omega
    rw [ebi, ebj] at hkb
    have BG := Aside0.mk (show ∀ (W : World), Below w.heap.size w W → Calls Tryz.prog 48 #[.slice (some ad) L.length c, .int .i64 ((i - 1 : Nat) : Int)] W fun e w2 => e = .returned (.int .i64 ((j + 1 : Nat) : Int)) ∧ Below W.heap.size W w2 from fun W hb => (remontoirref14_begin.calls kb (some ad) c L _ _ W (Kd.C_below hC hb) hc hkb).mono (fun e w2 h => ⟨h.1, h.2.below⟩))
    have hi1 : 1 ≤ i := by omega
    have hi9 : i ≤ 100000 := by omega
    have hw1 := w64_pred i hi1 hi9
    have hw2 : (i : Int) - 1 = ((i - 1 : Nat) : Int) := by omega
    have hw4 : ((j + 1 : Nat) : Int) - 1 = (j : Int) := by omega
    have hw5 : ((j : Int) + 1) - 1 = (j : Int) := by omega
    have hv1 : IntKind.i64.wrap ((i : Int) - 1) = ((i - 1 : Nat) : Int) := by rw [i64_w]; exact hw1
    have hv6 : IntKind.i64.wrap ((i - 1 : Nat) : Int) = ((i - 1 : Nat) : Int) := by rw [i64_w]; exact w64_nat (i - 1) (by omega)
    have hv7 : IntKind.i64.wrap (j : Int) = (j : Int) := by rw [i64_w]; exact w64_nat j (by omega)
    have B2 := Aside0.mk ((Below.refl w.heap.size w).alloc (Nat.le_refl _) (.cells #[.int .i64 4, .int .i64 0] SgT))
    have HX := Aside0.mk (show (w.alloc (.cells #[.int .i64 4, .int .i64 0] SgT)).heap[w.heap.size]? = some (.cells #[.int .i64 4, .int .i64 0] SgT (0, 0)) from heap_alloc_last w _)
    clear hC hL hi hn hm hm2 hpost hLl fr fl hj hkb ebi ebj
    go_enter Tryz.func25, Tryz.ntmps25
    go_wp2_with (first
      | (go_at_call 47; refine (about_row 17 18 Rb5.out (by omega)).mono ?_; rintro e6 w6 ⟨v6, rfl, h6, hb6⟩; have B6 := Aside0.mk (B5.out.trans (hb6.mono B5.out.size)); have Rb6 := Aside0.mk (RowS.down h6 B5.out.size); have Ra6 := Aside0.mk (RowS.keep Ra5.out hb6); have HX6 := Aside0.mk ((hb6.block _ (blk_lt HX5.out)).trans HX5.out); have x6 : w6.cell? ⟨w.heap.size, 0, none⟩ = some (.int .i64 4) := bce HX6.out 0; clear h6 hb6)
      | (refine Great.wpList_readTo rfl (some 79) rfl (.pointer (some (ad.add (j * 2)))) (exec_indexAddr rfl (IJ2.out _)) ?_)
      | (go_at_call 25; refine (IHA.out _ B4.out).mono ?_; rintro e5 w5 ⟨v5, rfl, h5, hb5⟩; have B5 := Aside0.mk (B4.out.trans (hb5.mono B4.out.size)); have Ra5 := Aside0.mk (RowS.down h5 B4.out.size); have Rb5 := Aside0.mk (RowS.keep Rb4.out hb5); have d5 := (B5.out.cell HQ2).trans C2.out; have HX5 := Aside0.mk ((hb5.block _ (blk_lt HX4.out)).trans HX4.out); have x5 : w5.cell? ⟨w.heap.size, 0, none⟩ = some (.int .i64 4) := bce HX5.out 0; clear h5 hb5)
      | (go_at_call 48; refine (BG.out _ B3.out).mono ?_; rintro e4 w4 ⟨rfl, hb4⟩; have B4 := Aside0.mk (B3.out.trans (hb4.mono B3.out.size)); have Rb4 := Aside0.mk (RowS.keep Rb3.out hb4); have HX4 := Aside0.mk ((hb4.block _ (blk_lt HX3.out)).trans HX3.out); have x4 : w4.cell? ⟨w.heap.size, 0, none⟩ = some (.int .i64 4) := bce HX4.out 0; clear hb4)
      | (refine Great.wpList_readTo rfl (some 32) rfl (.pointer (some (ad.add ((i - 1) * 2)))) (exec_indexAddr rfl (IJ1.out _)) ?_)
      | (go_at_call 25; refine (IHB.out _ B2.out).mono ?_; rintro e3 w3 ⟨v3, rfl, h3, hb3⟩; have B3 := Aside0.mk (B2.out.trans (hb3.mono B2.out.size)); have Rb3 := Aside0.mk (RowS.down h3 B2.out.size); have c3 := (B3.out.cell HQ1).trans C1.out; have HX3 := Aside0.mk ((hb3.block _ (blk_lt HX.out)).trans HX.out); have x3 : w3.cell? ⟨w.heap.size, 0, none⟩ = some (.int .i64 4) := bce HX3.out 0; clear h3 hb3)
      | (refine Great.wpList_readTo rfl (some 13) rfl (.pointer (some (ad.add (i * 2)))) (exec_indexAddr rfl (IJ.out _)) ?_))
    refine show_tail (kd := 4) (g := w.heap.size) rfl ?hp x6 Ra6.out Rb6.out (by first | omega | (simp; omega)) (by first | omega | (simp; omega)) ?_
    case hp => exact ⟨fun c a d v w h => by cases d <;> exact h⟩
    intro w9 v9 y137 y138 y139 y140 y141 y142 y143 y144 y145 y146 hr9 hb9
    have R9 := Aside0.mk (RowS.down hr9 B6.out.size)
    have B9 := Aside0.mk (B6.out.trans (hb9.mono B6.out.size))
    clear hr9 hb9
    go_wp2
    go_ret
    refine ⟨_, rfl, ?_, B9.out⟩
    have := R9.out
    simpa [Pure.Tr.sh, Pure.wr, Pure.brk, hkr] using this
set_option maxRecDepth 100000 in
set_option maxHeartbeats 8000000 in
theorem show_sum4_n (a b : Pure.Tr) (ha9 : a.sh.length ≤ 180) (hb9 : b.sh.length ≤ 180) {fb : Bool} (hqp : Pure.Post fb b.post)   (hr3 : b.kind ≠ 3) (hr4 : b.kind ≠ 4) (iha : ShowAt a) (ihb : ShowAt b) : ShowAt (.bi 4 a b) := by
  intro L pre post A c i w hL hl hi hC hc
  have hp1 : 1 ≤ b.post.length := by obtain ⟨q, n, e⟩ := post_last b; rw [e]; simp
  have hp2 : 1 ≤ a.post.length := by obtain ⟨q, n, e⟩ := post_last a; rw [e]; simp
  have hpost : (Pure.Tr.bi 4 a b).post.length = a.post.length + b.post.length + 1 := by simp only [Pure.Tr.post, List.length_append, List.length_cons, List.length_nil]
  rw [hpost] at hi
  have hLl : L.length = pre.length + (a.post.length + b.post.length + 1) + post.length := by rw [hL, List.length_append, List.length_append, hpost]
  obtain ⟨ad, rfl⟩ := some_ad hC (by omega)
  obtain ⟨j, hj⟩ : ∃ j, j + 1 = pre.length + a.post.length := ⟨pre.length + a.post.length - 1, by omega⟩
  have hn : L[i]? = some ⟨4, 0⟩ := by
    have h : i = (pre ++ a.post ++ b.post).length := by simp only [List.length_append]; omega
    rw [hL, h]
    simp [Pure.Tr.post]
  obtain ⟨m, hm⟩ := last_kind (L := L) (pre := pre ++ a.post) (post := (⟨4, 0⟩ : S39) :: post) (t := b) (i := i - 1) (by rw [hL]; simp [Pure.Tr.post]) (by rw [List.length_append]; omega)
  obtain ⟨m2, hm2⟩ := last_kind (L := L) (pre := pre) (post := b.post ++ (⟨4, 0⟩ : S39) :: post) (t := a) (i := j) (by rw [hL]; simp [Pure.Tr.post]) hj
  have hlt : i < L.length := by omega
  have hlt1 : i - 1 < L.length := by omega
  have hlt2 : j < L.length := by omega
  obtain ⟨e0, e1⟩ := cell_sign hC hn
  obtain ⟨fr, _⟩ := cell_sign hC hm
  obtain ⟨fl, _⟩ := cell_sign hC hm2
  dsimp only at e0 e1 fr fl
  obtain ⟨lk, hrl⟩ : ∃ z, a.kind = z := ⟨_, rfl⟩
  rw [hrl] at fl
  obtain ⟨rk, hrr⟩ : ∃ z, b.kind = z := ⟨_, rfl⟩
  have gr3 : (rk == 3) = false := beq_eq_false_iff_ne.2 (by omega)
  have gr4 : (rk == 4) = false := beq_eq_false_iff_ne.2 (by omega)
  rw [hrr] at fr
  all_goals
    have HQ1 := World.block_lt_of_cell? w _ fr
    have HQ2 := World.block_lt_of_cell? w _ fl
    have C1 := Aside0.mk fr
    have C2 := Aside0.mk fl
    have IJ := Aside0.mk (fun (v : World) => s_index (w := v) (a := ad) (cap := c) hlt)
    have IJ1 := Aside0.mk (fun (v : World) => s_index (w := v) (a := ad) (cap := c) hlt1)
    have IJ2 := Aside0.mk (fun (v : World) => s_index (w := v) (a := ad) (cap := c) hlt2)
    have IHB := Aside0.mk (fun (W : World) (hb : Below w.heap.size w W) => ihb L (pre ++ a.post) ((⟨4, 0⟩ : S39) :: post) (some ad) c (i - 1) W (by rw [hL]; simp [Pure.Tr.post]) hl (by rw [List.length_append]; omega) (Kd.C_below hC hb) hc)
    have IHA := Aside0.mk (fun (W : World) (hb : Below w.heap.size w W) => iha L pre (b.post ++ (⟨4, 0⟩ : S39) :: post) (some ad) c j W (by rw [hL]; simp [Pure.Tr.post]) hl hj (Kd.C_below hC hb) hc)
    obtain ⟨kb, hkb⟩ := Pure.begin_at hqp L (pre ++ a.post) ((⟨4, 0⟩ : S39) :: post) (by rw [hL]; simp [Pure.Tr.post]) (by omega)
    have ebi : ((pre ++ a.post).length : Int) + (b.post.length : Int) - 1 = ((i - 1 : Nat) : Int) := by rw [List.length_append]; omega
    have ebj : ((pre ++ a.post).length : Int) = ((j + 1 : Nat) : Int) := by rw [List.length_append]; omega
    rw [ebi, ebj] at hkb
    have BG := Aside0.mk (show ∀ (W : World), Below w.heap.size w W → Calls Tryz.prog 48 #[.slice (some ad) L.length c, .int .i64 ((i - 1 : Nat) : Int)] W fun e w2 => e = .returned (.int .i64 ((j + 1 : Nat) : Int)) ∧ Below W.heap.size W w2 from fun W hb => (remontoirref14_begin.calls kb (some ad) c L _ _ W (Kd.C_below hC hb) hc hkb).mono (fun e w2 h => ⟨h.1, h.2.below⟩))
    have hi1 : 1 ≤ i := by omega
    have hi9 : i ≤ 100000 := by omega
    have hw1 := w64_pred i hi1 hi9
    have hw2 : (i : Int) - 1 = ((i - 1 : Nat) : Int) := by omega
    have hw4 : ((j + 1 : Nat) : Int) - 1 = (j : Int) := by omega
    have hw5 : ((j : Int) + 1) - 1 = (j : Int) := by omega
    have hv1 : IntKind.i64.wrap ((i : Int) - 1) = ((i - 1 : Nat) : Int) := by rw [i64_w]; exact hw1
    have hv6 : IntKind.i64.wrap ((i - 1 : Nat) : Int) = ((i - 1 : Nat) : Int) := by rw [i64_w]; exact w64_nat (i - 1) (by omega)
    have hv7 : IntKind.i64.wrap (j : Int) = (j : Int) := by rw [i64_w]; exact w64_nat j (by omega)
    have B2 := Aside0.mk ((Below.refl w.heap.size w).alloc (Nat.le_refl _) (.cells #[.int .i64 4, .int .i64 0] SgT))
    have HX := Aside0.mk (show (w.alloc (.cells #[.int .i64 4, .int .i64 0] SgT)).heap[w.heap.size]? = some (.cells #[.int .i64 4, .int .i64 0] SgT (0, 0)) from heap_alloc_last w _)
    clear hC hL hi hn hm hm2 hpost hLl fr fl hj hkb ebi ebj
    go_enter Tryz.func25, Tryz.ntmps25
    go_wp2_with (first
      | (refine Great.wpList_readTo rfl (some 79) rfl (.pointer (some (ad.add (j * 2)))) (exec_indexAddr rfl (IJ2.out _)) ?_)
      | (go_at_call 25; refine (IHA.out _ B4.out).mono ?_; rintro e5 w5 ⟨v5, rfl, h5, hb5⟩; have B5 := Aside0.mk (B4.out.trans (hb5.mono B4.out.size)); have Ra5 := Aside0.mk (RowS.down h5 B4.out.size); have Rb5 := Aside0.mk (RowS.keep Rb4.out hb5); have d5 := (B5.out.cell HQ2).trans C2.out; have HX5 := Aside0.mk ((hb5.block _ (blk_lt HX4.out)).trans HX4.out); have x5 : w5.cell? ⟨w.heap.size, 0, none⟩ = some (.int .i64 4) := bce HX5.out 0; clear h5 hb5)
      | (go_at_call 48; refine (BG.out _ B3.out).mono ?_; rintro e4 w4 ⟨rfl, hb4⟩; have B4 := Aside0.mk (B3.out.trans (hb4.mono B3.out.size)); have Rb4 := Aside0.mk (RowS.keep Rb3.out hb4); have HX4 := Aside0.mk ((hb4.block _ (blk_lt HX3.out)).trans HX3.out); have x4 : w4.cell? ⟨w.heap.size, 0, none⟩ = some (.int .i64 4) := bce HX4.out 0; clear hb4)
      | (refine Great.wpList_readTo rfl (some 32) rfl (.pointer (some (ad.add ((i - 1) * 2)))) (exec_indexAddr rfl (IJ1.out _)) ?_)
      | (go_at_call 25; refine (IHB.out _ B2.out).mono ?_; rintro e3 w3 ⟨v3, rfl, h3, hb3⟩; have B3 := Aside0.mk (B2.out.trans (hb3.mono B2.out.size)); have Rb3 := Aside0.mk (RowS.down h3 B2.out.size); have c3 := (B3.out.cell HQ1).trans C1.out; have HX3 := Aside0.mk ((hb3.block _ (blk_lt HX.out)).trans HX.out); have x3 : w3.cell? ⟨w.heap.size, 0, none⟩ = some (.int .i64 4) := bce HX3.out 0; clear h3 hb3)
      | (refine Great.wpList_readTo rfl (some 13) rfl (.pointer (some (ad.add (i * 2)))) (exec_indexAddr rfl (IJ.out _)) ?_))
    refine show_tail (kd := 4) (g := w.heap.size) rfl ?hp x5 Ra5.out Rb5.out (by first | omega | (simp; omega)) (by first | omega | (simp; omega)) ?_
    case hp => exact ⟨fun c a d v w h => by cases d <;> exact h⟩
    intro w9 v9 y137 y138 y139 y140 y141 y142 y143 y144 y145 y146 hr9 hb9
    have R9 := Aside0.mk (RowS.down hr9 B5.out.size)
    have B9 := Aside0.mk (B5.out.trans (hb9.mono B5.out.size))
    clear hr9 hb9
    go_wp2
    go_ret
    refine ⟨_, rfl, ?_, B9.out⟩
    have := R9.out
    simpa [Pure.Tr.sh, Pure.wr, Pure.brk, hr3, hr4] using this
end Go.Proofs.YtikbgoppmailjaaGreatDoor.H
