/- Parts of the proof of LawGuardPrints: words, contracts of the functions, plain laws. -/
import Derived.Test.YtikbgoppmailjaaGreatDoorBA07
/- The document's show: how a guard stands between. -/
namespace Go.Proofs.YtikbgoppmailjaaGreatDoor.H
open Go.RowKit Go.HK Go.Lib Go.WideShapes Go.ChangeShapes Go.Proofs.YtikbgoppmailjaaGreatDoorW.PrintWords Go.Proofs.YtikbgoppmailjaaGreatDoorW.PrintLast Go.Proofs.YtikbgoppmailjaaGreatDoorW.PrintMore
set_option linter.unusedVariables false
set_option linter.unusedSimpArgs false
set_option maxRecDepth 100000 in
set_option maxHeartbeats 8000000 in
theorem show_neg_k (b : Pure.Tr) (hwf : b.sh.length ≤ 180) (hk : b.kind = 3 ∨ b.kind = 4 ∨ b.kind = 5) (ih : ShowAt b) : ShowAt (.un 19 b) := by
  intro L pre post A c i w hL hl hi hC hc
  have hp1 : 1 ≤ b.post.length := by obtain ⟨q, n, e⟩ := post_last b; rw [e]; simp
  have hpost : (Pure.Tr.un 19 b).post.length = b.post.length + 1 := by simp [Pure.Tr.post]
  rw [hpost] at hi
  have hLl : L.length = pre.length + (b.post.length + 1) + post.length := by rw [hL, List.length_append, List.length_append, hpost]
  obtain ⟨ad, rfl⟩ := some_ad hC (by omega)
  have hn : L[i]? = some ⟨19, 0⟩ := by
    have h : i = (pre ++ b.post).length := by rw [List.length_append]; omega
    rw [hL, h]
    simp [Pure.Tr.post]
  obtain ⟨m, hm⟩ := last_kind (L := L) (pre := pre) (post := (⟨19, 0⟩ : S39) :: post) (t := b) (i := i - 1) (by rw [hL]; simp [Pure.Tr.post]) (by omega)
  have hlt : i < L.length := by omega
  have hlt1 : i - 1 < L.length := by omega
  obtain ⟨e0, e1⟩ := cell_sign hC hn
  obtain ⟨f0, _⟩ := cell_sign hC hm
  rcases hk with hk | hk | hk <;> rw [hk] at f0
  all_goals
    have HQ1 := World.block_lt_of_cell? w _ f0
    have C1 := Aside0.mk f0
    have IJ := Aside0.mk (fun (v : World) => s_index (w := v) (a := ad) (cap := c) hlt)
    have IJ1 := Aside0.mk (fun (v : World) => s_index (w := v) (a := ad) (cap := c) hlt1)
    have IH := Aside0.mk (fun (W : World) (hb : Below w.heap.size w W) => ih L pre ((⟨19, 0⟩ : S39) :: post) (some ad) c (i - 1) W (by rw [hL]; simp [Pure.Tr.post]) hl (by omega) (Kd.C_below hC hb) hc)
    have hi1 : 1 ≤ i := by omega
    have hi9 : i ≤ 100000 := by omega
    have hw1 := w64_pred i hi1 hi9
    have hv1 : IntKind.i64.wrap ((i : Int) - 1) = ((i - 1 : Nat) : Int) := by rw [i64_w]; exact hw1
    have B2 := Aside0.mk ((Below.refl w.heap.size w).alloc (Nat.le_refl _) (.cells #[.int .i64 19, .int .i64 0] SgT))
    have HX := Aside0.mk (show (w.alloc (.cells #[.int .i64 19, .int .i64 0] SgT)).heap[w.heap.size]? = some (.cells #[.int .i64 19, .int .i64 0] SgT (0, 0)) from heap_alloc_last w _)
    clear hC hL hi hn hm hpost hLl f0
    go_enter Tryz.func25, Tryz.ntmps25
    go_wp2_with (first
      | (obtain ⟨y, w6, hrun, q1, q2, q3⟩ := sapp X5.out R5.out B5.out.size (by simp) (by first | omega | (simp; omega)); have B6 := Aside0.mk (B5.out.grown q2 B5.out.size (fun k e => RowS.own X5.out k e)); have R6 := Aside0.mk q1; refine Great.wpList_runTo rfl (some 53) rfl y w6 (exec_append rfl hrun) ?_; clear hrun q1 q2 q3)
      | (obtain ⟨w5, gx, hrun, q1, q2, q3, q4⟩ := slit1 w4 4 0; have B5 := Aside0.mk (B4.out.grown q4 B4.out.size (fun k e => by cases e)); have X5 := Aside0.mk (RowS.down q1 B4.out.size); have R5 := Aside0.mk (RowS.move R4.out (fun k hk => q4.block k (RowS.lt R4.out k hk) (fun e => by cases e))); refine Great.wpList_runTo rfl (some 51) rfl (.slice (some ⟨gx, 0, none⟩) 1 1) w5 (exec_buildSlice rfl (by first | (simp only [List.map_toArray, List.map_cons, List.map_nil]; done) | (simp only [List.map_toArray, List.map_cons, List.map_nil]; rfl)) hrun) ?_; clear hrun q1 q2 q3 q4)
      | (go_at_call 47; refine (about_row 17 18 R3.out (by omega)).mono ?_; rintro e4 w4 ⟨v4, rfl, h4, hb4⟩; have B4 := Aside0.mk (B3.out.trans (hb4.mono B3.out.size)); have R4 := Aside0.mk (RowS.down h4 B3.out.size); clear h4 hb4)
      | (refine Great.wpList_readTo rfl (some 32) rfl (.pointer (some (ad.add ((i - 1) * 2)))) (exec_indexAddr rfl (IJ1.out _)) ?_)
      | (go_at_call 25; refine (IH.out _ B2.out).mono ?_; rintro e3 w3 ⟨v3, rfl, h3, hb3⟩; have B3 := Aside0.mk (B2.out.trans (hb3.mono B2.out.size)); have R3 := Aside0.mk (RowS.down h3 B2.out.size); have c3 := (B3.out.cell HQ1).trans C1.out; have x3 : w3.cell? ⟨w.heap.size, 0, none⟩ = some (.int .i64 19) := bce ((hb3.block _ (blk_lt HX.out)).trans HX.out) 0; clear h3 hb3)
      | (refine Great.wpList_readTo rfl (some 13) rfl (.pointer (some (ad.add (i * 2)))) (exec_indexAddr rfl (IJ.out _)) ?_))
    go_ret
    refine ⟨_, rfl, ?_, B6.out⟩
    have := R6.out
    simpa [Pure.Tr.sh, Pure.wr, Pure.brk, hk] using this
set_option maxRecDepth 100000 in
set_option maxHeartbeats 8000000 in
theorem show_neg_no (b : Pure.Tr) (hwf : b.sh.length ≤ 180) (h1 : b.kind ≠ 3) (h2 : b.kind ≠ 4) (h3 : b.kind ≠ 5) (h4 : b.kind ≠ 13) (h5 : b.kind ≠ 12) (ih : ShowAt b) : ShowAt (.un 19 b) := by
  intro L pre post A c i w hL hl hi hC hc
  have hp1 : 1 ≤ b.post.length := by obtain ⟨q, n, e⟩ := post_last b; rw [e]; simp
  have hpost : (Pure.Tr.un 19 b).post.length = b.post.length + 1 := by simp [Pure.Tr.post]
  rw [hpost] at hi
  have hLl : L.length = pre.length + (b.post.length + 1) + post.length := by rw [hL, List.length_append, List.length_append, hpost]
  obtain ⟨ad, rfl⟩ := some_ad hC (by omega)
  have hn : L[i]? = some ⟨19, 0⟩ := by
    have h : i = (pre ++ b.post).length := by rw [List.length_append]; omega
    rw [hL, h]
    simp [Pure.Tr.post]
  obtain ⟨m, hm⟩ := last_kind (L := L) (pre := pre) (post := (⟨19, 0⟩ : S39) :: post) (t := b) (i := i - 1) (by rw [hL]; simp [Pure.Tr.post]) (by omega)
  have hlt : i < L.length := by omega
  have hlt1 : i - 1 < L.length := by omega
  obtain ⟨e0, e1⟩ := cell_sign hC hn
  obtain ⟨f0, _⟩ := cell_sign hC hm
  obtain ⟨rk, hrk⟩ : ∃ rk, b.kind = rk := ⟨_, rfl⟩
  have g3 : (rk == 3) = false := beq_eq_false_iff_ne.2 (by omega)
  have g4 : (rk == 4) = false := beq_eq_false_iff_ne.2 (by omega)
  have g5 : (rk == 5) = false := beq_eq_false_iff_ne.2 (by omega)
  rw [hrk] at f0
  all_goals
    have HQ1 := World.block_lt_of_cell? w _ f0
    have C1 := Aside0.mk f0
    have IJ := Aside0.mk (fun (v : World) => s_index (w := v) (a := ad) (cap := c) hlt)
    have IJ1 := Aside0.mk (fun (v : World) => s_index (w := v) (a := ad) (cap := c) hlt1)
    have IH := Aside0.mk (fun (W : World) (hb : Below w.heap.size w W) => ih L pre ((⟨19, 0⟩ : S39) :: post) (some ad) c (i - 1) W (by rw [hL]; simp [Pure.Tr.post]) hl (by omega) (Kd.C_below hC hb) hc)
    have hi1 : 1 ≤ i := by omega
    have hi9 : i ≤ 100000 := by omega
    have hw1 := w64_pred i hi1 hi9
    have hv1 : IntKind.i64.wrap ((i : Int) - 1) = ((i - 1 : Nat) : Int) := by rw [i64_w]; exact hw1
    have B2 := Aside0.mk ((Below.refl w.heap.size w).alloc (Nat.le_refl _) (.cells #[.int .i64 19, .int .i64 0] SgT))
    have HX := Aside0.mk (show (w.alloc (.cells #[.int .i64 19, .int .i64 0] SgT)).heap[w.heap.size]? = some (.cells #[.int .i64 19, .int .i64 0] SgT (0, 0)) from heap_alloc_last w _)
    clear hC hL hi hn hm hpost hLl f0
    go_enter Tryz.func25, Tryz.ntmps25
    go_wp2_with (first
      | (obtain ⟨y, w6, hrun, q1, q2, q3⟩ := sapp X5.out R5.out B5.out.size (by simp) (by first | omega | (simp; omega)); have B6 := Aside0.mk (B5.out.grown q2 B5.out.size (fun k e => RowS.own X5.out k e)); have R6 := Aside0.mk q1; refine Great.wpList_runTo rfl (some 53) rfl y w6 (exec_append rfl hrun) ?_; clear hrun q1 q2 q3)
      | (obtain ⟨w5, gx, hrun, q1, q2, q3, q4⟩ := slit1 w3 4 0; have B5 := Aside0.mk (B3.out.grown q4 B3.out.size (fun k e => by cases e)); have X5 := Aside0.mk (RowS.down q1 B3.out.size); have R5 := Aside0.mk (RowS.move R3.out (fun k hk => q4.block k (RowS.lt R3.out k hk) (fun e => by cases e))); refine Great.wpList_runTo rfl (some 51) rfl (.slice (some ⟨gx, 0, none⟩) 1 1) w5 (exec_buildSlice rfl (by first | (simp only [List.map_toArray, List.map_cons, List.map_nil]; done) | (simp only [List.map_toArray, List.map_cons, List.map_nil]; rfl)) hrun) ?_; clear hrun q1 q2 q3 q4)
      | (refine Great.wpList_readTo rfl (some 32) rfl (.pointer (some (ad.add ((i - 1) * 2)))) (exec_indexAddr rfl (IJ1.out _)) ?_)
      | (go_at_call 25; refine (IH.out _ B2.out).mono ?_; rintro e3 w3 ⟨v3, rfl, h3, hb3⟩; have B3 := Aside0.mk (B2.out.trans (hb3.mono B2.out.size)); have R3 := Aside0.mk (RowS.down h3 B2.out.size); have c3 := (B3.out.cell HQ1).trans C1.out; have x3 : w3.cell? ⟨w.heap.size, 0, none⟩ = some (.int .i64 19) := bce ((hb3.block _ (blk_lt HX.out)).trans HX.out) 0; clear h3 hb3)
      | (refine Great.wpList_readTo rfl (some 13) rfl (.pointer (some (ad.add (i * 2)))) (exec_indexAddr rfl (IJ.out _)) ?_))
    go_ret
    refine ⟨_, rfl, ?_, B6.out⟩
    have := R6.out
    simpa [Pure.Tr.sh, Pure.wr, Pure.brk, h1, h2, h3, h4, h5] using this
set_option maxRecDepth 100000 in
set_option maxHeartbeats 8000000 in
theorem show_not_k (b : Pure.Tr) (hwf : b.sh.length ≤ 180) (hk : b.kind = 13 ∨ b.kind = 12) (ih : ShowAt b) : ShowAt (.un 14 b) := by
  intro L pre post A c i w hL hl hi hC hc
  have hp1 : 1 ≤ b.post.length := by obtain ⟨q, n, e⟩ := post_last b; rw [e]; simp
  have hpost : (Pure.Tr.un 14 b).post.length = b.post.length + 1 := by simp [Pure.Tr.post]
  rw [hpost] at hi
  have hLl : L.length = pre.length + (b.post.length + 1) + post.length := by rw [hL, List.length_append, List.length_append, hpost]
  obtain ⟨ad, rfl⟩ := some_ad hC (by omega)
  have hn : L[i]? = some ⟨14, 0⟩ := by
    have h : i = (pre ++ b.post).length := by rw [List.length_append]; omega
    rw [hL, h]
    simp [Pure.Tr.post]
  obtain ⟨m, hm⟩ := last_kind (L := L) (pre := pre) (post := (⟨14, 0⟩ : S39) :: post) (t := b) (i := i - 1) (by rw [hL]; simp [Pure.Tr.post]) (by omega)
  have hlt : i < L.length := by omega
  have hlt1 : i - 1 < L.length := by omega
  obtain ⟨e0, e1⟩ := cell_sign hC hn
  obtain ⟨f0, _⟩ := cell_sign hC hm
  rcases hk with hk | hk <;> rw [hk] at f0
  all_goals
    have HQ1 := World.block_lt_of_cell? w _ f0
    have C1 := Aside0.mk f0
    have IJ := Aside0.mk (fun (v : World) => s_index (w := v) (a := ad) (cap := c) hlt)
    have IJ1 := Aside0.mk (fun (v : World) => s_index (w := v) (a := ad) (cap := c) hlt1)
    have IH := Aside0.mk (fun (W : World) (hb : Below w.heap.size w W) => ih L pre ((⟨14, 0⟩ : S39) :: post) (some ad) c (i - 1) W (by rw [hL]; simp [Pure.Tr.post]) hl (by omega) (Kd.C_below hC hb) hc)
    have hi1 : 1 ≤ i := by omega
    have hi9 : i ≤ 100000 := by omega
    have hw1 := w64_pred i hi1 hi9
    have hv1 : IntKind.i64.wrap ((i : Int) - 1) = ((i - 1 : Nat) : Int) := by rw [i64_w]; exact hw1
    have B2 := Aside0.mk ((Below.refl w.heap.size w).alloc (Nat.le_refl _) (.cells #[.int .i64 14, .int .i64 0] SgT))
    have HX := Aside0.mk (show (w.alloc (.cells #[.int .i64 14, .int .i64 0] SgT)).heap[w.heap.size]? = some (.cells #[.int .i64 14, .int .i64 0] SgT (0, 0)) from heap_alloc_last w _)
    clear hC hL hi hn hm hpost hLl f0
    go_enter Tryz.func25, Tryz.ntmps25
    go_wp2_with (first
      | (obtain ⟨y, w6, hrun, q1, q2, q3⟩ := sapp X5.out R5.out B5.out.size (by simp) (by first | omega | (simp; omega)); have B6 := Aside0.mk (B5.out.grown q2 B5.out.size (fun k e => RowS.own X5.out k e)); have R6 := Aside0.mk q1; refine Great.wpList_runTo rfl (some 68) rfl y w6 (exec_append rfl hrun) ?_; clear hrun q1 q2 q3)
      | (obtain ⟨w5, gx, hrun, q1, q2, q3, q4⟩ := slit1 w4 14 0; have B5 := Aside0.mk (B4.out.grown q4 B4.out.size (fun k e => by cases e)); have X5 := Aside0.mk (RowS.down q1 B4.out.size); have R5 := Aside0.mk (RowS.move R4.out (fun k hk => q4.block k (RowS.lt R4.out k hk) (fun e => by cases e))); refine Great.wpList_runTo rfl (some 66) rfl (.slice (some ⟨gx, 0, none⟩) 1 1) w5 (exec_buildSlice rfl (by first | (simp only [List.map_toArray, List.map_cons, List.map_nil]; done) | (simp only [List.map_toArray, List.map_cons, List.map_nil]; rfl)) hrun) ?_; clear hrun q1 q2 q3 q4)
      | (go_at_call 47; refine (about_row 15 16 R3.out (by omega)).mono ?_; rintro e4 w4 ⟨v4, rfl, h4, hb4⟩; have B4 := Aside0.mk (B3.out.trans (hb4.mono B3.out.size)); have R4 := Aside0.mk (RowS.down h4 B3.out.size); clear h4 hb4)
      | (refine Great.wpList_readTo rfl (some 32) rfl (.pointer (some (ad.add ((i - 1) * 2)))) (exec_indexAddr rfl (IJ1.out _)) ?_)
      | (go_at_call 25; refine (IH.out _ B2.out).mono ?_; rintro e3 w3 ⟨v3, rfl, h3, hb3⟩; have B3 := Aside0.mk (B2.out.trans (hb3.mono B2.out.size)); have R3 := Aside0.mk (RowS.down h3 B2.out.size); have c3 := (B3.out.cell HQ1).trans C1.out; have x3 : w3.cell? ⟨w.heap.size, 0, none⟩ = some (.int .i64 14) := bce ((hb3.block _ (blk_lt HX.out)).trans HX.out) 0; clear h3 hb3)
      | (refine Great.wpList_readTo rfl (some 13) rfl (.pointer (some (ad.add (i * 2)))) (exec_indexAddr rfl (IJ.out _)) ?_))
    go_ret
    refine ⟨_, rfl, ?_, B6.out⟩
    have := R6.out
    simpa [Pure.Tr.sh, Pure.wr, Pure.brk, hk] using this
set_option maxRecDepth 100000 in
set_option maxHeartbeats 8000000 in
theorem show_not_no (b : Pure.Tr) (hwf : b.sh.length ≤ 180) (h1 : b.kind ≠ 13) (h2 : b.kind ≠ 12) (h3 : b.kind ≠ 5) (ih : ShowAt b) : ShowAt (.un 14 b) := by
  intro L pre post A c i w hL hl hi hC hc
  have hp1 : 1 ≤ b.post.length := by obtain ⟨q, n, e⟩ := post_last b; rw [e]; simp
  have hpost : (Pure.Tr.un 14 b).post.length = b.post.length + 1 := by simp [Pure.Tr.post]
  rw [hpost] at hi
  have hLl : L.length = pre.length + (b.post.length + 1) + post.length := by rw [hL, List.length_append, List.length_append, hpost]
  obtain ⟨ad, rfl⟩ := some_ad hC (by omega)
  have hn : L[i]? = some ⟨14, 0⟩ := by
    have h : i = (pre ++ b.post).length := by rw [List.length_append]; omega
    rw [hL, h]
    simp [Pure.Tr.post]
  obtain ⟨m, hm⟩ := last_kind (L := L) (pre := pre) (post := (⟨14, 0⟩ : S39) :: post) (t := b) (i := i - 1) (by rw [hL]; simp [Pure.Tr.post]) (by omega)
  have hlt : i < L.length := by omega
  have hlt1 : i - 1 < L.length := by omega
  obtain ⟨e0, e1⟩ := cell_sign hC hn
  obtain ⟨f0, _⟩ := cell_sign hC hm
  obtain ⟨rk, hrk⟩ : ∃ rk, b.kind = rk := ⟨_, rfl⟩
  have g3 : (rk == 13) = false := beq_eq_false_iff_ne.2 (by omega)
  have g4 : (rk == 12) = false := beq_eq_false_iff_ne.2 (by omega)
  rw [hrk] at f0
  all_goals
    have HQ1 := World.block_lt_of_cell? w _ f0
    have C1 := Aside0.mk f0
    have IJ := Aside0.mk (fun (v : World) => s_index (w := v) (a := ad) (cap := c) hlt)
    have IJ1 := Aside0.mk (fun (v : World) => s_index (w := v) (a := ad) (cap := c) hlt1)
    have IH := Aside0.mk (fun (W : World) (hb : Below w.heap.size w W) => ih L pre ((⟨14, 0⟩ : S39) :: post) (some ad) c (i - 1) W (by rw [hL]; simp [Pure.Tr.post]) hl (by omega) (Kd.C_below hC hb) hc)
    have hi1 : 1 ≤ i := by omega
    have hi9 : i ≤ 100000 := by omega
    have hw1 := w64_pred i hi1 hi9
    have hv1 : IntKind.i64.wrap ((i : Int) - 1) = ((i - 1 : Nat) : Int) := by rw [i64_w]; exact hw1
    have B2 := Aside0.mk ((Below.refl w.heap.size w).alloc (Nat.le_refl _) (.cells #[.int .i64 14, .int .i64 0] SgT))
    have HX := Aside0.mk (show (w.alloc (.cells #[.int .i64 14, .int .i64 0] SgT)).heap[w.heap.size]? = some (.cells #[.int .i64 14, .int .i64 0] SgT (0, 0)) from heap_alloc_last w _)
    clear hC hL hi hn hm hpost hLl f0
    go_enter Tryz.func25, Tryz.ntmps25
    go_wp2_with (first
      | (obtain ⟨y, w6, hrun, q1, q2, q3⟩ := sapp X5.out R5.out B5.out.size (by simp) (by first | omega | (simp; omega)); have B6 := Aside0.mk (B5.out.grown q2 B5.out.size (fun k e => RowS.own X5.out k e)); have R6 := Aside0.mk q1; refine Great.wpList_runTo rfl (some 68) rfl y w6 (exec_append rfl hrun) ?_; clear hrun q1 q2 q3)
      | (obtain ⟨w5, gx, hrun, q1, q2, q3, q4⟩ := slit1 w3 14 0; have B5 := Aside0.mk (B3.out.grown q4 B3.out.size (fun k e => by cases e)); have X5 := Aside0.mk (RowS.down q1 B3.out.size); have R5 := Aside0.mk (RowS.move R3.out (fun k hk => q4.block k (RowS.lt R3.out k hk) (fun e => by cases e))); refine Great.wpList_runTo rfl (some 66) rfl (.slice (some ⟨gx, 0, none⟩) 1 1) w5 (exec_buildSlice rfl (by first | (simp only [List.map_toArray, List.map_cons, List.map_nil]; done) | (simp only [List.map_toArray, List.map_cons, List.map_nil]; rfl)) hrun) ?_; clear hrun q1 q2 q3 q4)
      | (refine Great.wpList_readTo rfl (some 32) rfl (.pointer (some (ad.add ((i - 1) * 2)))) (exec_indexAddr rfl (IJ1.out _)) ?_)
      | (go_at_call 25; refine (IH.out _ B2.out).mono ?_; rintro e3 w3 ⟨v3, rfl, h3, hb3⟩; have B3 := Aside0.mk (B2.out.trans (hb3.mono B2.out.size)); have R3 := Aside0.mk (RowS.down h3 B2.out.size); have c3 := (B3.out.cell HQ1).trans C1.out; have x3 : w3.cell? ⟨w.heap.size, 0, none⟩ = some (.int .i64 14) := bce ((hb3.block _ (blk_lt HX.out)).trans HX.out) 0; clear h3 hb3)
      | (refine Great.wpList_readTo rfl (some 13) rfl (.pointer (some (ad.add (i * 2)))) (exec_indexAddr rfl (IJ.out _)) ?_))
    go_ret
    refine ⟨_, rfl, ?_, B6.out⟩
    have := R6.out
    simpa [Pure.Tr.sh, Pure.wr, Pure.brk, h1, h2, h3] using this
end Go.Proofs.YtikbgoppmailjaaGreatDoor.H
