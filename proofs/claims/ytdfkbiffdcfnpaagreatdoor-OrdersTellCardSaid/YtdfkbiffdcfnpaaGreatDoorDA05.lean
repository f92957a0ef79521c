/- Parts of the proof of LawOrdersTell: words, contracts of the functions, plain laws. -/
import Derived.Test.YtdfkbiffdcfnpaaGreatDoorDA04
import Derived.Sort.OwnSortedInts
import Derived.Lib.OwnBridge
import Derived.Test.YtdfkbiffdcfnpaaGreatDoorDA02
import Derived.LoopN
import Derived.Test.YtdfkbiffdcfnpaaGreatDoorProg
import Derived.Lib.SlicesCompact
/- Jobs: rounds of its loop. -/
namespace Go.Proofs.YtdfkbiffdcfnpaaGreatDoor.H
open Go.RowKit Go.HK Go.Lib Go.WideShapes Go.ChangeShapes Go.Proofs.YtdfkbiffdcfnpaaGreatDoorW.PrintWords Go.Proofs.YtdfkbiffdcfnpaaGreatDoorW.PrintLast Go.Proofs.YtdfkbiffdcfnpaaGreatDoorW.PrintMore
set_option linter.unusedVariables false
set_option linter.unusedSimpArgs false
theorem infoInt : ∃ i, Tryz.prog.info? 3 = some i ∧ i.zero = some (.int .i64 0) ∧ i.size = 1 ∧ i.bytes = 8 := by
  have h : (Tryz.prog.info? 3).map (fun i => (i.zero, i.size, i.bytes)) = some (some (.int .i64 0), 1, 8) := by kernel_rfl
  obtain ⟨i, hi, e⟩ := Option.map_eq_some_iff.1 h
  injection e with e1 e2
  injection e2 with e2 e3
  exact ⟨i, hi, e1, e2, e3⟩
/-- v is a row of the numbers zs, in memory from B on. -/
def RowI (w : World) (B : Nat) (v : Value) (zs : List Int) : Prop := w.ownsRow B 3 1 v zs.length (zs.map (.int .i64))
section
variable {w w' : World} {B B' : Nat} {v : Value} {zs : List Int}
theorem RowI.nil (w : World) (B : Nat) : RowI w B (.slice none 0 0) [] := World.ownsRow_nil _ _ _ _
theorem RowI.own (h : RowI w B v zs) : ∀ k, v.ownBlock = some k → B ≤ k := by
  rcases h.2 with ⟨rfl, _⟩ | ⟨g, cap, cur, rfl, h2, _⟩
  · intro k e; cases e
  · intro k e; cases e; exact h2
theorem RowI.lt (h : RowI w B v zs) : ∀ k, v.ownBlock = some k → k < w.heap.size := by
  intro k hk
  rcases h.2 with ⟨rfl, _⟩ | ⟨g, cap, cur, rfl, _, hg, _⟩
  · cases hk
  · cases hk
    exact blk_lt hg
theorem RowI.move (h : RowI w B v zs) (e : ∀ k, v.ownBlock = some k → w'.heap[k]? = w.heap[k]?) : RowI w' B v zs := by
  refine ⟨h.1, ?_⟩
  rcases h.2 with h2 | ⟨g, cap, cur, rfl, hB, hg, r⟩
  · exact .inl h2
  · exact .inr ⟨g, cap, cur, rfl, hB, (e g rfl).trans hg, r⟩
theorem RowI.keep (h : RowI w B v zs) (hb : Below w.heap.size w w') : RowI w' B v zs := h.move (fun k hk => hb.block k (h.lt k hk))
theorem RowI.down (h : RowI w B v zs) (hb : B' ≤ B) : RowI w B' v zs := by
  refine ⟨h.1, ?_⟩
  rcases h.2 with h2 | ⟨g, cap, cur, rfl, hB, r⟩
  · exact .inl h2
  · exact .inr ⟨g, cap, cur, rfl, Nat.le_trans hb hB, r⟩
theorem RowQ.down {l : List O5} (h : RowQ w B v l) (hb : B' ≤ B) : RowQ w B' v l := by
  refine ⟨h.1, ?_⟩
  rcases h.2 with h2 | ⟨g, cap, cur, rfl, hB, r⟩
  · exact .inl h2
  · exact .inr ⟨g, cap, cur, rfl, Nat.le_trans hb hB, r⟩
theorem RowI.snoc {x : Int} (h : w.ownsRow B 3 1 v (zs.length + 1) (zs.map (.int .i64) ++ [.int .i64 x])) : RowI w B v (zs ++ [x]) := by
  unfold RowI
  rw [List.length_append, List.map_append]
  exact h
/-- append(v, x): one more. -/
theorem imore {gx : Nat} {x : Int} (hx : w.heap[gx]? = some (.cells #[.int .i64 x] 3 (0, 0))) (hR : RowI w B v zs) (hb : B ≤ w.heap.size) (hl : zs.length ≤ 1000) :
    ∃ v' w3, (Builtin.append_ #[34, 34] 34 #[v, .slice (some ⟨gx, 0, none⟩) 1 1]).run Tryz.prog w = .ok v' w3 ∧ RowI w3 B v' (zs ++ [x]) ∧ w.grownBy w3 v.ownBlock := by
  obtain ⟨i0, hi0, hz0, hz1, hz2⟩ := infoInt
  obtain ⟨v', w3, h1, h2, h3, _, _⟩ := run_append_own_at (P := Tryz.prog) w B 34 34 3 i0 (.int .i64 0) 1 8 Tryz.underlying34 hi0 hz0 hz1 hz2 rfl (by decide) v zs.length (zs.map (.int .i64)) hR ⟨gx, 0, none⟩ 1 1 [.int .i64 x] rfl (fun j u hj => by
    rw [Addr.add_mid, bce hx]
    simpa using hj) (fun u hu => by simp at hu; subst hu; rfl) (by unfold maxLen; omega) (by omega) hb
  exact ⟨v', w3, h1, RowI.snoc h2, h3⟩
end
theorem jobs_body {c0 c1 c2 c3 body : Code} {z0 : Nat}  {c0' c1' c2' c3' body' : Code} {z0' : Nat}  (h : Tryz.f16.body = some (.seq c0 (.seq c1 (.seq (.seq c2 (.block z0 (.loop body))) c3)))) (h' : Tryz.f16.body = some (.seq c0' (.seq c1' (.seq (.seq c2' (.block z0' (.loop body'))) c3')))) : body' = body := by
  rw [h] at h'
  simp only [Option.some.injEq, Code.seq.injEq, Code.cond.injEq, Code.block.injEq, Code.loop.injEq] at h'
  simp only [h']
set_option maxRecDepth 100000 in
set_option maxHeartbeats 4000000 in
theorem jobs_round {w0 w : World} {a : Addr} {n cap i : Nat} {x : O5} {va u : Value} {zs : List Int} {Q : Exit → Act → World → Prop} {N : Nat} {c0 c1 c2 c3 body : Code} {z0 : Nat}  {x1 x4 x5 x10 x11 x12 x13 x14 x15 x16 x17 x18 x19 x20 x21 x22 : Value}
    (hB : Tryz.f16.body = some (.seq c0 (.seq c1 (.seq (.seq c2 (.block z0 (.loop body))) c3)))) (HX : Aside0 (∀ r, r < 5 → w.cell? (a.add (i * 5 + r)) = (c5 x)[r]?)) (HR : Aside0 (RowI w w0.heap.size u zs)) (HB : Aside0 (Below w0.heap.size w0 w)) (hi : i < n) (hn : n ≤ 100) (ho : zs.length ≤ 100)
    (cont : ∀ (w' : World) (u' : Value) (y1 y4 y5 y10 y11 y12 y13 y14 y15 y16 y17 y18 y19 y20 y21 y22 : Value), RowI w' w0.heap.size u' (zs ++ [x.2.1]) → Below w0.heap.size w0 w' → Code.rounds Tryz.prog body Q N ⟨#[va, y1, .slice none 0 0, u', y4, y5, va, .slice (some a) n cap, .int .i64 n, .int .i64 (i + 1), y10, y11, y12, y13, y14, y15, y16, y17, y18, y19, y20, y21, y22], []⟩ w') :
    Code.rounds Tryz.prog body Q (N + 1) ⟨#[va, x1, .slice none 0 0, u, x4, x5, va, .slice (some a) n cap, .int .i64 n, .int .i64 i, x10, x11, x12, x13, x14, x15, x16, x17, x18, x19, x20, x21, x22], []⟩ w := by
  have hbody := jobs_body rfl hB
  clear hB
  subst hbody
  have hcont := Aside0.mk cont
  clear cont
  obtain ⟨k', tok, b, c, d, hx⟩ : ∃ k' tok b c d, x = (k', tok, b, c, d) := ⟨_, _, _, _, _, rfl⟩
  subst hx
  have IJ := Aside0.mk (fun (v : World) => arg_index (w := v) (a := a) (cap := cap) hi)
  have LD := Aside0.mk (show (Instr.loadAt 76 (.pointer (some (a.add (i * 5))))).run Tryz.prog w = .ok (ov k' tok b c d) w from arg_load HX.out)
  have BA := Aside0.mk (HB.out.trans (((Below.refl w.heap.size w).alloc (Nat.le_refl _) (.cells (ocs k' tok b c d) 76)).mono HB.out.size))
  have RA := Aside0.mk (HR.out.keep ((Below.refl w.heap.size w).alloc (Nat.le_refl _) (.cells (ocs k' tok b c d) 76)))
  have B2 := BA.out.trans (((Below.refl _ _).alloc (Nat.le_refl _) (.cells #[.int .i64 tok] 3)).mono BA.out.size)
  have R2 := RA.out.keep ((Below.refl _ _).alloc (Nat.le_refl _) (.cells #[.int .i64 tok] 3))
  obtain ⟨u', w3, m1, m2, m3⟩ := imore (w := ((w.alloc (.cells (ocs k' tok b c d) 76)).alloc (.cells #[.int .i64 tok] 3))) (x := tok) (gx := (w.alloc (.cells (ocs k' tok b c d) 76)).heap.size) (heap_alloc_last (w.alloc (.cells (ocs k' tok b c d) 76)) _) R2 B2.size (by omega)
  have B3 := Aside0.mk (B2.grown m3 B2.size (fun k e => R2.own k e))
  have R3 := Aside0.mk m2
  have M1 := Aside0.mk (show (Builtin.append_ #[34, 34] 34 #[u, .slice (some ⟨w.heap.size + 1, 0, none⟩) 1 1]).run Tryz.prog ((w.alloc (.cells (ocs k' tok b c d) 76)).alloc (.cells #[.int .i64 tok] 3)) = .ok u' w3 from by rw [World.size_alloc] at m1; exact m1)
  clear m1 m2 m3 B2 R2
  rw [rounds_succ]
  go_wp2_with (first
    | (refine Great.wpList_runTo rfl (some 17) rfl u' w3 (exec_append rfl M1.out) ?_)
    | (refine Great.wpList_readTo rfl (some 11) rfl (.pointer (some (a.add (i * 5)))) (exec_indexAddr rfl (IJ.out _)) ?_)
    | (refine Great.wpList_readTo rfl (some 12) rfl (ov k' tok b c d) (exec_load rfl LD.out) ?_))
  exact hcont.out _ _ _ _ _ _ _ _ _ _ _ _ _ _ _ _ _ _ R3.out B3.out
set_option maxRecDepth 100000 in
set_option maxHeartbeats 4000000 in
theorem jobs_end {w : World} {n cap : Nat} {A : Option Addr} {va u : Value} {Q : Exit → Act → World → Prop} {N : Nat} {c0 c1 c2 c3 body : Code} {z0 : Nat}  {x1 x4 x5 x10 x11 x12 x13 x14 x15 x16 x17 x18 x19 x20 x21 x22 : Value} (hB : Tryz.f16.body = some (.seq c0 (.seq c1 (.seq (.seq c2 (.block z0 (.loop body))) c3)))) (hn : n ≤ 100)
    (cont : ∀ (y1 y4 y5 y10 y11 y12 y13 y14 y15 y16 y17 y18 y19 y20 y21 y22 : Value), Q (.exit 0) ⟨#[va, y1, .slice none 0 0, u, y4, y5, va, .slice A n cap, .int .i64 n, .int .i64 n, y10, y11, y12, y13, y14, y15, y16, y17, y18, y19, y20, y21, y22], []⟩ w) : Code.rounds Tryz.prog body Q (N + 1) ⟨#[va, x1, .slice none 0 0, u, x4, x5, va, .slice A n cap, .int .i64 n, .int .i64 n, x10, x11, x12, x13, x14, x15, x16, x17, x18, x19, x20, x21, x22], []⟩ w := by
  have hbody := jobs_body rfl hB
  clear hB
  subst hbody
  have hcont := Aside0.mk cont
  clear cont
  rw [rounds_succ]
  go_wp2
  exact hcont.out _ _ _ _ _ _ _ _ _ _ _ _ _ _ _ _
set_option maxRecDepth 100000 in
set_option maxHeartbeats 4000000 in
theorem jobs_loop {w0 : World} {A : Option Addr} {cap : Nat} {va : Value} {l : List O5} {Q : Exit → Act → World → Prop} {c0 c1 c2 c3 body : Code} {z0 : Nat}  (hB : Tryz.f16.body = some (.seq c0 (.seq c1 (.seq (.seq c2 (.block z0 (.loop body))) c3)))) (HA : ArgO w0 (.slice A l.length cap) l) (hn : l.length ≤ 100)
    (hK : ∀ (w' : World) (u : Value) (y1 y4 y5 y10 y11 y12 y13 y14 y15 y16 y17 y18 y19 y20 y21 y22 : Value), RowI w' w0.heap.size u (l.map (·.2.1)) → Below w0.heap.size w0 w' → Q (.exit 0) ⟨#[va, y1, .slice none 0 0, u, y4, y5, va, .slice A l.length cap, .int .i64 l.length, .int .i64 l.length, y10, y11, y12, y13, y14, y15, y16, y17, y18, y19, y20, y21, y22], []⟩ w') :
    ∀ (d i : Nat) (w : World) (u : Value) {y1 y4 y5 y10 y11 y12 y13 y14 y15 y16 y17 y18 y19 y20 y21 y22 : Value}, i + d = l.length → RowI w w0.heap.size u ((l.take i).map (·.2.1)) → Below w0.heap.size w0 w → Code.rounds Tryz.prog body Q (d + 1) ⟨#[va, y1, .slice none 0 0, u, y4, y5, va, .slice A l.length cap, .int .i64 l.length, .int .i64 i, y10, y11, y12, y13, y14, y15, y16, y17, y18, y19, y20, y21, y22], []⟩ w := by
  intro d
  induction d with
  | zero =>
    intro i w u y1 y4 y5 y10 y11 y12 y13 y14 y15 y16 y17 y18 y19 y20 y21 y22 hd HR HB
    obtain rfl : i = l.length := by omega
    rw [List.take_length] at HR
    exact jobs_end hB hn (fun y1 y4 y5 y10 y11 y12 y13 y14 y15 y16 y17 y18 y19 y20 y21 y22 => hK w u y1 y4 y5 y10 y11 y12 y13 y14 y15 y16 y17 y18 y19 y20 y21 y22 HR HB)
  | succ d ih =>
    intro i w u y1 y4 y5 y10 y11 y12 y13 y14 y15 y16 y17 y18 y19 y20 y21 y22 hd HR HB
    have hi : i < l.length := by omega
    obtain ⟨A', cap', e, ha⟩ := HA.keep HB
    injection e with e1 e2 e3
    subst e1 e3
    obtain ⟨a, rfl, hx⟩ := ha i hi
    refine jobs_round hB ⟨hx⟩ ⟨HR⟩ ⟨HB⟩ hi hn (by rw [List.length_map, List.length_take]; omega) (fun w' u' y1 y4 y5 y10 y11 y12 y13 y14 y15 y16 y17 y18 y19 y20 y21 y22 hr hb => ih (i + 1) w' u' (by omega) ?_ hb)
    rw [List.take_add_one, List.map_append, List.getElem?_eq_getElem hi]
    rw [List.getD_eq_getElem?_getD, List.getElem?_eq_getElem hi] at hr
    exact hr
end Go.Proofs.YtdfkbiffdcfnpaaGreatDoor.H
/- Jobs. -/
namespace Go.Proofs.YtdfkbiffdcfnpaaGreatDoor.H
open Go.RowKit Go.HK Go.Sort Go.WideShapes Go.ChangeShapes Go.Proofs.YtdfkbiffdcfnpaaGreatDoorW.PrintWords Go.Proofs.YtdfkbiffdcfnpaaGreatDoorW.PrintLast Go.Proofs.YtdfkbiffdcfnpaaGreatDoorW.PrintMore
set_option linter.unusedVariables false
set_option linter.unusedSimpArgs false
theorem compact_len (zs : List Int) : (Lib.compact zs).length ≤ zs.length := by
  unfold Lib.compact Lib.compactUpTo
  rw [List.length_map]
  have := List.length_filter_le (Lib.keeps zs.toArray) (List.range zs.length)
  rw [List.length_range] at this
  exact this
theorem below_growS {B : Nat} {w0 w : World} {os : Array Obj} (h : Below B w0 w) (hB : B ≤ w0.heap.size) : Below B w0 (Sort.grow w os) :=
  ⟨h.os, h.tape, h.output, by have := h.size; simp [Sort.grow]; omega, fun k hk => by rw [← h.block k hk]; have := h.size; exact Sort.heap_grow_old _ _ (by omega)⟩
theorem holds_own {w : World} {b g n cap : Nat} {e : TypeId} {zs : List Int} (h : w.ownsRow b e 1 (.slice (some ⟨g, 0, none⟩) n cap) n (zs.map (Value.int .i64))) : Sort.Holds (Value.int .i64) w g 0 zs.toArray := by
  obtain ⟨g', c', e1, _, _, _, _, _, hH⟩ := Lib.holds_of_ownsRow (enc := Value.int .i64) h (by intro q; cases q)
  injection e1 with e1 _ _
  injection e1 with e1
  injection e1 with e1
  subst e1
  exact hH
theorem own_cut {w : World} {b g cap q m : Nat} {e : TypeId} {zs : List Int} (h : w.ownsRow b e 1 (.slice (some ⟨g, 0, none⟩) m cap) m (zs.map (Value.int .i64))) (hk : (Lib.compact zs).length ≤ m) (hl : zs.length = m) :
    (Sort.putRow (Value.int .i64) (Sort.ahead w q) g 0 (Lib.compact zs ++ List.replicate (m - (Lib.compact zs).length) 0).toArray).ownsRow b e 1 (.slice (some ⟨g, 0, none⟩) (Lib.compact zs).length cap) (Lib.compact zs).length ((Lib.compact zs).map (Value.int .i64)) := by
  have := Lib.ownsRow_putRow (enc := Value.int .i64) (q := q) (k := (Lib.compact zs).length) (ys := Lib.compact zs ++ List.replicate (m - (Lib.compact zs).length) 0) h (by rw [List.length_append, List.length_replicate]; omega) hk
  rw [List.take_left] at this
  exact this
def jobsL (l : List O5) : List Int := Lib.compact (((keptL 1 l).map (·.2.1)).mergeSort fun x y => decide (x ≤ y))
set_option maxRecDepth 100000 in
set_option maxHeartbeats 4000000 in
theorem jobs_calls {w : World} {v : Value} {l : List O5} (HA : ArgO w v l) (hn : l.length ≤ 100) :
    Calls Tryz.prog 16 #[v] w fun e w' => ∃ r, e = .returned r ∧ RowI w' w.heap.size r (jobsL l) ∧ Below w.heap.size w w' := by
  have H := Aside0.mk HA
  clear HA
  generalize v = va at *
  have hkl : (keptL 1 l).length ≤ 100 := by have := keptL_len 1 l l.length (Nat.le_refl _); rw [List.take_length] at this; omega
  obtain ⟨res, hres⟩ : ∃ res, jobsL l = res := ⟨_, rfl⟩
  rw [hres]
  unfold jobsL at hres
  generalize hkk : keptL 1 l = m at *
  have HRS := Aside0.mk hres
  clear hres
  go_enter Tryz.func16, Tryz.ntmps16
  go_wp2_with (go_at_call 42; refine (kept_calls (kd := 1) H.out hn).mono ?_; rintro e w1 ⟨r, rfl, h1, h2⟩; rw [hkk] at h1; obtain ⟨A, cap, rfl, hA⟩ := h1.arg; have A1 := Aside0.mk (show ArgO w1 (.slice A m.length cap) m from ⟨A, cap, rfl, hA⟩); have B1 := Aside0.mk h2; clear h1 h2 hA hkk)
  refine wp_loop_rounds (m.length + 1) ?_
  refine jobs_loop (l := m) rfl A1.out hkl ?_ m.length 0 w1 (.slice none 0 0) (by omega) (RowI.nil _ _) (Below.refl _ _)
  intro w2 u y1 y4 y5 y10 y11 y12 y13 y14 y15 y16 y17 y18 y19 y20 y21 y22 hr hb
  have HR := Aside0.mk (RowI.down hr B1.out.size)
  have HB := Aside0.mk (B1.out.trans (hb.mono B1.out.size))
  clear hr hb
  generalize hxs : m.map (·.2.1) = xs at *
  have hxl : xs.length = m.length := by rw [← hxs, List.length_map]
  clear hxs A1 B1 H
  have hsl : (xs.mergeSort fun x y => decide (x ≤ y)).length = xs.length := List.length_mergeSort _
  rcases HR.out.2 with ⟨e0, h0⟩ | ⟨g, cap2, cur, e0, hg, hh, hn2, hcap, hsz, htk⟩
  · subst e0
    have hx0 : xs = [] := List.eq_nil_of_length_eq_zero h0
    subst hx0
    go_wp2_with (first
      | (go_at_call 43; refine (Tryz.slices_Sort_int_none _ _ _).mono ?_; rintro e1 w1 ⟨rfl, rfl⟩)
      | (go_at_call 44; refine (Tryz.slices_Compact_int_empty _ _ _).mono ?_; rintro e1 w1 ⟨rfl, rfl⟩))
    go_ret
    have hr0 : res = [] := by rw [← HRS.out, List.mergeSort_nil]; rfl
    rw [hr0]
    exact ⟨_, rfl, HR.out, HB.out⟩
  · subst e0
    have HS := Aside0.mk (fun (W : World) hH h1 h2 => Tryz.slices_Sort_int g 0 cap2 xs W hH h1 h2)
    have HG := Aside0.mk hg
    have HH := Aside0.mk hh
    have HH2 := Aside0.mk (holds_own HR.out)
    have hgs : g < w2.heap.size := blk_lt hh
    generalize (xs.mergeSort fun x y => decide (x ≤ y)) = zs at *
    have hcl := compact_len zs
    have HCC := Aside0.mk (fun (W : World) hH => Tryz.slices_Compact_int g 0 cap2 zs W hH (by omega) (by omega))
    rw [hsl] at HCC
    have hz0 : xs.length < 4611686018427387904 := by omega
    have hz1 : (Lib.compact zs).length ≤ xs.length := by omega
    have HSL := Aside0.mk hsl
    have HXL := Aside0.mk hxl
    clear htk hh hg hsl hxl hcl
    go_wp2_with (first
      | (go_at_call 43; refine (HS.out w2 HH2.out hgs hz0).mono ?_; rintro e1 w3 ⟨rfl, n1, os1, hw1⟩; have HB1 := Aside0.mk (show Below w.heap.size w w3 by rw [hw1]; exact below_growS (Lib.below_putRow HB.out HG.out) (Nat.le_refl _)); have HO1 := Aside0.mk (show w3.ownsRow w.heap.size 3 1 (.slice (some ⟨g, 0, none⟩) xs.length cap2) xs.length (zs.map (.int .i64)) by rw [hw1]; exact ownsRow_sortedI HSL.out HG.out HH.out hn2 hcap hsz); clear hw1)
      | (go_at_call 44; refine (HCC.out w3 (holds_own HO1.out)).mono ?_; rintro e2 w4 ⟨rfl, q2, hw2⟩; have HB2 := Aside0.mk (show Below w.heap.size w w4 by rw [hw2]; exact Lib.below_putRow HB1.out HG.out); have HO2 := Aside0.mk (show w4.ownsRow w.heap.size 3 1 (.slice (some ⟨g, 0, none⟩) (Lib.compact zs).length cap2) (Lib.compact zs).length ((Lib.compact zs).map (.int .i64)) by rw [hw2]; exact own_cut HO1.out hz1 HSL.out); clear hw2))
    go_ret
    rw [← HRS.out]
    exact ⟨_, rfl, HO2.out, HB2.out⟩
end Go.Proofs.YtdfkbiffdcfnpaaGreatDoor.H
/- Sorted rows without twins: Compact behind Sort; insertion. -/
namespace Go.Proofs.YtdfkbiffdcfnpaaGreatDoor.H
set_option linter.unusedVariables false
set_option linter.unusedSimpArgs false
theorem jb_upto (d : Array Int) (x : Int) : ∀ m, x ∈ Lib.compactUpTo d m ↔ ∃ j, j < m ∧ d[j]! = x
  | 0 => by simp [Lib.compactUpTo]
  | m + 1 => by
    rw [Lib.compactUpTo_succ, List.mem_append, jb_upto d x m]
    by_cases h : Lib.keeps d m = true
    · rw [if_pos h]
      constructor
      · rintro (⟨j, hj, e⟩ | h1)
        · exact ⟨j, by omega, e⟩
        · exact ⟨m, by omega, (List.mem_singleton.1 h1).symm⟩
      · rintro ⟨j, hj, e⟩
        by_cases hm : j = m
        · subst hm
          exact Or.inr (List.mem_singleton.2 e.symm)
        · exact Or.inl ⟨j, by omega, e⟩
    · rw [if_neg h]
      have h2 : m ≠ 0 ∧ d[m]! = d[m - 1]! := by
        unfold Lib.keeps at h
        simp only [decide_eq_true_eq, not_or, Decidable.not_not] at h
        exact h
      constructor
      · rintro (⟨j, hj, e⟩ | h1)
        · exact ⟨j, by omega, e⟩
        · cases h1
      · rintro ⟨j, hj, e⟩
        by_cases hm : j = m
        · subst hm
          exact Or.inl ⟨j - 1, by omega, by rw [← h2.2]; exact e⟩
        · exact Or.inl ⟨j, by omega, e⟩
theorem jb_mem (zs : List Int) (x : Int) : x ∈ Lib.compact zs ↔ x ∈ zs := by
  unfold Lib.compact
  rw [jb_upto]
  constructor
  · rintro ⟨j, hj, e⟩
    have : (zs.toArray)[j]! = zs[j] := by simp [hj]
    rw [this] at e
    rw [← e]
    exact List.getElem_mem hj
  · intro h
    obtain ⟨j, hj, e⟩ := List.mem_iff_getElem.1 h
    exact ⟨j, hj, by rw [← e]; simp [hj]⟩
theorem jb_lt (zs : List Int) (h : zs.Pairwise (· ≤ ·)) : ∀ m, m ≤ zs.length → (Lib.compactUpTo zs.toArray m).Pairwise (· < ·)
  | 0, _ => by simp [Lib.compactUpTo]
  | m + 1, hm => by
    rw [Lib.compactUpTo_succ]
    have ih := jb_lt zs h m (by omega)
    by_cases hk : Lib.keeps zs.toArray m = true
    · rw [if_pos hk, List.pairwise_append]
      refine ⟨ih, List.pairwise_singleton _ _, ?_⟩
      intro x hx y hy
      obtain rfl := List.mem_singleton.1 hy
      obtain ⟨j, hj, rfl⟩ := (jb_upto _ _ _).1 hx
      have hk2 : m = 0 ∨ zs.toArray[m]! ≠ zs.toArray[m - 1]! := by unfold Lib.keeps at hk; simpa using hk
      have hp : ∀ i k, i < k → k < zs.length → zs.toArray[i]! ≤ zs.toArray[k]! := by
        intro i k hik hk'
        have := List.pairwise_iff_getElem.1 h i k (by omega) hk' hik
        simpa [hk', show i < zs.length by omega] using this
      rcases hk2 with rfl | hk2
      · omega
      · have h1 := hp (m - 1) m (by omega) (by omega)
        rcases Nat.lt_or_ge j (m - 1) with q | q
        · have := hp j (m - 1) q (by omega)
          omega
        · obtain rfl : j = m - 1 := by omega
          omega
    · rw [if_neg hk, List.append_nil]; exact ih
/-- The set of some numbers, in order. -/
def jset (zs : List Int) : List Int := Lib.compact (zs.mergeSort fun x y => decide (x ≤ y))
theorem jset_lt (zs : List Int) : (jset zs).Pairwise (· < ·) := by
  unfold jset
  have h : (zs.mergeSort fun x y => decide (x ≤ y)).Pairwise (fun x y => decide (x ≤ y) = true) := List.pairwise_mergeSort (fun a b c h1 h2 => by simp at *; omega) (fun a b => by simp; omega) zs
  exact jb_lt _ (h.imp (fun q => of_decide_eq_true q)) _ (Nat.le_refl _)
theorem jset_mem (zs : List Int) (x : Int) : x ∈ jset zs ↔ x ∈ zs := by
  unfold jset
  rw [jb_mem]
  exact (List.mergeSort_perm zs _).mem_iff
theorem lt_ext : ∀ {a b : List Int}, a.Pairwise (· < ·) → b.Pairwise (· < ·) → (∀ x, x ∈ a ↔ x ∈ b) → a = b
  | [], [], _, _, _ => rfl
  | [], y :: b, _, _, h => absurd ((h y).2 (by simp)) (by simp)
  | x :: a, [], _, _, h => absurd ((h x).1 (by simp)) (by simp)
  | x :: a, y :: b, ha, hb, h => by
    obtain ⟨ha1, ha2⟩ := List.pairwise_cons.1 ha
    obtain ⟨hb1, hb2⟩ := List.pairwise_cons.1 hb
    have e : x = y := by
      rcases List.mem_cons.1 ((h x).1 (by simp)) with e | e
      · exact e
      · rcases List.mem_cons.1 ((h y).2 (by simp)) with q | q
        · exact q.symm
        · have := ha1 y q
          have := hb1 x e
          omega
    subst e
    rw [lt_ext ha2 hb2 (fun z => ?_)]
    constructor
    · intro hz
      rcases List.mem_cons.1 ((h z).1 (by simp [hz])) with rfl | q
      · exact absurd (ha1 z hz) (by omega)
      · exact q
    · intro hz
      rcases List.mem_cons.1 ((h z).2 (by simp [hz])) with rfl | q
      · exact absurd (hb1 z hz) (by omega)
      · exact q
theorem jset_new (zs : List Int) (t : Int) (h : t ∉ zs) : (jset (zs ++ [t])).length = (jset zs).length + 1 := by
  have nd : ∀ l : List Int, l.Pairwise (· < ·) → l.Nodup := fun l h => h.imp (fun q e => by omega)
  have p : (jset (zs ++ [t])).Perm (t :: jset zs) := by
    refine (List.perm_ext_iff_of_nodup (nd _ (jset_lt _)) (List.nodup_cons.2 ⟨by rw [jset_mem]; exact h, nd _ (jset_lt _)⟩)).2 (fun x => ?_)
    rw [jset_mem]
    simp only [List.mem_append, List.mem_cons, List.mem_singleton, List.not_mem_nil, or_false, jset_mem]
    exact Or.comm
  rw [p.length_eq, List.length_cons]
/-- Insertion into a sorted row, if it isn't there. -/
def insJ (x : Int) : List Int → List Int
  | [] => [x]
  | y :: l => if y < x then y :: insJ x l else if y = x then y :: l else x :: y :: l
theorem insJ_mem (x z : Int) : ∀ l : List Int, z ∈ insJ x l ↔ z = x ∨ z ∈ l
  | [] => by simp [insJ]
  | y :: l => by
    unfold insJ
    split
    · rw [List.mem_cons, insJ_mem x z l, List.mem_cons]
      constructor
      · rintro (h | h | h) <;> simp [h]
      · rintro (h | h | h) <;> simp [h]
    · split
      · rename_i e; subst e; simp
      · simp
theorem insJ_lt (x : Int) : ∀ l : List Int, l.Pairwise (· < ·) → (insJ x l).Pairwise (· < ·)
  | [], _ => by simp [insJ]
  | y :: l, h => by
    obtain ⟨h1, h2⟩ := List.pairwise_cons.1 h
    unfold insJ
    split
    · rename_i q
      refine List.pairwise_cons.2 ⟨fun z hz => ?_, insJ_lt x l h2⟩
      rcases (insJ_mem x z l).1 hz with rfl | hz
      · exact q
      · exact h1 z hz
    · split
      · exact h
      · rename_i q1 q2
        refine List.pairwise_cons.2 ⟨fun z hz => ?_, h⟩
        rcases List.mem_cons.1 hz with rfl | hz
        · omega
        · have := h1 z hz; omega
theorem insJ_fold (zs : List Int) : zs.foldl (fun a x => insJ x a) [] = jset zs := by
  have key : ∀ (zs a : List Int), a.Pairwise (· < ·) → (zs.foldl (fun a x => insJ x a) a).Pairwise (· < ·) ∧ ∀ x, x ∈ zs.foldl (fun a x => insJ x a) a ↔ x ∈ a ∨ x ∈ zs := by
    intro zs
    induction zs with
    | nil => intro a h; exact ⟨h, fun x => by simp⟩
    | cons z zs ih =>
      intro a h
      obtain ⟨i1, i2⟩ := ih (insJ z a) (insJ_lt z a h)
      refine ⟨i1, fun x => ?_⟩
      rw [List.foldl_cons, i2, insJ_mem, List.mem_cons]
      constructor
      · rintro ((h | h) | h) <;> simp [h]
      · rintro (h | h | h) <;> simp [h]
  obtain ⟨k1, k2⟩ := key zs [] List.Pairwise.nil
  exact lt_ext k1 (jset_lt zs) (fun x => by rw [k2, jset_mem]; simp)
end Go.Proofs.YtdfkbiffdcfnpaaGreatDoor.H
/- Rows of orders: from the printed kinds and back. -/
namespace Go.Proofs.YtdfkbiffdcfnpaaGreatDoor.H
open Go.RowKit Go.HK Go.Lib Go.WideShapes Go.ChangeShapes Go.Proofs.YtdfkbiffdcfnpaaGreatDoorW.PrintWords Go.Proofs.YtdfkbiffdcfnpaaGreatDoorW.PrintLast Go.Proofs.YtdfkbiffdcfnpaaGreatDoorW.PrintMore
set_option linter.unusedVariables false
set_option linter.unusedSimpArgs false
abbrev SO := S76
abbrev kO := k76
def o5 (x : SO) : O5 := (x.f0, x.f1, x.f2, x.f3, x.f4)
def s5 (x : O5) : SO := ⟨x.1, x.2.1, x.2.2.1, x.2.2.2.1, x.2.2.2.2⟩
theorem argO_of {w : World} {A : Option Addr} {c : Nat} {l : List SO} (h : Kd.C kO w A l.length l) : ArgO w (.slice A l.length c) (l.map o5) := by
  refine ⟨A, c, by rw [List.length_map], fun i hi => ?_⟩
  rw [List.length_map] at hi
  obtain ⟨ad, e, hc⟩ := h.2.2 (by omega)
  obtain ⟨cs, h1, h2, h3⟩ := hc i _ (List.getElem?_eq_getElem hi)
  refine ⟨ad, e, fun r hr => ?_⟩
  have hs : cs = c5 (o5 l[i]) := k76_open h2
  have hg : (l.map o5).getD i o0 = o5 l[i] := by rw [List.getD_eq_getElem?_getD, List.getElem?_map, List.getElem?_eq_getElem hi]; rfl
  rw [hg, ← hs]
  obtain ⟨u, hu⟩ := c5_some (o5 l[i]) hr
  rw [← hs] at hu
  rw [hu]
  exact h3 r u hu
theorem rowI_R {w : World} {B : Nat} {v : Value} {zs : List Int} (h : RowI w B v zs) : Kd.R (Kd.int .i64) 3 w B (fun _ => True) v zs := by
  refine ⟨fun _ _ => trivial, zs.map (.int .i64), h, by rw [List.length_map]; exact (Nat.mul_one _).symm, fun j p hj => ?_⟩
  show List.take 1 (List.drop (j * 1) (zs.map (Value.int .i64))) = [Value.int .i64 p]
  rw [Nat.mul_one, ← List.map_drop, ← List.map_take]
  have hl : j < zs.length := (List.getElem?_eq_some_iff.1 hj).1
  have e : zs[j] = p := by have := List.getElem?_eq_getElem hl; rw [hj] at this; exact (Option.some.inj this).symm
  rw [List.drop_eq_getElem_cons hl, e]
  rfl
theorem rowQ_R {w : World} {B : Nat} {v : Value} {l : List O5} (h : RowQ w B v l) : Kd.R kO 76 w B (fun _ => True) v (l.map s5) := by
  refine ⟨fun _ _ => trivial, flat5 l, ?_, ?_, fun j p hj => ?_⟩
  · rw [List.length_map]; exact h
  · rw [flat5_len, List.length_map]; rfl
  · rw [List.getElem?_map] at hj
    obtain ⟨x, hx, rfl⟩ := Option.map_eq_some_iff.1 hj
    have hl : j < l.length := (List.getElem?_eq_some_iff.1 hx).1
    have e : List.take 5 (List.drop (j * 5) (flat5 l)) = c5 x := by
      apply List.ext_getElem?
      intro r
      by_cases hr : r < 5
      · rw [List.getElem?_take_of_lt hr, List.getElem?_drop, Nat.mul_comm, flat5_get hr l j hl, List.getD_eq_getElem?_getD, hx]
        rfl
      · rw [List.getElem?_eq_none (by rw [List.length_take]; omega), List.getElem?_eq_none (by simp; omega)]
    show kO.M w B _ (s5 x) (List.take 5 (List.drop (j * 5) (flat5 l)))
    rw [e]
    exact k76_mkM w B _ (s5 x)
end Go.Proofs.YtdfkbiffdcfnpaaGreatDoor.H
-- Written by hp.py (a program of this session, over the kit's print.py), with hand-made contracts beside it.
namespace Go.Proofs.YtdfkbiffdcfnpaaGreatDoor.H
open Go.RowKit Go.Proofs.YtdfkbiffdcfnpaaGreatDoorW.PrintWords Go.Proofs.YtdfkbiffdcfnpaaGreatDoorW.PrintLast Go.Proofs.YtdfkbiffdcfnpaaGreatDoorW.PrintMore
attribute [local go_sem] max2_int min2_int max_two min_two max_three min_three max_four min_four   -- for this text's walks alone
set_option linter.unusedVariables false
set_option linter.unusedSimpArgs false

-- HANDMADE remontoir/orders.Jobs
/-! ### orders_Jobs: function 16 -/
def orders_Jobs.f (l0 : List S76) : Option (List Int) := if l0.length ≤ 100 then some (jobsL (l0.map o5)) else none
theorem orders_Jobs.calls (A0 : Option Addr) (c0 : Nat) (l0 : List S76) (r : List Int) (w : World) (hr0 : Kd.C k76 w A0 l0.length l0) (hc0 : l0.length ≤ c0) (h : orders_Jobs.f l0 = some r) :
    Calls Tryz.prog 16 #[.slice A0 l0.length c0] w fun e w' => ∃ v0_ : Value, e = .returned (v0_) ∧ Kd.R (Kd.int .i64) 3 w' w.heap.size (fun _ => True) v0_ r ∧ Below w.heap.size w w' := by
  unfold orders_Jobs.f at h
  by_cases hl : l0.length ≤ 100
  · rw [if_pos hl] at h
    obtain rfl := Option.some.inj h
    refine (jobs_calls (argO_of hr0) (by rw [List.length_map]; exact hl)).mono ?_
    rintro e w' ⟨v, rfl, h1, h2⟩
    exact ⟨v, rfl, rowI_R h1, h2⟩
  · rw [if_neg hl] at h
    cases h


end Go.Proofs.YtdfkbiffdcfnpaaGreatDoor.H
-- Written by hp.py (a program of this session, over the kit's print.py), with hand-made contracts beside it.
namespace Go.Proofs.YtdfkbiffdcfnpaaGreatDoor.H
open Go.RowKit Go.Proofs.YtdfkbiffdcfnpaaGreatDoorW.PrintWords Go.Proofs.YtdfkbiffdcfnpaaGreatDoorW.PrintLast Go.Proofs.YtdfkbiffdcfnpaaGreatDoorW.PrintMore
attribute [local go_sem] max2_int min2_int max_two min_two max_three min_three max_four min_four   -- for this text's walks alone
set_option linter.unusedVariables false
set_option linter.unusedSimpArgs false

-- HANDMADE remontoir/orders.Timers
/-! ### orders_Timers: function 18 -/
def orders_Timers.f (l0 : List S76) : Option (List (S76)) := if l0.length ≤ 100 then some ((keptL 2 (l0.map o5)).map s5) else none
theorem orders_Timers.calls (A0 : Option Addr) (c0 : Nat) (l0 : List S76) (r : List S76) (w : World) (hr0 : Kd.C k76 w A0 l0.length l0) (hc0 : l0.length ≤ c0) (h : orders_Timers.f l0 = some r) :
    Calls Tryz.prog 18 #[.slice A0 l0.length c0] w fun e w' => ∃ v0_ : Value, e = .returned (v0_) ∧ Kd.R k76 76 w' w.heap.size (fun _ => True) v0_ r ∧ Below w.heap.size w w' := by
  unfold orders_Timers.f at h
  by_cases hl : l0.length ≤ 100
  · rw [if_pos hl] at h
    obtain rfl := Option.some.inj h
    refine (timers_calls (argO_of hr0) (by rw [List.length_map]; exact hl)).mono ?_
    rintro e w' ⟨v, rfl, h1, h2⟩
    exact ⟨v, rfl, rowQ_R h1, h2⟩
  · rw [if_neg hl] at h
    cases h


end Go.Proofs.YtdfkbiffdcfnpaaGreatDoor.H
-- Written by hp.py (a program of this session, over the kit's print.py), with hand-made contracts beside it.
namespace Go.Proofs.YtdfkbiffdcfnpaaGreatDoor.H
open Go.RowKit Go.Proofs.YtdfkbiffdcfnpaaGreatDoorW.PrintWords Go.Proofs.YtdfkbiffdcfnpaaGreatDoorW.PrintLast Go.Proofs.YtdfkbiffdcfnpaaGreatDoorW.PrintMore
attribute [local go_sem] max2_int min2_int max_two min_two max_three min_three max_four min_four   -- for this text's walks alone
set_option linter.unusedVariables false
set_option linter.unusedSimpArgs false

theorem eqA76 (d : Nat) (w : World) (x0 y0 : Int) (x1 y1 : Int) (x2 y2 : Int) (x3 y3 : Int) (x4 y4 : Int) :
    (Op.equalIn (d + 2) 76 (.agg #[.int .i64 x0, .int .i64 x1, .int .i64 x2, .int .i64 x3, .int .u64 x4]) (.agg #[.int .i64 y0, .int .i64 y1, .int .i64 y2, .int .i64 y3, .int .u64 y4])).run Tryz.prog w = .ok (x0 == y0 && (x1 == y1 && (x2 == y2 && (x3 == y3 && (x4 == y4))))) w := by
  refine eqA_of Tryz.underlying76 (by kernel_rfl) ?_
  refine eqf_cons (by rfl) (by go_simp; rfl) (by go_simp; rfl) (by go_simp) ?_
  refine eqf_cons (by rfl) (by go_simp; rfl) (by go_simp; rfl) (by go_simp) ?_
  refine eqf_cons (by rfl) (by go_simp; rfl) (by go_simp; rfl) (by go_simp) ?_
  refine eqf_cons (by rfl) (by go_simp; rfl) (by go_simp; rfl) (by go_simp) ?_
  exact eqf_last (by rfl) (by go_simp; rfl) (by go_simp; rfl) (by go_simp)
end Go.Proofs.YtdfkbiffdcfnpaaGreatDoor.H
-- Written by hp.py (a program of this session, over the kit's print.py), with hand-made contracts beside it.
namespace Go.Proofs.YtdfkbiffdcfnpaaGreatDoor.H
open Go.RowKit Go.Proofs.YtdfkbiffdcfnpaaGreatDoorW.PrintWords Go.Proofs.YtdfkbiffdcfnpaaGreatDoorW.PrintLast Go.Proofs.YtdfkbiffdcfnpaaGreatDoorW.PrintMore
attribute [local go_sem] max2_int min2_int max_two min_two max_three min_three max_four min_four   -- for this text's walks alone
set_option linter.unusedVariables false
set_option linter.unusedSimpArgs false

attribute [local go_sem high] eqA76
/-! ### remontoirlaw27_wakes: function 11 -/
def remontoirlaw27_wakes.f (k : Nat)  : Option (Bool) := (orders_Of.f k (⟨#[]⟩ : ByteArray) (([(⟨3, 0, 3, 0, (⟨#[]⟩ : ByteArray)⟩ : S86), (⟨8, 0, 0, 1, (⟨#[80, 84, 57, 83]⟩ : ByteArray)⟩ : S86)] : List (S86))) ([] : List (S51)) (([(⟨2, 0, 1, 5⟩ : S83), (⟨1, 0, 0, 0⟩ : S83), (⟨3, 0, 2, 5⟩ : S83), (⟨4, 0, 0, 5⟩ : S83)] : List (S83)))).bind fun t168 => (if (t168.length : Int) = 3 then (if 0 < (t168.length : Int) then (if (((rd_T76 t168 0).f0) == 1 && (((rd_T76 t168 0).f1) == 5 && (((rd_T76 t168 0).f2) == 1 && (((rd_T76 t168 0).f3) == 3 && (((rd_T76 t168 0).f4) == 0))))) = true then (if 1 < (t168.length : Int) then (if (((rd_T76 t168 1).f0) == 2 && (((rd_T76 t168 1).f1) == 5 && (((rd_T76 t168 1).f2) == 2 && (((rd_T76 t168 1).f3) == 0 && (((rd_T76 t168 1).f4) == 9))))) = true then (if 2 < (t168.length : Int) then (if (((rd_T76 t168 2).f0) == 3 && (((rd_T76 t168 2).f1) == 5 && (((rd_T76 t168 2).f2) == 0 && (((rd_T76 t168 2).f3) == 0 && (((rd_T76 t168 2).f4) == 0))))) = true then ((orders_Jobs.f t168).bind fun t174 => (if (t174.length : Int) = 0 then (if 2 ≤ (t168.length : Int) then ((orders_Jobs.f (t168.take 2)).bind fun t181 => (if (t181.length : Int) = 1 then ((orders_Timers.f (t168.take 2)).bind fun t188 => (some ((t188.length : Int) == 1))) else (some false))) else (none)) else (some false))) else (some false)) else (none)) else (some false)) else (none)) else (some false)) else (none)) else (some false))
theorem remontoirlaw27_wakes.mono : ∀ k, LeO (remontoirlaw27_wakes.f k ) (remontoirlaw27_wakes.f (k + 1) ) := by
  intro  k
  unfold remontoirlaw27_wakes.f
  repeat' first
      | (with_reducible exact orders_Of.mono _ _ _ _ _)
      | (with_reducible exact LeO.refl _)
      | (with_reducible exact LeO.none _)
      | (with_reducible refine LeO.ite ?_ ?_)
      | (with_reducible refine LeO.bind ?_ (fun _ => ?_))
      | exact orders_Of.mono _ _ _ _ _
      | exact LeO.none _
      | refine LeO.ite ?_ ?_
      | refine LeO.bind ?_ (fun _ => ?_)
set_option maxHeartbeats 8000000 in
set_option maxRecDepth 100000 in
theorem remontoirlaw27_wakes.calls (k : Nat)  (w : World) (h : remontoirlaw27_wakes.f k  = some true) :
  Calls Tryz.prog 11 #[] w fun e w' => e = .returned (.bool true) ∧ Below w.heap.size w w' := by
 have hu86 := Tryz.underlying86
 have hu25 := Tryz.underlying25
 have hu83 := Tryz.underlying83
 have hu76 := Tryz.underlying76
 have HB := Aside0.mk (Below.refl w.heap.size w)
 have H : ((orders_Of.f k (⟨#[]⟩ : ByteArray) (([(⟨3, 0, 3, 0, (⟨#[]⟩ : ByteArray)⟩ : S86), (⟨8, 0, 0, 1, (⟨#[80, 84, 57, 83]⟩ : ByteArray)⟩ : S86)] : List (S86))) ([] : List (S51)) (([(⟨2, 0, 1, 5⟩ : S83), (⟨1, 0, 0, 0⟩ : S83), (⟨3, 0, 2, 5⟩ : S83), (⟨4, 0, 0, 5⟩ : S83)] : List (S83)))).bind fun t168 => (if (t168.length : Int) = 3 then (if 0 < (t168.length : Int) then (if (((rd_T76 t168 0).f0) == 1 && (((rd_T76 t168 0).f1) == 5 && (((rd_T76 t168 0).f2) == 1 && (((rd_T76 t168 0).f3) == 3 && (((rd_T76 t168 0).f4) == 0))))) = true then (if 1 < (t168.length : Int) then (if (((rd_T76 t168 1).f0) == 2 && (((rd_T76 t168 1).f1) == 5 && (((rd_T76 t168 1).f2) == 2 && (((rd_T76 t168 1).f3) == 0 && (((rd_T76 t168 1).f4) == 9))))) = true then (if 2 < (t168.length : Int) then (if (((rd_T76 t168 2).f0) == 3 && (((rd_T76 t168 2).f1) == 5 && (((rd_T76 t168 2).f2) == 0 && (((rd_T76 t168 2).f3) == 0 && (((rd_T76 t168 2).f4) == 0))))) = true then ((orders_Jobs.f t168).bind fun t174 => (if (t174.length : Int) = 0 then (if 2 ≤ (t168.length : Int) then ((orders_Jobs.f (t168.take 2)).bind fun t181 => (if (t181.length : Int) = 1 then ((orders_Timers.f (t168.take 2)).bind fun t188 => (some ((t188.length : Int) == 1))) else (some false))) else (none)) else (some false))) else (some false)) else (none)) else (some false)) else (none)) else (some false)) else (none)) else (some false))) = some true := h
 clear h
 obtain ⟨y161, hy161⟩ : ∃ y_ : List (S86), y_ = (([(⟨3, 0, 3, 0, (⟨#[]⟩ : ByteArray)⟩ : S86), (⟨8, 0, 0, 1, (⟨#[80, 84, 57, 83]⟩ : ByteArray)⟩ : S86)] : List (S86))) := ⟨_, rfl⟩
 replace H : ((orders_Of.f k (⟨#[]⟩ : ByteArray) y161 ([] : List (S51)) (([(⟨2, 0, 1, 5⟩ : S83), (⟨1, 0, 0, 0⟩ : S83), (⟨3, 0, 2, 5⟩ : S83), (⟨4, 0, 0, 5⟩ : S83)] : List (S83)))).bind fun t168 => (if (t168.length : Int) = 3 then (if 0 < (t168.length : Int) then (if (((rd_T76 t168 0).f0) == 1 && (((rd_T76 t168 0).f1) == 5 && (((rd_T76 t168 0).f2) == 1 && (((rd_T76 t168 0).f3) == 3 && (((rd_T76 t168 0).f4) == 0))))) = true then (if 1 < (t168.length : Int) then (if (((rd_T76 t168 1).f0) == 2 && (((rd_T76 t168 1).f1) == 5 && (((rd_T76 t168 1).f2) == 2 && (((rd_T76 t168 1).f3) == 0 && (((rd_T76 t168 1).f4) == 9))))) = true then (if 2 < (t168.length : Int) then (if (((rd_T76 t168 2).f0) == 3 && (((rd_T76 t168 2).f1) == 5 && (((rd_T76 t168 2).f2) == 0 && (((rd_T76 t168 2).f3) == 0 && (((rd_T76 t168 2).f4) == 0))))) = true then ((orders_Jobs.f t168).bind fun t174 => (if (t174.length : Int) = 0 then (if 2 ≤ (t168.length : Int) then ((orders_Jobs.f (t168.take 2)).bind fun t181 => (if (t181.length : Int) = 1 then ((orders_Timers.f (t168.take 2)).bind fun t188 => (some ((t188.length : Int) == 1))) else (some false))) else (none)) else (some false))) else (some false)) else (none)) else (some false)) else (none)) else (some false)) else (none)) else (some false))) = some true := by first | (rw [hy161]; with_reducible exact H) | (have H2_ := (Option.bind_some _ _).symm.trans H; rw [hy161]; with_reducible exact H2_) | (have H2_ := (Option.bind_some _ _).symm.trans H; with_reducible exact H2_) | with_reducible exact H | (rw [hy161]; exact H) | exact H
 have Ny161 := Aside0.mk hy161
 clear hy161
 obtain ⟨y165, hy165⟩ : ∃ y_ : List (S83), y_ = (([(⟨2, 0, 1, 5⟩ : S83), (⟨1, 0, 0, 0⟩ : S83), (⟨3, 0, 2, 5⟩ : S83), (⟨4, 0, 0, 5⟩ : S83)] : List (S83))) := ⟨_, rfl⟩
 replace H : ((orders_Of.f k (⟨#[]⟩ : ByteArray) y161 ([] : List (S51)) y165).bind fun t168 => (if (t168.length : Int) = 3 then (if 0 < (t168.length : Int) then (if (((rd_T76 t168 0).f0) == 1 && (((rd_T76 t168 0).f1) == 5 && (((rd_T76 t168 0).f2) == 1 && (((rd_T76 t168 0).f3) == 3 && (((rd_T76 t168 0).f4) == 0))))) = true then (if 1 < (t168.length : Int) then (if (((rd_T76 t168 1).f0) == 2 && (((rd_T76 t168 1).f1) == 5 && (((rd_T76 t168 1).f2) == 2 && (((rd_T76 t168 1).f3) == 0 && (((rd_T76 t168 1).f4) == 9))))) = true then (if 2 < (t168.length : Int) then (if (((rd_T76 t168 2).f0) == 3 && (((rd_T76 t168 2).f1) == 5 && (((rd_T76 t168 2).f2) == 0 && (((rd_T76 t168 2).f3) == 0 && (((rd_T76 t168 2).f4) == 0))))) = true then ((orders_Jobs.f t168).bind fun t174 => (if (t174.length : Int) = 0 then (if 2 ≤ (t168.length : Int) then ((orders_Jobs.f (t168.take 2)).bind fun t181 => (if (t181.length : Int) = 1 then ((orders_Timers.f (t168.take 2)).bind fun t188 => (some ((t188.length : Int) == 1))) else (some false))) else (none)) else (some false))) else (some false)) else (none)) else (some false)) else (none)) else (some false)) else (none)) else (some false))) = some true := by first | (rw [hy165]; with_reducible exact H) | (have H2_ := (Option.bind_some _ _).symm.trans H; rw [hy165]; with_reducible exact H2_) | (have H2_ := (Option.bind_some _ _).symm.trans H; with_reducible exact H2_) | with_reducible exact H | (rw [hy165]; exact H) | exact H
 have Ny165 := Aside0.mk hy165
 clear hy165
 replace H := Option.bind_eq_some_iff.mp H
 obtain ⟨t168, A10, H⟩ := H
 replace H : (if (t168.length : Int) = 3 then (if 0 < (t168.length : Int) then (if (((rd_T76 t168 0).f0) == 1 && (((rd_T76 t168 0).f1) == 5 && (((rd_T76 t168 0).f2) == 1 && (((rd_T76 t168 0).f3) == 3 && (((rd_T76 t168 0).f4) == 0))))) = true then (if 1 < (t168.length : Int) then (if (((rd_T76 t168 1).f0) == 2 && (((rd_T76 t168 1).f1) == 5 && (((rd_T76 t168 1).f2) == 2 && (((rd_T76 t168 1).f3) == 0 && (((rd_T76 t168 1).f4) == 9))))) = true then (if 2 < (t168.length : Int) then (if (((rd_T76 t168 2).f0) == 3 && (((rd_T76 t168 2).f1) == 5 && (((rd_T76 t168 2).f2) == 0 && (((rd_T76 t168 2).f3) == 0 && (((rd_T76 t168 2).f4) == 0))))) = true then ((orders_Jobs.f t168).bind fun t174 => (if (t174.length : Int) = 0 then (if 2 ≤ (t168.length : Int) then ((orders_Jobs.f (t168.take 2)).bind fun t181 => (if (t181.length : Int) = 1 then ((orders_Timers.f (t168.take 2)).bind fun t188 => (some ((t188.length : Int) == 1))) else (some false))) else (none)) else (some false))) else (some false)) else (none)) else (some false)) else (none)) else (some false)) else (none)) else (some false)) = some true := H
 have A1 := Aside0.mk A10
 clear A10
 by_cases c2 : (t168.length : Int) = 3
 ·rw [if_pos c2] at H
  have c2b0 : ((t168.length : Int) == 3) = true := beq_iff_eq.mpr c2
  have c2b1 : ((t168.length : Int) != 3) = false := bne_eq_false_iff_eq.mpr c2
  clear c2
  by_cases c3 : 0 < (t168.length : Int)
  ·rw [if_pos c3] at H
   have c3b0 : decide (0 < (t168.length : Int)) = true := decide_eq_true c3
   have c3b1 : decide (0 < t168.length) = true := decide_eq_true (by omega)
   clear c3
   by_cases c4 : (((rd_T76 t168 0).f0) == 1 && (((rd_T76 t168 0).f1) == 5 && (((rd_T76 t168 0).f2) == 1 && (((rd_T76 t168 0).f3) == 3 && (((rd_T76 t168 0).f4) == 0))))) = true
   ·rw [if_pos c4] at H
    have c4b0 : (((rd_T76 t168 0).f0) == 1 && (((rd_T76 t168 0).f1) == 5 && (((rd_T76 t168 0).f2) == 1 && (((rd_T76 t168 0).f3) == 3 && (((rd_T76 t168 0).f4) == 0))))) = true := c4
    (try (have c4b1 : decide (((rd_T76 t168 0).f0) = 1 && (((rd_T76 t168 0).f1) == 5 && (((rd_T76 t168 0).f2) == 1 && (((rd_T76 t168 0).f3) == 3 && (((rd_T76 t168 0).f4) == 0))))) = true := by simpa using c4))
    (try (have c4b2 : (((rd_T76 t168 0).f0) == 1 && (((rd_T76 t168 0).f1) == 5 && (((rd_T76 t168 0).f2) == 1 && (((rd_T76 t168 0).f3) == 3 && (((rd_T76 t168 0).f4) == 0))))) = true := by simpa using c4))
    clear c4
    by_cases c5 : 1 < (t168.length : Int)
    ·rw [if_pos c5] at H
     have c5b0 : decide (1 < (t168.length : Int)) = true := decide_eq_true c5
     have c5b1 : decide (1 < t168.length) = true := decide_eq_true (by omega)
     clear c5
     by_cases c6 : (((rd_T76 t168 1).f0) == 2 && (((rd_T76 t168 1).f1) == 5 && (((rd_T76 t168 1).f2) == 2 && (((rd_T76 t168 1).f3) == 0 && (((rd_T76 t168 1).f4) == 9))))) = true
     ·rw [if_pos c6] at H
      have c6b0 : (((rd_T76 t168 1).f0) == 2 && (((rd_T76 t168 1).f1) == 5 && (((rd_T76 t168 1).f2) == 2 && (((rd_T76 t168 1).f3) == 0 && (((rd_T76 t168 1).f4) == 9))))) = true := c6
      (try (have c6b1 : decide (((rd_T76 t168 1).f0) = 2 && (((rd_T76 t168 1).f1) == 5 && (((rd_T76 t168 1).f2) == 2 && (((rd_T76 t168 1).f3) == 0 && (((rd_T76 t168 1).f4) == 9))))) = true := by simpa using c6))
      (try (have c6b2 : (((rd_T76 t168 1).f0) == 2 && (((rd_T76 t168 1).f1) == 5 && (((rd_T76 t168 1).f2) == 2 && (((rd_T76 t168 1).f3) == 0 && (((rd_T76 t168 1).f4) == 9))))) = true := by simpa using c6))
      clear c6
      by_cases c7 : 2 < (t168.length : Int)
      ·rw [if_pos c7] at H
       have c7b0 : decide (2 < (t168.length : Int)) = true := decide_eq_true c7
       have c7b1 : decide (2 < t168.length) = true := decide_eq_true (by omega)
       clear c7
       by_cases c8 : (((rd_T76 t168 2).f0) == 3 && (((rd_T76 t168 2).f1) == 5 && (((rd_T76 t168 2).f2) == 0 && (((rd_T76 t168 2).f3) == 0 && (((rd_T76 t168 2).f4) == 0))))) = true
       ·rw [if_pos c8] at H
        have c8b0 : (((rd_T76 t168 2).f0) == 3 && (((rd_T76 t168 2).f1) == 5 && (((rd_T76 t168 2).f2) == 0 && (((rd_T76 t168 2).f3) == 0 && (((rd_T76 t168 2).f4) == 0))))) = true := c8
        (try (have c8b1 : decide (((rd_T76 t168 2).f0) = 3 && (((rd_T76 t168 2).f1) == 5 && (((rd_T76 t168 2).f2) == 0 && (((rd_T76 t168 2).f3) == 0 && (((rd_T76 t168 2).f4) == 0))))) = true := by simpa using c8))
        (try (have c8b2 : (((rd_T76 t168 2).f0) == 3 && (((rd_T76 t168 2).f1) == 5 && (((rd_T76 t168 2).f2) == 0 && (((rd_T76 t168 2).f3) == 0 && (((rd_T76 t168 2).f4) == 0))))) = true := by simpa using c8))
        clear c8
        replace H := Option.bind_eq_some_iff.mp H
        obtain ⟨t174, A90, H⟩ := H
        replace H : (if (t174.length : Int) = 0 then (if 2 ≤ (t168.length : Int) then ((orders_Jobs.f (t168.take 2)).bind fun t181 => (if (t181.length : Int) = 1 then ((orders_Timers.f (t168.take 2)).bind fun t188 => (some ((t188.length : Int) == 1))) else (some false))) else (none)) else (some false)) = some true := H
        have A9 := Aside0.mk A90
        clear A90
        by_cases c10 : (t174.length : Int) = 0
        ·rw [if_pos c10] at H
         have c10b0 : ((t174.length : Int) == 0) = true := beq_iff_eq.mpr c10
         have c10b1 : ((t174.length : Int) != 0) = false := bne_eq_false_iff_eq.mpr c10
         clear c10
         by_cases c11 : 2 ≤ (t168.length : Int)
         ·rw [if_pos c11] at H
          have c11b0 := eq_true c11
          have c11b1 : decide (2 ≤ (t168.length : Int)) = true := decide_eq_true c11
          clear c11
          obtain ⟨y177, hy177⟩ : ∃ y_ : List (S76), y_ = (t168.take 2) := ⟨_, rfl⟩
          replace H : ((orders_Jobs.f y177).bind fun t181 => (if (t181.length : Int) = 1 then ((orders_Timers.f (t168.take 2)).bind fun t188 => (some ((t188.length : Int) == 1))) else (some false))) = some true := by first | (rw [hy177]; with_reducible exact H) | (have H2_ := (Option.bind_some _ _).symm.trans H; rw [hy177]; with_reducible exact H2_) | (have H2_ := (Option.bind_some _ _).symm.trans H; with_reducible exact H2_) | with_reducible exact H | (rw [hy177]; exact H) | exact H
          have Ny177 := Aside0.mk hy177
          clear hy177
          replace H := Option.bind_eq_some_iff.mp H
          obtain ⟨t181, A120, H⟩ := H
          replace H : (if (t181.length : Int) = 1 then ((orders_Timers.f (t168.take 2)).bind fun t188 => (some ((t188.length : Int) == 1))) else (some false)) = some true := H
          have A12 := Aside0.mk A120
          clear A120
          by_cases c13 : (t181.length : Int) = 1
          ·rw [if_pos c13] at H
           have c13b0 : ((t181.length : Int) == 1) = true := beq_iff_eq.mpr c13
           have c13b1 : ((t181.length : Int) != 1) = false := bne_eq_false_iff_eq.mpr c13
           clear c13
           have c14b0 := eq_true (of_decide_eq_true (by first | (with_reducible assumption) | assumption) : 2 ≤ (t168.length : Int))
           have hy184 := Ny177.out
           replace H : ((orders_Timers.f y177).bind fun t188 => (some ((t188.length : Int) == 1))) = some true := by first | (rw [hy184]; with_reducible exact H) | (have H2_ := (Option.bind_some _ _).symm.trans H; rw [hy184]; with_reducible exact H2_) | (have H2_ := (Option.bind_some _ _).symm.trans H; with_reducible exact H2_) | with_reducible exact H | (rw [hy184]; exact H) | exact H
           have Ny184 := Aside0.mk hy184
           clear hy184
           replace H := Option.bind_eq_some_iff.mp H
           obtain ⟨t188, A150, H⟩ := H
           replace H : (some ((t188.length : Int) == 1)) = some true := H
           have A15 := Aside0.mk A150
           clear A150
           rw [← Option.some.inj H]
           go_enter Tryz.func11, Tryz.ntmps11
           go_wp2_with (first | ((with_reducible refine gate_dst (N := 5) rfl ?_); (try (refine gate_guard (by rfl) ?_; dsimp only)); refine Kd.R_lit k86 _ 86 ?hg (N := 5) ?hd (xs := ([(⟨3, 0, 3, 0, (⟨#[]⟩ : ByteArray)⟩ : S86), (⟨8, 0, 0, 1, (⟨#[80, 84, 57, 83]⟩ : ByteArray)⟩ : S86)] : List (S86))) (inner := [.int .i64 3, .int .i64 0, .int .i64 3, .int .i64 0, .string (⟨#[]⟩ : ByteArray), .int .i64 8, .int .i64 0, .int .i64 0, .int .i64 1, .string (⟨#[80, 84, 57, 83]⟩ : ByteArray)]) (ok := fun _ => True) (okp := fun _ => True) ?hr ?hp (fun _ hk => hk) trivial (Below.refl _ _) (Nat.le_refl _) (by simp) ?_; (case hd => rfl); (case hg => rfl); (case hr => first | (go_simp; done) | (go_simp; rfl)); (case hp => exact (Reps.c5 (show Kd.M k86 _ _ _ (⟨3, 0, 3, 0, (⟨#[]⟩ : ByteArray)⟩ : S86) [.int .i64 3, .int .i64 0, .int .i64 3, .int .i64 0, .string (⟨#[]⟩ : ByteArray)] from (k86_mkM _ _ _ (⟨3, 0, 3, 0, (⟨#[]⟩ : ByteArray)⟩ : S86) )) (Reps.c5 (show Kd.M k86 _ _ _ (⟨8, 0, 0, 1, (⟨#[80, 84, 57, 83]⟩ : ByteArray)⟩ : S86) [.int .i64 8, .int .i64 0, .int .i64 0, .int .i64 1, .string (⟨#[80, 84, 57, 83]⟩ : ByteArray)] from (k86_mkM _ _ _ (⟨8, 0, 0, 1, (⟨#[80, 84, 57, 83]⟩ : ByteArray)⟩ : S86) )) (Reps.none _ _)))); intro v162 w16 ho17 hb hg_ hnew_; clear hg_ hnew_; (first | rw [← Ny161.out] at ho17 | (simp only [Int.reduceToNat] at ho17; rw [← Ny161.out] at ho17)); have n0_ := Aside0.mk (Kd.R_lower ho17 (bsz (by repeat (first | (with_reducible first | exact HB.out | apply bal | apply pbN | apply bd1) | exact HB.out)))); have n1_ := Aside0.mk (bsp (by repeat (first | (with_reducible first | exact HB.out | apply bal | apply pbN | apply bd1) | exact HB.out)) hb); clear HB; have HO163 := n0_; have HB := n1_; clear n0_ n1_; clear hb ho17; obtain ⟨Ao18, co18, eo18⟩ := Kd.R_slice HO163.out; subst eo18) | ((with_reducible refine gate_dst (N := 1) rfl ?_); (try (refine gate_guard (by rfl) ?_; dsimp only)); refine box_event ?hg (N := 1) ?hd (cs := #[.string (⟨#[]⟩ : ByteArray), .slice none 0 0, .slice none 0 0]) (t := 25) ?hr ?_; (case hd => rfl); (case hg => rfl); (case hr => first | (go_simp; done) | (go_simp; rfl)); intro gb164 hg w19 hbox hb; have n0_ := Aside0.mk (Kd.R_below (by (with_reducible repeat (first | apply Kd.R_alloc | apply Kd.R_drewN | apply Kd.R_drew)); exact HO163.out) hb); have n1_ := Aside0.mk (bsp (by repeat (first | (with_reducible first | exact HB.out | apply bal | apply pbN | apply bd1) | exact HB.out)) hb); have n2_ := Aside0.mk (hbox); have n3_ := Aside0.mk ((by rw [hg]; exact (bsz (by repeat (first | (with_reducible first | exact HB.out | apply bal | apply pbN | apply bd1) | exact HB.out))) : w.heap.size ≤ gb164)); have n4_ := Aside0.mk ((by rw [hg]; exact (bsz (by repeat (first | (with_reducible first | exact HB.out | apply bal | apply pbN | apply bd1) | exact HB.out))) : w.heap.size ≤ gb164)); clear HO163; clear HB; have HO163 := n0_; have HB := n1_; have BK164 := n2_; have GW164 := n3_; have GE164 := n4_; clear n0_ n1_ n2_ n3_ n4_; clear hb hbox hg; have hcz20_0 : w19.cell? ⟨gb164, 0, none⟩ = some (.string (⟨#[]⟩ : ByteArray)) := (bce BK164.out 0).trans rfl; have hcz20_1 : w19.cell? ⟨gb164, 1, none⟩ = some (.slice none 0 0) := (bce BK164.out 1).trans rfl; have hcz20_2 : w19.cell? ⟨gb164, 2, none⟩ = some (.slice none 0 0) := (bce BK164.out 2).trans rfl; have hfz20_0 := bfz BK164.out 0; have hfz20_1 := bfz BK164.out 1; have hfz20_2 := bfz BK164.out 2) | ((with_reducible refine gate_dst (N := 12) rfl ?_); (try (refine gate_guard (by rfl) ?_; dsimp only)); refine Kd.R_lit k83 _ 83 ?hg (N := 12) ?hd (xs := ([(⟨2, 0, 1, 5⟩ : S83), (⟨1, 0, 0, 0⟩ : S83), (⟨3, 0, 2, 5⟩ : S83), (⟨4, 0, 0, 5⟩ : S83)] : List (S83))) (inner := [.int .i64 2, .int .i64 0, .int .i64 1, .int .i64 5, .int .i64 1, .int .i64 0, .int .i64 0, .int .i64 0, .int .i64 3, .int .i64 0, .int .i64 2, .int .i64 5, .int .i64 4, .int .i64 0, .int .i64 0, .int .i64 5]) (ok := fun _ => True) (okp := fun _ => True) ?hr ?hp (fun _ hk => hk) trivial (Below.refl _ _) (Nat.le_refl _) (by simp) ?_; (case hd => rfl); (case hg => rfl); (case hr => first | (go_simp; done) | (go_simp; rfl)); (case hp => exact (Reps.c4 (show Kd.M k83 _ _ _ (⟨2, 0, 1, 5⟩ : S83) [.int .i64 2, .int .i64 0, .int .i64 1, .int .i64 5] from (k83_mkM _ _ _ (⟨2, 0, 1, 5⟩ : S83) )) (Reps.c4 (show Kd.M k83 _ _ _ (⟨1, 0, 0, 0⟩ : S83) [.int .i64 1, .int .i64 0, .int .i64 0, .int .i64 0] from (k83_mkM _ _ _ (⟨1, 0, 0, 0⟩ : S83) )) (Reps.c4 (show Kd.M k83 _ _ _ (⟨3, 0, 2, 5⟩ : S83) [.int .i64 3, .int .i64 0, .int .i64 2, .int .i64 5] from (k83_mkM _ _ _ (⟨3, 0, 2, 5⟩ : S83) )) (Reps.c4 (show Kd.M k83 _ _ _ (⟨4, 0, 0, 5⟩ : S83) [.int .i64 4, .int .i64 0, .int .i64 0, .int .i64 5] from (k83_mkM _ _ _ (⟨4, 0, 0, 5⟩ : S83) )) (Reps.none _ _)))))); intro v166 w21 ho22 hb hg_ hnew_; clear hg_ hnew_; (first | rw [← Ny165.out] at ho22 | (simp only [Int.reduceToNat] at ho22; rw [← Ny165.out] at ho22)); have n0_ := Aside0.mk (Kd.R_below (by (with_reducible repeat (first | apply Kd.R_alloc | apply Kd.R_drewN | apply Kd.R_drew)); exact (Kd.R_mono (Kd.R_far (p := ⟨gb164, 2, none⟩) (Kd.R_far (p := ⟨gb164, 1, none⟩) (Kd.R_far (p := ⟨gb164, 0, none⟩) (Kd.R_types HO163.out BK164.out (by decide)) (fun _ hk => hk.2) (.string (⟨#[]⟩ : ByteArray))) (fun _ hk => hk.2) (.slice Ao18 y161.length co18)) (fun _ hk => hk.2) (.slice none 0 0)) (fun _ h_ => h_.1))) hb); have n1_ := Aside0.mk (Kd.R_lower ho22 (bsz (by repeat (first | (with_reducible first | exact HB.out | apply bal | apply pbN | apply bd1 | refine bst ?_ GE164.out) | exact HB.out)))); have n2_ := Aside0.mk (bbe (g := gb164) (o := .cells #[.string (⟨#[]⟩ : ByteArray), .slice Ao18 y161.length co18, .slice none 0 0] 25 (0, 0)) (by (with_reducible repeat (first | refine bkn ?_ _ | refine bkd ?_ | refine bka ?_ _)); refine blk_put (cs := #[.string (⟨#[]⟩ : ByteArray), .slice Ao18 y161.length co18, .slice none 0 0]) ?_ 2 _ rfl; (with_reducible repeat (first | refine bkn ?_ _ | refine bkd ?_ | refine bka ?_ _)); refine blk_put (cs := #[.string (⟨#[]⟩ : ByteArray), .slice none 0 0, .slice none 0 0]) ?_ 1 _ rfl; (with_reducible repeat (first | refine bkn ?_ _ | refine bkd ?_ | refine bka ?_ _)); refine blk_put (cs := #[.string (⟨#[]⟩ : ByteArray), .slice none 0 0, .slice none 0 0]) ?_ 0 _ rfl; (with_reducible repeat (first | refine bkn ?_ _ | refine bkd ?_ | refine bka ?_ _)); exact BK164.out) hb); have n3_ := Aside0.mk (bsp (by repeat (first | (with_reducible first | exact HB.out | apply bal | apply pbN | apply bd1 | refine bst ?_ GE164.out) | exact HB.out)) hb); clear HO163; clear BK164; clear HB; have HO163 := n0_; have HO167 := n1_; have BK164 := n2_; have HB := n3_; clear n0_ n1_ n2_ n3_; clear hb ho22; obtain ⟨Ao23, co23, eo23⟩ := Kd.R_slice HO167.out; subst eo23) | ((with_reducible refine gate_callee (f := 13) rfl ?_); refine goesL_ (some 13) rfl rfl Tryz.func13 (by kernel_rfl) rfl #[.agg #[.string (⟨#[]⟩ : ByteArray), .slice Ao18 y161.length co18, .slice none 0 0], .slice Ao23 y165.length co23] rfl (by (try simp only [List.map_toArray, List.map_cons, List.map_nil]); first | done | rfl | (simp only [List.length_drop, List.length_take]; rfl)) ?_; (refine (orders_Of.calls k (⟨#[]⟩ : ByteArray) _ _ y161 _ _ ([] : List (S51)) _ _ y165 t168 _ ?side1 ?side2 ?side3 ?side4 ?side5 ?side6 A1.out).mono ?_); (case side1 => repeat (first | exact (Kd.R_reads' HO163.out).2.2 | (with_reducible refine Kd.C_alloc ?_ _) | (with_reducible refine Kd.C_drewN ?_ _) | (with_reducible refine Kd.C_drew ?_))); (case side2 => exact (Kd.R_reads' HO163.out).2.1); (case side3 => exact Kd.C_nil _ _); (case side4 => exact Nat.le_refl _); (case side5 => repeat (first | exact (Kd.R_reads' HO167.out).2.2 | (with_reducible refine Kd.C_alloc ?_ _) | (with_reducible refine Kd.C_drewN ?_ _) | (with_reducible refine Kd.C_drew ?_))); (case side6 => exact (Kd.R_reads' HO167.out).2.1); rintro e w24 ⟨v169, rfl, ho0, hb⟩; refine ⟨_, rfl, ?_⟩; have n0_ := Aside0.mk (Kd.R_below (by (with_reducible repeat (first | apply Kd.R_alloc | apply Kd.R_drewN | apply Kd.R_drew)); exact HO163.out) hb); have n1_ := Aside0.mk (Kd.R_below (by (with_reducible repeat (first | apply Kd.R_alloc | apply Kd.R_drewN | apply Kd.R_drew)); exact HO167.out) hb); have n2_ := Aside0.mk (Kd.R_lower ho0 (bsz (by repeat (first | (with_reducible first | exact HB.out | apply bal | apply pbN | apply bd1 | refine bst ?_ GE164.out) | exact HB.out)))); have n3_ := Aside0.mk (bbe (g := gb164) (o := .cells #[.string (⟨#[]⟩ : ByteArray), .slice Ao18 y161.length co18, .slice none 0 0] 25 (0, 0)) (by (with_reducible repeat (first | refine bkn ?_ _ | refine bkd ?_ | refine bka ?_ _)); exact BK164.out) hb); have n4_ := Aside0.mk (bsp (by repeat (first | (with_reducible first | exact HB.out | apply bal | apply pbN | apply bd1 | refine bst ?_ GE164.out) | exact HB.out)) hb); clear HO163; clear HO167; clear BK164; clear HB; have HO163 := n0_; have HO167 := n1_; have HO170 := n2_; have BK164 := n3_; have HB := n4_; clear n0_ n1_ n2_ n3_ n4_; (try clear hb); (try clear hb2); (try clear hk); (try clear hi); (try clear ho0); obtain ⟨Ao25, co25, eo25⟩ := Kd.R_slice HO170.out; subst eo25; have p171 : 0 ≤ (0 : Int) := (by omega); have q171 : 0 < (t168.length : Int) := of_decide_eq_true (by first | (with_reducible assumption) | assumption); obtain ⟨ad171, e171, hx171_0, hx171_1, hx171_2, hx171_3, hx171_4⟩ := at_T76 (Kd.R_reads' HO170.out).2.2 0 p171 q171; cases e171; have qi171 : (0 < t168.length) = True := eq_true (by omega); (try rw [show ((0 : Int)).toNat = 0 from rfl] at hx171_0); (try rw [show 0 * 5 = 0 from rfl] at hx171_0); (try rw [Addr.add_zero'] at hx171_0); (try rw [show ((0 : Int)).toNat = 0 from rfl] at hx171_1); (try rw [show 0 * 5 = 0 from rfl] at hx171_1); (try rw [Addr.add_zero'] at hx171_1); (try rw [show ((0 : Int)).toNat = 0 from rfl] at hx171_2); (try rw [show 0 * 5 = 0 from rfl] at hx171_2); (try rw [Addr.add_zero'] at hx171_2); (try rw [show ((0 : Int)).toNat = 0 from rfl] at hx171_3); (try rw [show 0 * 5 = 0 from rfl] at hx171_3); (try rw [Addr.add_zero'] at hx171_3); (try rw [show ((0 : Int)).toNat = 0 from rfl] at hx171_4); (try rw [show 0 * 5 = 0 from rfl] at hx171_4); (try rw [Addr.add_zero'] at hx171_4); replace p171 := eq_true p171; replace q171 := eq_true q171; have p172 : 0 ≤ (1 : Int) := (by omega); have q172 : 1 < (t168.length : Int) := of_decide_eq_true (by first | (with_reducible assumption) | assumption); obtain ⟨ad172, e172, hx172_0, hx172_1, hx172_2, hx172_3, hx172_4⟩ := at_T76 (Kd.R_reads' HO170.out).2.2 1 p172 q172; obtain rfl : ad171 = ad172 := (by injection e172); (try simp only [show (1 : Int).toNat = 1 from rfl, Nat.reduceMul, Nat.reduceEqDiff, Go.Addr.add, ↓reduceIte] at hx172_0); (try simp only [show (1 : Int).toNat = 1 from rfl, Nat.reduceMul, Nat.reduceEqDiff, Go.Addr.add, ↓reduceIte] at hx172_1); (try simp only [show (1 : Int).toNat = 1 from rfl, Nat.reduceMul, Nat.reduceEqDiff, Go.Addr.add, ↓reduceIte] at hx172_2); (try simp only [show (1 : Int).toNat = 1 from rfl, Nat.reduceMul, Nat.reduceEqDiff, Go.Addr.add, ↓reduceIte] at hx172_3); (try simp only [show (1 : Int).toNat = 1 from rfl, Nat.reduceMul, Nat.reduceEqDiff, Go.Addr.add, ↓reduceIte] at hx172_4); have qi172 : (1 < t168.length) = True := eq_true (by omega); (try rw [show ((1 : Int)).toNat = 1 from rfl] at hx172_0); (try rw [show 1 * 5 = 5 from rfl] at hx172_0); (try rw [show ((1 : Int)).toNat = 1 from rfl] at hx172_1); (try rw [show 1 * 5 = 5 from rfl] at hx172_1); (try rw [show ((1 : Int)).toNat = 1 from rfl] at hx172_2); (try rw [show 1 * 5 = 5 from rfl] at hx172_2); (try rw [show ((1 : Int)).toNat = 1 from rfl] at hx172_3); (try rw [show 1 * 5 = 5 from rfl] at hx172_3); (try rw [show ((1 : Int)).toNat = 1 from rfl] at hx172_4); (try rw [show 1 * 5 = 5 from rfl] at hx172_4); replace p172 := eq_true p172; replace q172 := eq_true q172; have p173 : 0 ≤ (2 : Int) := (by omega); have q173 : 2 < (t168.length : Int) := of_decide_eq_true (by first | (with_reducible assumption) | assumption); obtain ⟨ad173, e173, hx173_0, hx173_1, hx173_2, hx173_3, hx173_4⟩ := at_T76 (Kd.R_reads' HO170.out).2.2 2 p173 q173; obtain rfl : ad171 = ad173 := (by injection e173); (try simp only [show (2 : Int).toNat = 2 from rfl, Nat.reduceMul, Nat.reduceEqDiff, Go.Addr.add, ↓reduceIte] at hx173_0); (try simp only [show (2 : Int).toNat = 2 from rfl, Nat.reduceMul, Nat.reduceEqDiff, Go.Addr.add, ↓reduceIte] at hx173_1); (try simp only [show (2 : Int).toNat = 2 from rfl, Nat.reduceMul, Nat.reduceEqDiff, Go.Addr.add, ↓reduceIte] at hx173_2); (try simp only [show (2 : Int).toNat = 2 from rfl, Nat.reduceMul, Nat.reduceEqDiff, Go.Addr.add, ↓reduceIte] at hx173_3); (try simp only [show (2 : Int).toNat = 2 from rfl, Nat.reduceMul, Nat.reduceEqDiff, Go.Addr.add, ↓reduceIte] at hx173_4); have qi173 : (2 < t168.length) = True := eq_true (by omega); (try rw [show ((2 : Int)).toNat = 2 from rfl] at hx173_0); (try rw [show 2 * 5 = 10 from rfl] at hx173_0); (try rw [show ((2 : Int)).toNat = 2 from rfl] at hx173_1); (try rw [show 2 * 5 = 10 from rfl] at hx173_1); (try rw [show ((2 : Int)).toNat = 2 from rfl] at hx173_2); (try rw [show 2 * 5 = 10 from rfl] at hx173_2); (try rw [show ((2 : Int)).toNat = 2 from rfl] at hx173_3); (try rw [show 2 * 5 = 10 from rfl] at hx173_3); (try rw [show ((2 : Int)).toNat = 2 from rfl] at hx173_4); (try rw [show 2 * 5 = 10 from rfl] at hx173_4); replace p173 := eq_true p173; replace q173 := eq_true q173) | (go_at_call 16; (with_reducible refine (orders_Jobs.calls _ _ t168 t174 _ ?side1 ?side2 A9.out).mono ?_); (case side1 => repeat (first | exact (Kd.R_reads' HO170.out).2.2 | (with_reducible refine Kd.C_alloc ?_ _) | (with_reducible refine Kd.C_drewN ?_ _) | (with_reducible refine Kd.C_drew ?_))); (case side2 => exact (Kd.R_reads' HO170.out).2.1); rintro e w26 ⟨v175, rfl, ho0, hb⟩; have n0_ := Aside0.mk (Kd.R_below (by (with_reducible repeat (first | apply Kd.R_alloc | apply Kd.R_drewN | apply Kd.R_drew)); exact HO163.out) hb); have n1_ := Aside0.mk (Kd.R_below (by (with_reducible repeat (first | apply Kd.R_alloc | apply Kd.R_drewN | apply Kd.R_drew)); exact HO167.out) hb); have n2_ := Aside0.mk (Kd.R_below (by (with_reducible repeat (first | apply Kd.R_alloc | apply Kd.R_drewN | apply Kd.R_drew)); exact HO170.out) hb); have n3_ := Aside0.mk (Kd.R_lower ho0 (bsz (by repeat (first | (with_reducible first | exact HB.out | apply bal | apply pbN | apply bd1 | refine bst ?_ GE164.out) | exact HB.out)))); have n4_ := Aside0.mk (bbe (g := gb164) (o := .cells #[.string (⟨#[]⟩ : ByteArray), .slice Ao18 y161.length co18, .slice none 0 0] 25 (0, 0)) (by (with_reducible repeat (first | refine bkn ?_ _ | refine bkd ?_ | refine bka ?_ _)); exact BK164.out) hb); have n5_ := Aside0.mk (bsp (by repeat (first | (with_reducible first | exact HB.out | apply bal | apply pbN | apply bd1 | refine bst ?_ GE164.out) | exact HB.out)) hb); clear HO163; clear HO167; clear HO170; clear BK164; clear HB; have HO163 := n0_; have HO167 := n1_; have HO170 := n2_; have HO176 := n3_; have BK164 := n4_; have HB := n5_; clear n0_ n1_ n2_ n3_ n4_ n5_; (try clear hb); (try clear hb2); (try clear hk); (try clear hi); (try clear ho0); obtain ⟨Ao27, co27, eo27⟩ := Kd.R_slice HO176.out; subst eo27; have q28 : (2 : Int) ≤ ((t168.length : Int) : Int) := of_decide_eq_true (by first | (with_reducible assumption) | assumption); obtain ⟨i028, hi028, _, hsz28, _⟩ := info_parts info76; have hroom28 : t168.length ≤ co25 := (Kd.R_reads' HO170.out).2.1; have hC28 : Kd.C k76 _ (some ad171) t168.length t168 := (Kd.R_reads' HO170.out).2.2; have hcut28 := cut_to (P := Tryz.prog) 27 76 .i64 Tryz.underlying27 hi028 (some ad171) t168.length co25 2 (by omega) q28 hroom28; have hr28 := Kd.C_take (m := 2) hC28 (by omega); have hy28 : y177.length = (2 : Int).toNat := (by rw [Ny177.out, List.length_take]; omega); rw [← Ny177.out] at hr28; rw [← hy28] at hcut28; have HR180 := Aside0.mk hr28; have HC180 := Aside0.mk (show y177.length ≤ co25 from by omega); clear hr28 hC28 hroom28 hi028 hsz28; have KY28 := Aside0.mk hy28; clear hy28; have KL28 := Aside0.mk (show 2 ≤ t168.length from by omega); replace q28 := eq_true q28) | (go_at_call 16; (with_reducible refine (orders_Jobs.calls _ _ y177 t181 _ ?side1 ?side2 A12.out).mono ?_); (case side1 => repeat (first | exact (by repeat (first | (with_reducible exact HR180.out) | (with_reducible refine Kd.C_alloc ?_ _) | (with_reducible refine Kd.C_drewN ?_ _) | (with_reducible refine Kd.C_drew ?_) | exact HR180.out)) | (with_reducible refine Kd.C_alloc ?_ _) | (with_reducible refine Kd.C_drewN ?_ _) | (with_reducible refine Kd.C_drew ?_))); (case side2 => exact HC180.out); rintro e w29 ⟨v182, rfl, ho0, hb⟩; have n0_ := Aside0.mk (Kd.R_below (by (with_reducible repeat (first | apply Kd.R_alloc | apply Kd.R_drewN | apply Kd.R_drew)); exact HO163.out) hb); have n1_ := Aside0.mk (Kd.R_below (by (with_reducible repeat (first | apply Kd.R_alloc | apply Kd.R_drewN | apply Kd.R_drew)); exact HO167.out) hb); have n2_ := Aside0.mk (Kd.R_below (by (with_reducible repeat (first | apply Kd.R_alloc | apply Kd.R_drewN | apply Kd.R_drew)); exact HO170.out) hb); have n3_ := Aside0.mk (Kd.R_elder' (by (with_reducible repeat (first | apply Kd.R_alloc | apply Kd.R_drewN | apply Kd.R_drew)); exact HO176.out) (Kd.R_base ho0) hb); have n4_ := Aside0.mk (Kd.R_lower (Kd.R_new' ho0 (Kd.R_lt (by (with_reducible repeat (first | apply Kd.R_alloc | apply Kd.R_drewN | apply Kd.R_drew)); exact HO176.out))) (bsz (by repeat (first | (with_reducible first | exact HB.out | apply bal | apply pbN | apply bd1 | refine bst ?_ GE164.out) | exact HB.out)))); have n5_ := Aside0.mk (bbe (g := gb164) (o := .cells #[.string (⟨#[]⟩ : ByteArray), .slice Ao18 y161.length co18, .slice none 0 0] 25 (0, 0)) (by (with_reducible repeat (first | refine bkn ?_ _ | refine bkd ?_ | refine bka ?_ _)); exact BK164.out) hb); have n6_ := Aside0.mk (Kd.C_below (by repeat (first | (with_reducible exact HR180.out) | (with_reducible refine Kd.C_alloc ?_ _) | (with_reducible refine Kd.C_drewN ?_ _) | (with_reducible refine Kd.C_drew ?_) | exact HR180.out)) hb); have n7_ := Aside0.mk (bsp (by repeat (first | (with_reducible first | exact HB.out | apply bal | apply pbN | apply bd1 | refine bst ?_ GE164.out) | exact HB.out)) hb); clear HO163; clear HO167; clear HO170; clear HO176; clear BK164; clear HR180; clear HB; have HO163 := n0_; have HO167 := n1_; have HO170 := n2_; have HO176 := n3_; have HO183 := n4_; have BK164 := n5_; have HR180 := n6_; have HB := n7_; clear n0_ n1_ n2_ n3_ n4_ n5_ n6_ n7_; (try clear hb); (try clear hb2); (try clear hk); (try clear hi); (try clear ho0); obtain ⟨Ao30, co30, eo30⟩ := Kd.R_slice HO183.out; subst eo30; have q31 : (2 : Int) ≤ ((t168.length : Int) : Int) := of_decide_eq_true (by first | (with_reducible assumption) | assumption); obtain ⟨i031, hi031, _, hsz31, _⟩ := info_parts info76; have hroom31 : t168.length ≤ co25 := (Kd.R_reads' HO170.out).2.1; have hC31 : Kd.C k76 _ (some ad171) t168.length t168 := (Kd.R_reads' HO170.out).2.2; have hcut31 := cut_to (P := Tryz.prog) 27 76 .i64 Tryz.underlying27 hi031 (some ad171) t168.length co25 2 (by omega) q31 hroom31; have hr31 := Kd.C_take (m := 2) hC31 (by omega); have hy31 : y177.length = (2 : Int).toNat := (by rw [Ny184.out, List.length_take]; omega); rw [← Ny184.out] at hr31; rw [← hy31] at hcut31; have HR187 := Aside0.mk hr31; have HC187 := Aside0.mk (show y177.length ≤ co25 from by omega); clear hr31 hC31 hroom31 hi031 hsz31; have KY31 := Aside0.mk hy31; clear hy31; have KL31 := Aside0.mk (show 2 ≤ t168.length from by omega); replace q31 := eq_true q31) | (go_at_call 18; (with_reducible refine (orders_Timers.calls _ _ y177 t188 _ ?side1 ?side2 A15.out).mono ?_); (case side1 => repeat (first | exact (by repeat (first | (with_reducible exact HR187.out) | (with_reducible refine Kd.C_alloc ?_ _) | (with_reducible refine Kd.C_drewN ?_ _) | (with_reducible refine Kd.C_drew ?_) | exact HR187.out)) | (with_reducible refine Kd.C_alloc ?_ _) | (with_reducible refine Kd.C_drewN ?_ _) | (with_reducible refine Kd.C_drew ?_))); (case side2 => exact HC187.out); rintro e w32 ⟨v189, rfl, ho0, hb⟩; have n0_ := Aside0.mk (Kd.R_below (by (with_reducible repeat (first | apply Kd.R_alloc | apply Kd.R_drewN | apply Kd.R_drew)); exact HO163.out) hb); have n1_ := Aside0.mk (Kd.R_below (by (with_reducible repeat (first | apply Kd.R_alloc | apply Kd.R_drewN | apply Kd.R_drew)); exact HO167.out) hb); have n2_ := Aside0.mk (Kd.R_elder' (by (with_reducible repeat (first | apply Kd.R_alloc | apply Kd.R_drewN | apply Kd.R_drew)); exact HO170.out) (Kd.R_base ho0) hb); have n3_ := Aside0.mk (Kd.R_below (by (with_reducible repeat (first | apply Kd.R_alloc | apply Kd.R_drewN | apply Kd.R_drew)); exact HO176.out) hb); have n4_ := Aside0.mk (Kd.R_below (by (with_reducible repeat (first | apply Kd.R_alloc | apply Kd.R_drewN | apply Kd.R_drew)); exact HO183.out) hb); have n5_ := Aside0.mk (Kd.R_lower (Kd.R_new' ho0 (Kd.R_lt (by (with_reducible repeat (first | apply Kd.R_alloc | apply Kd.R_drewN | apply Kd.R_drew)); exact HO170.out))) (bsz (by repeat (first | (with_reducible first | exact HB.out | apply bal | apply pbN | apply bd1 | refine bst ?_ GE164.out) | exact HB.out)))); have n6_ := Aside0.mk (bbe (g := gb164) (o := .cells #[.string (⟨#[]⟩ : ByteArray), .slice Ao18 y161.length co18, .slice none 0 0] 25 (0, 0)) (by (with_reducible repeat (first | refine bkn ?_ _ | refine bkd ?_ | refine bka ?_ _)); exact BK164.out) hb); have n7_ := Aside0.mk (Kd.C_below (by repeat (first | (with_reducible exact HR180.out) | (with_reducible refine Kd.C_alloc ?_ _) | (with_reducible refine Kd.C_drewN ?_ _) | (with_reducible refine Kd.C_drew ?_) | exact HR180.out)) hb); have n8_ := Aside0.mk (Kd.C_below (by repeat (first | (with_reducible exact HR187.out) | (with_reducible refine Kd.C_alloc ?_ _) | (with_reducible refine Kd.C_drewN ?_ _) | (with_reducible refine Kd.C_drew ?_) | exact HR187.out)) hb); have n9_ := Aside0.mk (bsp (by repeat (first | (with_reducible first | exact HB.out | apply bal | apply pbN | apply bd1 | refine bst ?_ GE164.out) | exact HB.out)) hb); clear HO163; clear HO167; clear HO170; clear HO176; clear HO183; clear BK164; clear HR180; clear HR187; clear HB; have HO163 := n0_; have HO167 := n1_; have HO170 := n2_; have HO176 := n3_; have HO183 := n4_; have HO190 := n5_; have BK164 := n6_; have HR180 := n7_; have HR187 := n8_; have HB := n9_; clear n0_ n1_ n2_ n3_ n4_ n5_ n6_ n7_ n8_ n9_; (try clear hb); (try clear hb2); (try clear hk); (try clear hi); (try clear ho0); obtain ⟨Ao33, co33, eo33⟩ := Kd.R_slice HO190.out; subst eo33))
           go_ret
           exact ⟨by first | rfl | (simp [errW_none, errW_some] <;> rfl) | (simp [*, errW_none, errW_some] <;> rfl), by repeat (first | (with_reducible first | exact HB.out | apply bal | apply pbN | apply bd1 | refine bst ?_ GE164.out) | exact HB.out)⟩
          ·rw [if_neg c13] at H
           have c13b0 : ((t181.length : Int) == 1) = false := beq_eq_false_iff_ne.mpr c13
           have c13b1 : ((t181.length : Int) != 1) = true := bne_iff_ne.mpr c13
           exact absurd (Option.some.inj H) (by decide)
         ·rw [if_neg c11] at H
          exact absurd H (by simp)
        ·rw [if_neg c10] at H
         have c10b0 : ((t174.length : Int) == 0) = false := beq_eq_false_iff_ne.mpr c10
         have c10b1 : ((t174.length : Int) != 0) = true := bne_iff_ne.mpr c10
         have c10b2 : ¬ (t174 = []) := fun h_ => c10 (by rw [h_]; rfl)
         exact absurd (Option.some.inj H) (by decide)
       ·rw [if_neg c8] at H
        have c8b0 : (((rd_T76 t168 2).f0) == 3 && (((rd_T76 t168 2).f1) == 5 && (((rd_T76 t168 2).f2) == 0 && (((rd_T76 t168 2).f3) == 0 && (((rd_T76 t168 2).f4) == 0))))) = false := by simpa using c8
        (try (have c8b1 : decide (((rd_T76 t168 2).f0) = 3 && (((rd_T76 t168 2).f1) == 5 && (((rd_T76 t168 2).f2) == 0 && (((rd_T76 t168 2).f3) == 0 && (((rd_T76 t168 2).f4) == 0))))) = false := by simpa using c8))
        (try (have c8b2 : (((rd_T76 t168 2).f0) == 3 && (((rd_T76 t168 2).f1) == 5 && (((rd_T76 t168 2).f2) == 0 && (((rd_T76 t168 2).f3) == 0 && (((rd_T76 t168 2).f4) == 0))))) = false := by simpa using c8))
        (try (have c8b3 : ¬ (((rd_T76 t168 2).f0) = 3 && (((rd_T76 t168 2).f1) == 5 && (((rd_T76 t168 2).f2) == 0 && (((rd_T76 t168 2).f3) == 0 && (((rd_T76 t168 2).f4) == 0))))) := by simpa using c8))
        clear c8
        exact absurd (Option.some.inj H) (by decide)
      ·rw [if_neg c7] at H
       exact absurd H (by simp)
     ·rw [if_neg c6] at H
      have c6b0 : (((rd_T76 t168 1).f0) == 2 && (((rd_T76 t168 1).f1) == 5 && (((rd_T76 t168 1).f2) == 2 && (((rd_T76 t168 1).f3) == 0 && (((rd_T76 t168 1).f4) == 9))))) = false := by simpa using c6
      (try (have c6b1 : decide (((rd_T76 t168 1).f0) = 2 && (((rd_T76 t168 1).f1) == 5 && (((rd_T76 t168 1).f2) == 2 && (((rd_T76 t168 1).f3) == 0 && (((rd_T76 t168 1).f4) == 9))))) = false := by simpa using c6))
      (try (have c6b2 : (((rd_T76 t168 1).f0) == 2 && (((rd_T76 t168 1).f1) == 5 && (((rd_T76 t168 1).f2) == 2 && (((rd_T76 t168 1).f3) == 0 && (((rd_T76 t168 1).f4) == 9))))) = false := by simpa using c6))
      (try (have c6b3 : ¬ (((rd_T76 t168 1).f0) = 2 && (((rd_T76 t168 1).f1) == 5 && (((rd_T76 t168 1).f2) == 2 && (((rd_T76 t168 1).f3) == 0 && (((rd_T76 t168 1).f4) == 9))))) := by simpa using c6))
      clear c6
      exact absurd (Option.some.inj H) (by decide)
    ·rw [if_neg c5] at H
     exact absurd H (by simp)
   ·rw [if_neg c4] at H
    have c4b0 : (((rd_T76 t168 0).f0) == 1 && (((rd_T76 t168 0).f1) == 5 && (((rd_T76 t168 0).f2) == 1 && (((rd_T76 t168 0).f3) == 3 && (((rd_T76 t168 0).f4) == 0))))) = false := by simpa using c4
    (try (have c4b1 : decide (((rd_T76 t168 0).f0) = 1 && (((rd_T76 t168 0).f1) == 5 && (((rd_T76 t168 0).f2) == 1 && (((rd_T76 t168 0).f3) == 3 && (((rd_T76 t168 0).f4) == 0))))) = false := by simpa using c4))
    (try (have c4b2 : (((rd_T76 t168 0).f0) == 1 && (((rd_T76 t168 0).f1) == 5 && (((rd_T76 t168 0).f2) == 1 && (((rd_T76 t168 0).f3) == 3 && (((rd_T76 t168 0).f4) == 0))))) = false := by simpa using c4))
    (try (have c4b3 : ¬ (((rd_T76 t168 0).f0) = 1 && (((rd_T76 t168 0).f1) == 5 && (((rd_T76 t168 0).f2) == 1 && (((rd_T76 t168 0).f3) == 3 && (((rd_T76 t168 0).f4) == 0))))) := by simpa using c4))
    clear c4
    exact absurd (Option.some.inj H) (by decide)
  ·rw [if_neg c3] at H
   exact absurd H (by simp)
 ·rw [if_neg c2] at H
  have c2b0 : ((t168.length : Int) == 3) = false := beq_eq_false_iff_ne.mpr c2
  have c2b1 : ((t168.length : Int) != 3) = true := bne_iff_ne.mpr c2
  exact absurd (Option.some.inj H) (by decide)
/-! ### remontoirkeep_Orders: function 12 -/
def remontoirkeep_Orders.l0 : Nat → List (S76) → List (S76) → Int → Option (Bool)
  | 0, _, _, _ => none
  | k + 1, x0, x1, x5 => if x5 < (x0.length : Int) then (if 0 ≤ x5 then (if x5 < (x1.length : Int) then (if (!(((rd_T76 x0 x5).f0) == ((rd_T76 x1 x5).f0)) || (!(((rd_T76 x0 x5).f1) == ((rd_T76 x1 x5).f1)) || (!(((rd_T76 x0 x5).f2) == ((rd_T76 x1 x5).f2)) || (!(((rd_T76 x0 x5).f3) == ((rd_T76 x1 x5).f3)) || (!(((rd_T76 x0 x5).f4) == ((rd_T76 x1 x5).f4))))))) = true then (some false) else (remontoirkeep_Orders.l0 k x0 x1 (wrap64 (x5 + 1)))) else (none)) else (none)) else (some true)
def remontoirkeep_Orders.f (k : Nat) (l0 : List (S76)) (l1 : List (S76)) : Option (Bool) := if (l0.length : Int) = (l1.length : Int) then (remontoirkeep_Orders.l0 k l0 l1 0) else (some false)
theorem remontoirkeep_Orders.mono_l : ∀ k, (∀ y0 y1 y2, LeO (remontoirkeep_Orders.l0 k y0 y1 y2) (remontoirkeep_Orders.l0 (k + 1) y0 y1 y2))
  | 0 => fun _ _ _ r h => by simp [remontoirkeep_Orders.l0] at h
  | k + 1 => by
    have ih0 := remontoirkeep_Orders.mono_l k
    · intro y0 y1 y2
      unfold remontoirkeep_Orders.l0
      repeat' first
      | (with_reducible exact ih0 _ _ _)
      | (with_reducible exact LeO.refl _)
      | (with_reducible exact LeO.none _)
      | (with_reducible refine LeO.ite ?_ ?_)
      | (with_reducible refine LeO.bind ?_ (fun _ => ?_))
      | exact ih0 _ _ _
      | exact LeO.none _
      | refine LeO.ite ?_ ?_
      | refine LeO.bind ?_ (fun _ => ?_)
theorem remontoirkeep_Orders.mono : ∀ a0 a1 k, LeO (remontoirkeep_Orders.f k a0 a1) (remontoirkeep_Orders.f (k + 1) a0 a1) := by
  intro a0 a1 k
  have ih0 := remontoirkeep_Orders.mono_l k
  unfold remontoirkeep_Orders.f
  repeat' first
      | (with_reducible exact ih0 _ _ _)
      | (with_reducible exact LeO.refl _)
      | (with_reducible exact LeO.none _)
      | (with_reducible refine LeO.ite ?_ ?_)
      | (with_reducible refine LeO.bind ?_ (fun _ => ?_))
      | exact ih0 _ _ _
      | exact LeO.none _
      | refine LeO.ite ?_ ?_
      | refine LeO.bind ?_ (fun _ => ?_)
set_option maxHeartbeats 8000000 in
set_option maxRecDepth 100000 in
theorem remontoirkeep_Orders.calls (k : Nat) (A0 : Option Addr) (c0 : Nat) (l0 : List (S76)) (A1 : Option Addr) (c1 : Nat) (l1 : List (S76)) (r : Bool) (w : World) (hr0 : Kd.C k76 w A0 l0.length l0) (hc0 : l0.length ≤ c0) (hr1 : Kd.C k76 w A1 l1.length l1) (hc1 : l1.length ≤ c1) (h : remontoirkeep_Orders.f k l0 l1 = some r) :
  Calls Tryz.prog 12 #[.slice A0 l0.length c0, .slice A1 l1.length c1] w fun e w' => e = .returned (.bool r) ∧ Drawn0 w w' := by
 have hu76 := Tryz.underlying76
 have HR0 := Aside0.mk hr0
 have HC0 := Aside0.mk hc0
 clear hr0 hc0
 have HR1 := Aside0.mk hr1
 have HC1 := Aside0.mk hc1
 clear hr1 hc1
 have H : (if (l0.length : Int) = (l1.length : Int) then (remontoirkeep_Orders.l0 k l0 l1 0) else (some false)) = some r := h
 clear h
 by_cases c3 : (l0.length : Int) = (l1.length : Int)
 ·rw [if_pos c3] at H
  have c3b0 : ((l0.length : Int) == (l1.length : Int)) = true := beq_iff_eq.mpr c3
  have c3b1 : ((l0.length : Int) != (l1.length : Int)) = false := bne_eq_false_iff_eq.mpr c3
  have c3b2 : (l0.length == l1.length) = true := by first | simpa using c3 | (simp at c3 ⊢; omega)
  clear c3
  have H' := Aside0.mk H
  clear H
  go_enter Tryz.func12, Tryz.ntmps12
  go_wp2
  repeat (go_quiet (fail); try go_wp2)
  go_loopg [5] k (fun kq v5 w' => ∃ (x5_1 : Int), v5 = .int .i64 x5_1 ∧ Aside0 (remontoirkeep_Orders.l0 kq l0 l1 x5_1 = some r) ∧ Aside0 (kq ≤ k) ∧ Drawn0 w w')
  case atStart => exact ⟨(0), (by first | rfl | (simp; done) | (simp [*]; done)), H', ⟨Nat.le_refl _⟩, by repeat (first | exact Drawn0.refl _ | apply Drawn0.step)⟩
  case round =>
   clear H'
   try clear c1
   try clear p2
   try clear c3
   try clear c3b0
   try clear c3b1
   try clear c3b2
   obtain ⟨x5_1, rfl, HA, HK1, ⟨m1, rfl⟩⟩ := hrel
   cases gk with
   | zero => exact absurd HA.out (by simp [remontoirkeep_Orders.l0])
   | succ k1 =>
    have H := HA.out
    clear HA
    simp only [remontoirkeep_Orders.l0] at H
    by_cases c4 : x5_1 < (l0.length : Int)
    ·rw [if_pos c4] at H
     have c4b0 : decide (x5_1 < (l0.length : Int)) = true := decide_eq_true c4
     clear c4
     by_cases c5 : 0 ≤ x5_1
     ·rw [if_pos c5] at H
      have c5b0 : decide (0 ≤ x5_1) = true := decide_eq_true c5
      clear c5
      by_cases c6 : x5_1 < (l1.length : Int)
      ·rw [if_pos c6] at H
       have c6b0 : decide (x5_1 < (l1.length : Int)) = true := decide_eq_true c6
       clear c6
       by_cases c7 : (!(((rd_T76 l0 x5_1).f0) == ((rd_T76 l1 x5_1).f0)) || (!(((rd_T76 l0 x5_1).f1) == ((rd_T76 l1 x5_1).f1)) || (!(((rd_T76 l0 x5_1).f2) == ((rd_T76 l1 x5_1).f2)) || (!(((rd_T76 l0 x5_1).f3) == ((rd_T76 l1 x5_1).f3)) || (!(((rd_T76 l0 x5_1).f4) == ((rd_T76 l1 x5_1).f4))))))) = true
       ·rw [if_pos c7] at H
        have c7b0 : (!(((rd_T76 l0 x5_1).f0) == ((rd_T76 l1 x5_1).f0)) || (!(((rd_T76 l0 x5_1).f1) == ((rd_T76 l1 x5_1).f1)) || (!(((rd_T76 l0 x5_1).f2) == ((rd_T76 l1 x5_1).f2)) || (!(((rd_T76 l0 x5_1).f3) == ((rd_T76 l1 x5_1).f3)) || (!(((rd_T76 l0 x5_1).f4) == ((rd_T76 l1 x5_1).f4))))))) = true := c7
        clear c7
        obtain rfl := Option.some.inj H
        have p191 : 0 ≤ (x5_1 : Int) := of_decide_eq_true (by first | (with_reducible assumption) | assumption)
        have q191 : x5_1 < (l0.length : Int) := of_decide_eq_true (by first | (with_reducible assumption) | assumption)
        obtain ⟨ad191, e191, hx191_0, hx191_1, hx191_2, hx191_3, hx191_4⟩ := at_T76 HR0.out x5_1 p191 q191
        cases e191
        replace p191 := eq_true p191
        replace q191 := eq_true q191
        have p192 : 0 ≤ (x5_1 : Int) := of_decide_eq_true (by first | (with_reducible assumption) | assumption)
        have q192 : x5_1 < (l1.length : Int) := of_decide_eq_true (by first | (with_reducible assumption) | assumption)
        obtain ⟨ad192, e192, hx192_0, hx192_1, hx192_2, hx192_3, hx192_4⟩ := at_T76 HR1.out x5_1 p192 q192
        cases e192
        replace p192 := eq_true p192
        replace q192 := eq_true q192
        go_wp2
        repeat (go_quiet (fail); try go_wp2)
        go_ret
        exact ⟨by first | rfl | (simp; done) | (simp [*]; done), by repeat (first | exact Drawn0.refl _ | apply Drawn0.step)⟩
       ·rw [if_neg c7] at H
        have c7b0 : (!(((rd_T76 l0 x5_1).f0) == ((rd_T76 l1 x5_1).f0)) || (!(((rd_T76 l0 x5_1).f1) == ((rd_T76 l1 x5_1).f1)) || (!(((rd_T76 l0 x5_1).f2) == ((rd_T76 l1 x5_1).f2)) || (!(((rd_T76 l0 x5_1).f3) == ((rd_T76 l1 x5_1).f3)) || (!(((rd_T76 l0 x5_1).f4) == ((rd_T76 l1 x5_1).f4))))))) = false := by simpa using c7
        clear c7
        have H' := Aside0.mk H
        clear H
        have p191 : 0 ≤ (x5_1 : Int) := of_decide_eq_true (by first | (with_reducible assumption) | assumption)
        have q191 : x5_1 < (l0.length : Int) := of_decide_eq_true (by first | (with_reducible assumption) | assumption)
        obtain ⟨ad191, e191, hx191_0, hx191_1, hx191_2, hx191_3, hx191_4⟩ := at_T76 HR0.out x5_1 p191 q191
        cases e191
        replace p191 := eq_true p191
        replace q191 := eq_true q191
        have p192 : 0 ≤ (x5_1 : Int) := of_decide_eq_true (by first | (with_reducible assumption) | assumption)
        have q192 : x5_1 < (l1.length : Int) := of_decide_eq_true (by first | (with_reducible assumption) | assumption)
        obtain ⟨ad192, e192, hx192_0, hx192_1, hx192_2, hx192_3, hx192_4⟩ := at_T76 HR1.out x5_1 p192 q192
        cases e192
        replace p192 := eq_true p192
        replace q192 := eq_true q192
        go_wp2
        repeat (go_quiet (fail); try go_wp2)
        go_roundg k1
        case measure => have := HK1.out; omega
        case rel => exact ⟨(wrap64 (x5_1 + 1)), (by first | rfl | (simp; done) | (simp [*]; done)), H', ⟨by have := HK1.out; omega⟩, by repeat (first | exact Drawn0.refl _ | apply Drawn0.step)⟩
      ·rw [if_neg c6] at H
       exact absurd H (by simp)
     ·rw [if_neg c5] at H
      exact absurd H (by simp)
    ·rw [if_neg c4] at H
     have c4b0 : decide (x5_1 < (l0.length : Int)) = false := decide_eq_false c4
     clear c4
     obtain rfl := Option.some.inj H
     go_wp2
     repeat (go_quiet (fail); try go_wp2)
     go_ret
     exact ⟨by first | rfl | (simp; done) | (simp [*]; done), by repeat (first | exact Drawn0.refl _ | apply Drawn0.step)⟩
 ·rw [if_neg c3] at H
  have c3b0 : ((l0.length : Int) == (l1.length : Int)) = false := beq_eq_false_iff_ne.mpr c3
  have c3b1 : ((l0.length : Int) != (l1.length : Int)) = true := bne_iff_ne.mpr c3
  have c3b2 : (l0.length == l1.length) = false := by first | simpa using c3 | (simp at c3 ⊢; omega)
  obtain rfl := Option.some.inj H
  go_enter Tryz.func12, Tryz.ntmps12
  go_wp2
  repeat (go_quiet (fail); try go_wp2)
  go_ret
  exact ⟨by first | rfl | (simp; done) | (simp [*]; done), by repeat (first | exact Drawn0.refl _ | apply Drawn0.step)⟩

/-! ### remontoirref18_Is: function 40 -/
def remontoirref18_Is.f (a0_0 : ByteArray) (l0_1 : List (S86)) (l0_2 : List (S51)) (a1 : Int) : Option (Bool) := if a1 ≥ 1 then (some (decide (a1 ≤ (l0_1.length : Int)))) else (some false)
set_option maxHeartbeats 8000000 in
set_option maxRecDepth 100000 in
theorem remontoirref18_Is.calls (a0_0 : ByteArray) (A0_1 : Option Addr) (c0_1 : Nat) (l0_1 : List (S86)) (A0_2 : Option Addr) (c0_2 : Nat) (l0_2 : List (S51)) (a1 : Int) (r : Bool) (w : World) (hr0_1 : Kd.C k86 w A0_1 l0_1.length l0_1) (hc0_1 : l0_1.length ≤ c0_1) (hr0_2 : Kd.C k51 w A0_2 l0_2.length l0_2) (hc0_2 : l0_2.length ≤ c0_2) (h : remontoirref18_Is.f a0_0 l0_1 l0_2 a1 = some r) :
  Calls Tryz.prog 40 #[.agg #[.string a0_0, .slice A0_1 l0_1.length c0_1, .slice A0_2 l0_2.length c0_2], .int .i64 a1] w fun e w' => e = .returned (.bool r) ∧ Below w.heap.size w w' := by
 have hu25 := Tryz.underlying25
 have HR0_1 := Aside0.mk hr0_1
 have HC0_1 := Aside0.mk hc0_1
 clear hr0_1 hc0_1
 have HR0_2 := Aside0.mk hr0_2
 have HC0_2 := Aside0.mk hc0_2
 clear hr0_2 hc0_2
 have HB := Aside0.mk (Below.refl w.heap.size w)
 have H : (if a1 ≥ 1 then (some (decide (a1 ≤ (l0_1.length : Int)))) else (some false)) = some r := h
 clear h
 by_cases c3 : a1 ≥ 1
 ·rw [if_pos c3] at H
  have c3b0 : decide (1 ≤ a1) = true := decide_eq_true c3
  clear c3
  obtain rfl := Option.some.inj H
  go_enter Tryz.func40, Tryz.ntmps40
  go_wp2_with (first | ((with_reducible refine gate_dst (N := 2) rfl ?_); (try (refine gate_guard (by rfl) ?_; dsimp only)); refine box_event ?hg (N := 2) ?hd (cs := #[.string a0_0, .slice A0_1 l0_1.length c0_1, .slice A0_2 l0_2.length c0_2]) (t := 25) ?hr ?_; (case hd => rfl); (case hg => rfl); (case hr => first | (go_simp; done) | (go_simp; rfl)); intro gb193 hg w4 hbox hb; have n0_ := Aside0.mk (bsp (by repeat (first | (with_reducible first | exact HB.out | apply bal | apply pbN | apply bd1) | exact HB.out)) hb); have n1_ := Aside0.mk (hbox); have n2_ := Aside0.mk ((by rw [hg]; exact (bsz (by repeat (first | (with_reducible first | exact HB.out | apply bal | apply pbN | apply bd1) | exact HB.out))) : w.heap.size ≤ gb193)); have n3_ := Aside0.mk ((by rw [hg]; exact (bsz (by repeat (first | (with_reducible first | exact HB.out | apply bal | apply pbN | apply bd1) | exact HB.out))) : w.heap.size ≤ gb193)); clear HB; have HB := n0_; have BK193 := n1_; have GW193 := n2_; have GE193 := n3_; clear n0_ n1_ n2_ n3_; clear hb hbox hg; have hcz5_0 : w4.cell? ⟨gb193, 0, none⟩ = some (.string a0_0) := (bce BK193.out 0).trans rfl; have hcz5_1 : w4.cell? ⟨gb193, 1, none⟩ = some (.slice A0_1 l0_1.length c0_1) := (bce BK193.out 1).trans rfl; have hcz5_2 : w4.cell? ⟨gb193, 2, none⟩ = some (.slice A0_2 l0_2.length c0_2) := (bce BK193.out 2).trans rfl; have hfz5_0 := bfz BK193.out 0; have hfz5_1 := bfz BK193.out 1; have hfz5_2 := bfz BK193.out 2))
  go_ret
  exact ⟨by first | rfl | (simp [errW_none, errW_some] <;> rfl) | (simp [*, errW_none, errW_some] <;> rfl), by repeat (first | (with_reducible first | exact HB.out | apply bal | apply pbN | apply bd1 | refine bst ?_ GE193.out) | exact HB.out)⟩
 ·rw [if_neg c3] at H
  have c3b0 : decide (1 ≤ a1) = false := decide_eq_false c3
  clear c3
  obtain rfl := Option.some.inj H
  go_enter Tryz.func40, Tryz.ntmps40
  go_wp2_with (first | ((with_reducible refine gate_dst (N := 2) rfl ?_); (try (refine gate_guard (by rfl) ?_; dsimp only)); refine box_event ?hg (N := 2) ?hd (cs := #[.string a0_0, .slice A0_1 l0_1.length c0_1, .slice A0_2 l0_2.length c0_2]) (t := 25) ?hr ?_; (case hd => rfl); (case hg => rfl); (case hr => first | (go_simp; done) | (go_simp; rfl)); intro gb193 hg w6 hbox hb; have n0_ := Aside0.mk (bsp (by repeat (first | (with_reducible first | exact HB.out | apply bal | apply pbN | apply bd1) | exact HB.out)) hb); have n1_ := Aside0.mk (hbox); have n2_ := Aside0.mk ((by rw [hg]; exact (bsz (by repeat (first | (with_reducible first | exact HB.out | apply bal | apply pbN | apply bd1) | exact HB.out))) : w.heap.size ≤ gb193)); have n3_ := Aside0.mk ((by rw [hg]; exact (bsz (by repeat (first | (with_reducible first | exact HB.out | apply bal | apply pbN | apply bd1) | exact HB.out))) : w.heap.size ≤ gb193)); clear HB; have HB := n0_; have BK193 := n1_; have GW193 := n2_; have GE193 := n3_; clear n0_ n1_ n2_ n3_; clear hb hbox hg))
  go_ret
  exact ⟨by first | rfl | (simp [errW_none, errW_some] <;> rfl) | (simp [*, errW_none, errW_some] <;> rfl), by repeat (first | (with_reducible first | exact HB.out | apply bal | apply pbN | apply bd1 | refine bst ?_ GE193.out) | exact HB.out)⟩

end Go.Proofs.YtdfkbiffdcfnpaaGreatDoor.H
-- Written by hp.py (a program of this session, over the kit's print.py), with hand-made contracts beside it.
namespace Go.Proofs.YtdfkbiffdcfnpaaGreatDoor.H
open Go.RowKit Go.Proofs.YtdfkbiffdcfnpaaGreatDoorW.PrintWords Go.Proofs.YtdfkbiffdcfnpaaGreatDoorW.PrintLast Go.Proofs.YtdfkbiffdcfnpaaGreatDoorW.PrintMore
attribute [local go_sem] max2_int min2_int max_two min_two max_three min_three max_four min_four   -- for this text's walks alone
set_option linter.unusedVariables false
set_option linter.unusedSimpArgs false

/-! ### remontoirref18_Kind: function 28 -/
def remontoirref18_Kind.f (a0_0 : ByteArray) (l0_1 : List (S86)) (l0_2 : List (S51)) (a1 : Int) : Option (Int) := (remontoirref18_Is.f a0_0 l0_1 l0_2 a1).bind fun t195 => (if t195 = true then (if 0 ≤ (wrap64 (a1 - 1)) then (if (wrap64 (a1 - 1)) < (l0_1.length : Int) then (some ((rd_T86 l0_1 (wrap64 (a1 - 1))).f0)) else (none)) else (none)) else (some 0))
set_option maxHeartbeats 8000000 in
set_option maxRecDepth 100000 in
theorem remontoirref18_Kind.calls (a0_0 : ByteArray) (A0_1 : Option Addr) (c0_1 : Nat) (l0_1 : List (S86)) (A0_2 : Option Addr) (c0_2 : Nat) (l0_2 : List (S51)) (a1 : Int) (r : Int) (w : World) (hr0_1 : Kd.C k86 w A0_1 l0_1.length l0_1) (hc0_1 : l0_1.length ≤ c0_1) (hr0_2 : Kd.C k51 w A0_2 l0_2.length l0_2) (hc0_2 : l0_2.length ≤ c0_2) (h : remontoirref18_Kind.f a0_0 l0_1 l0_2 a1 = some r) :
  Calls Tryz.prog 28 #[.agg #[.string a0_0, .slice A0_1 l0_1.length c0_1, .slice A0_2 l0_2.length c0_2], .int .i64 a1] w fun e w' => e = .returned (.int .i64 r) ∧ Below w.heap.size w w' := by
 have hu25 := Tryz.underlying25
 have HR0_1 := Aside0.mk hr0_1
 have HC0_1 := Aside0.mk hc0_1
 clear hr0_1 hc0_1
 have HR0_2 := Aside0.mk hr0_2
 have HC0_2 := Aside0.mk hc0_2
 clear hr0_2 hc0_2
 have HB := Aside0.mk (Below.refl w.heap.size w)
 have H : ((remontoirref18_Is.f a0_0 l0_1 l0_2 a1).bind fun t195 => (if t195 = true then (if 0 ≤ (wrap64 (a1 - 1)) then (if (wrap64 (a1 - 1)) < (l0_1.length : Int) then (some ((rd_T86 l0_1 (wrap64 (a1 - 1))).f0)) else (none)) else (none)) else (some 0))) = some r := h
 clear h
 replace H := Option.bind_eq_some_iff.mp H
 obtain ⟨t195, A30, H⟩ := H
 replace H : (if t195 = true then (if 0 ≤ (wrap64 (a1 - 1)) then (if (wrap64 (a1 - 1)) < (l0_1.length : Int) then (some ((rd_T86 l0_1 (wrap64 (a1 - 1))).f0)) else (none)) else (none)) else (some 0)) = some r := H
 have A3 := Aside0.mk A30
 clear A30
 by_cases c4 : t195 = true
 ·subst c4
  have H1 : (if 0 ≤ (wrap64 (a1 - 1)) then (if (wrap64 (a1 - 1)) < (l0_1.length : Int) then (some ((rd_T86 l0_1 (wrap64 (a1 - 1))).f0)) else (none)) else (none)) = some r := by rw [if_pos rfl] at H; exact H
  clear H
  have H := H1
  clear H1
  obtain ⟨ji5, hji5⟩ : ∃ j_ : Int, (wrap64 (a1 - 1)) = j_ := ⟨_, rfl⟩
  replace H : (if 0 ≤ (ji5) then (if (ji5) < (l0_1.length : Int) then (some ((rd_T86 l0_1 (ji5)).f0)) else (none)) else (none)) = some r := by first | (rw [hji5] at H; exact H) | (simp only [hji5] at H ⊢; exact H)
  (try rw [hji5] at A3)
  have hji5w : (IntKind.i64.wrap (a1 - 1)) = ji5 := (i64_w _).trans hji5
  by_cases c6 : 0 ≤ (ji5)
  ·rw [if_pos c6] at H
   have c6b0 : decide (0 ≤ (ji5)) = true := decide_eq_true c6
   clear c6
   by_cases c7 : (ji5) < (l0_1.length : Int)
   ·rw [if_pos c7] at H
    have c7b0 : decide ((ji5) < (l0_1.length : Int)) = true := decide_eq_true c7
    clear c7
    obtain rfl := Option.some.inj H
    go_enter Tryz.func28, Tryz.ntmps28
    go_wp2_with (first | ((with_reducible refine gate_dst (N := 2) rfl ?_); refine box_event ?hg (N := 2) ?hd (cs := #[.string a0_0, .slice A0_1 l0_1.length c0_1, .slice A0_2 l0_2.length c0_2]) (t := 25) ?hr ?_; (case hd => rfl); (case hg => rfl); (case hr => first | (go_simp; done) | (go_simp; rfl)); intro gb194 hg w8 hbox hb; have n0_ := Aside0.mk (bsp (by repeat (first | (with_reducible first | exact HB.out | apply bal | apply pbN | apply bd1) | exact HB.out)) hb); have n1_ := Aside0.mk (hbox); have n2_ := Aside0.mk ((by rw [hg]; exact (bsz (by repeat (first | (with_reducible first | exact HB.out | apply bal | apply pbN | apply bd1) | exact HB.out))) : w.heap.size ≤ gb194)); have n3_ := Aside0.mk ((by rw [hg]; exact (bsz (by repeat (first | (with_reducible first | exact HB.out | apply bal | apply pbN | apply bd1) | exact HB.out))) : w.heap.size ≤ gb194)); clear HB; have HB := n0_; have BK194 := n1_; have GW194 := n2_; have GE194 := n3_; clear n0_ n1_ n2_ n3_; clear hb hbox hg; have hcz9_0 : w8.cell? ⟨gb194, 0, none⟩ = some (.string a0_0) := (bce BK194.out 0).trans rfl; have hcz9_1 : w8.cell? ⟨gb194, 1, none⟩ = some (.slice A0_1 l0_1.length c0_1) := (bce BK194.out 1).trans rfl; have hcz9_2 : w8.cell? ⟨gb194, 2, none⟩ = some (.slice A0_2 l0_2.length c0_2) := (bce BK194.out 2).trans rfl; have hfz9_0 := bfz BK194.out 0; have hfz9_1 := bfz BK194.out 1; have hfz9_2 := bfz BK194.out 2) | ((with_reducible refine gate_callee (f := 40) rfl ?_); refine goesL_ (some 7) rfl rfl Tryz.func40 (by kernel_rfl) rfl #[.agg #[.string a0_0, .slice A0_1 l0_1.length c0_1, .slice A0_2 l0_2.length c0_2], .int .i64 a1] rfl (by (try simp only [List.map_toArray, List.map_cons, List.map_nil]); first | done | rfl | (simp only [List.length_drop, List.length_take]; rfl)) ?_; (with_reducible refine (remontoirref18_Is.calls a0_0 _ _ l0_1 _ _ l0_2 a1 true _ ?side1 ?side2 ?side3 ?side4 A3.out).mono ?_); (case side1 => repeat (first | exact (Kd.C_below HR0_1.out HB.out) | (with_reducible refine Kd.C_alloc ?_ _) | (with_reducible refine Kd.C_drewN ?_ _) | (with_reducible refine Kd.C_drew ?_))); (case side2 => exact HC0_1.out); (case side3 => repeat (first | exact (Kd.C_below HR0_2.out HB.out) | (with_reducible refine Kd.C_alloc ?_ _) | (with_reducible refine Kd.C_drewN ?_ _) | (with_reducible refine Kd.C_drew ?_))); (case side4 => exact HC0_2.out); rintro e w10 ⟨rfl, hb⟩; refine ⟨_, rfl, ?_⟩; have n0_ := Aside0.mk (bbe (g := gb194) (o := .cells #[.string a0_0, .slice A0_1 l0_1.length c0_1, .slice A0_2 l0_2.length c0_2] 25 (0, 0)) (by (with_reducible repeat (first | refine bkn ?_ _ | refine bkd ?_ | refine bka ?_ _)); exact BK194.out) hb); have n1_ := Aside0.mk (bsp (by repeat (first | (with_reducible first | exact HB.out | apply bal | apply pbN | apply bd1 | refine bst ?_ GE194.out) | exact HB.out)) hb); clear BK194; clear HB; have BK194 := n0_; have HB := n1_; clear n0_ n1_; (try clear hb); (try clear hb2); (try clear hk); (try clear hi); have hcz11_0 : w10.cell? ⟨gb194, 0, none⟩ = some (.string a0_0) := (bce BK194.out 0).trans rfl; have hcz11_1 : w10.cell? ⟨gb194, 1, none⟩ = some (.slice A0_1 l0_1.length c0_1) := (bce BK194.out 1).trans rfl; have hcz11_2 : w10.cell? ⟨gb194, 2, none⟩ = some (.slice A0_2 l0_2.length c0_2) := (bce BK194.out 2).trans rfl; have hfz11_0 := bfz BK194.out 0; have hfz11_1 := bfz BK194.out 1; have hfz11_2 := bfz BK194.out 2; have p196 : 0 ≤ ((ji5) : Int) := of_decide_eq_true (by first | (with_reducible assumption) | assumption); have q196 : (ji5) < (l0_1.length : Int) := of_decide_eq_true (by first | (with_reducible assumption) | assumption); obtain ⟨ad196, e196, hx196_0, hx196_1, hx196_2, hx196_3, hx196_4⟩ := at_T86 HR0_1.out (ji5) p196 q196; cases e196; replace hx196_0 := (HB.out.cell (World.block_lt_of_cell? w _ hx196_0)).trans hx196_0; replace hx196_1 := (HB.out.cell (World.block_lt_of_cell? w _ hx196_1)).trans hx196_1; replace hx196_2 := (HB.out.cell (World.block_lt_of_cell? w _ hx196_2)).trans hx196_2; replace hx196_3 := (HB.out.cell (World.block_lt_of_cell? w _ hx196_3)).trans hx196_3; replace hx196_4 := (HB.out.cell (World.block_lt_of_cell? w _ hx196_4)).trans hx196_4; replace p196 := eq_true p196; replace q196 := eq_true q196))
    go_ret
    exact ⟨by first | rfl | (simp [errW_none, errW_some] <;> rfl) | (simp only [← hji5]; first | rfl | (simp [errW_none, errW_some] <;> rfl)) | (simp [*, errW_none, errW_some] <;> rfl), by repeat (first | (with_reducible first | exact HB.out | apply bal | apply pbN | apply bd1 | refine bst ?_ GE194.out) | exact HB.out)⟩
   ·rw [if_neg c7] at H
    exact absurd H (by simp)
  ·rw [if_neg c6] at H
   exact absurd H (by simp)
 ·replace c4 := Bool.eq_false_iff.mpr c4
  subst c4
  have H1 : (some 0) = some r := by rw [if_neg (show ¬ (false = true) by decide)] at H; exact H
  clear H
  have H := H1
  clear H1
  obtain rfl := Option.some.inj H
  go_enter Tryz.func28, Tryz.ntmps28
  go_wp2_with (first | ((with_reducible refine gate_dst (N := 2) rfl ?_); refine box_event ?hg (N := 2) ?hd (cs := #[.string a0_0, .slice A0_1 l0_1.length c0_1, .slice A0_2 l0_2.length c0_2]) (t := 25) ?hr ?_; (case hd => rfl); (case hg => rfl); (case hr => first | (go_simp; done) | (go_simp; rfl)); intro gb194 hg w12 hbox hb; have n0_ := Aside0.mk (bsp (by repeat (first | (with_reducible first | exact HB.out | apply bal | apply pbN | apply bd1) | exact HB.out)) hb); have n1_ := Aside0.mk (hbox); have n2_ := Aside0.mk ((by rw [hg]; exact (bsz (by repeat (first | (with_reducible first | exact HB.out | apply bal | apply pbN | apply bd1) | exact HB.out))) : w.heap.size ≤ gb194)); have n3_ := Aside0.mk ((by rw [hg]; exact (bsz (by repeat (first | (with_reducible first | exact HB.out | apply bal | apply pbN | apply bd1) | exact HB.out))) : w.heap.size ≤ gb194)); clear HB; have HB := n0_; have BK194 := n1_; have GW194 := n2_; have GE194 := n3_; clear n0_ n1_ n2_ n3_; clear hb hbox hg; have hcz13_0 : w12.cell? ⟨gb194, 0, none⟩ = some (.string a0_0) := (bce BK194.out 0).trans rfl; have hcz13_1 : w12.cell? ⟨gb194, 1, none⟩ = some (.slice A0_1 l0_1.length c0_1) := (bce BK194.out 1).trans rfl; have hcz13_2 : w12.cell? ⟨gb194, 2, none⟩ = some (.slice A0_2 l0_2.length c0_2) := (bce BK194.out 2).trans rfl; have hfz13_0 := bfz BK194.out 0; have hfz13_1 := bfz BK194.out 1; have hfz13_2 := bfz BK194.out 2) | ((with_reducible refine gate_callee (f := 40) rfl ?_); refine goesL_ (some 7) rfl rfl Tryz.func40 (by kernel_rfl) rfl #[.agg #[.string a0_0, .slice A0_1 l0_1.length c0_1, .slice A0_2 l0_2.length c0_2], .int .i64 a1] rfl (by (try simp only [List.map_toArray, List.map_cons, List.map_nil]); first | done | rfl | (simp only [List.length_drop, List.length_take]; rfl)) ?_; (with_reducible refine (remontoirref18_Is.calls a0_0 _ _ l0_1 _ _ l0_2 a1 false _ ?side1 ?side2 ?side3 ?side4 A3.out).mono ?_); (case side1 => repeat (first | exact (Kd.C_below HR0_1.out HB.out) | (with_reducible refine Kd.C_alloc ?_ _) | (with_reducible refine Kd.C_drewN ?_ _) | (with_reducible refine Kd.C_drew ?_))); (case side2 => exact HC0_1.out); (case side3 => repeat (first | exact (Kd.C_below HR0_2.out HB.out) | (with_reducible refine Kd.C_alloc ?_ _) | (with_reducible refine Kd.C_drewN ?_ _) | (with_reducible refine Kd.C_drew ?_))); (case side4 => exact HC0_2.out); rintro e w14 ⟨rfl, hb⟩; refine ⟨_, rfl, ?_⟩; have n0_ := Aside0.mk (bbe (g := gb194) (o := .cells #[.string a0_0, .slice A0_1 l0_1.length c0_1, .slice A0_2 l0_2.length c0_2] 25 (0, 0)) (by (with_reducible repeat (first | refine bkn ?_ _ | refine bkd ?_ | refine bka ?_ _)); exact BK194.out) hb); have n1_ := Aside0.mk (bsp (by repeat (first | (with_reducible first | exact HB.out | apply bal | apply pbN | apply bd1 | refine bst ?_ GE194.out) | exact HB.out)) hb); clear BK194; clear HB; have BK194 := n0_; have HB := n1_; clear n0_ n1_; (try clear hb); (try clear hb2); (try clear hk); (try clear hi)))
  go_ret
  exact ⟨by first | rfl | (simp [errW_none, errW_some] <;> rfl) | (simp [*, errW_none, errW_some] <;> rfl), by repeat (first | (with_reducible first | exact HB.out | apply bal | apply pbN | apply bd1 | refine bst ?_ GE194.out) | exact HB.out)⟩

end Go.Proofs.YtdfkbiffdcfnpaaGreatDoor.H
-- Written by hp.py (a program of this session, over the kit's print.py), with hand-made contracts beside it.
namespace Go.Proofs.YtdfkbiffdcfnpaaGreatDoor.H
open Go.RowKit Go.Proofs.YtdfkbiffdcfnpaaGreatDoorW.PrintWords Go.Proofs.YtdfkbiffdcfnpaaGreatDoorW.PrintLast Go.Proofs.YtdfkbiffdcfnpaaGreatDoorW.PrintMore
attribute [local go_sem] max2_int min2_int max_two min_two max_three min_three max_four min_four   -- for this text's walks alone
set_option linter.unusedVariables false
set_option linter.unusedSimpArgs false

/-! ### remontoirref02_number: function 188 -/
mutual
def remontoirref02_number.j1 : Nat → ByteArray → Int → Int → Option (Int × Int × Bool)
  | 0, _, _, _ => none
  | k + 1, x0, x1, x7 => if x7 = x1 then (remontoirref02_number.j2 k x0 x1 x7 true) else (if (wrap64 (x7 - x1)) > 15 then (remontoirref02_number.j2 k x0 x1 x7 true) else (if 0 ≤ x1 then (if x1 < (x0.size : Int) then (if (bt x0 x1) = 48 then (remontoirref02_number.j2 k x0 x1 x7 (decide ((wrap64 (x7 - x1)) > 1))) else (remontoirref02_number.j2 k x0 x1 x7 false)) else (none)) else (none)))
def remontoirref02_number.j2 : Nat → ByteArray → Int → Int → Bool → Option (Int × Int × Bool)
  | 0, _, _, _, _ => none
  | k + 1, x0, x1, x7, x49 => if x49 = true then (some (0, x1, false)) else (remontoirref02_number.l1 k x0 x7 0 x1)
def remontoirref02_number.l1 : Nat → ByteArray → Int → Int → Int → Option (Int × Int × Bool)
  | 0, _, _, _, _ => none
  | k + 1, x0, x7, x8, x9 => if x9 < x7 then (if 0 ≤ x9 then (if x9 < (x0.size : Int) then (remontoirref02_number.l1 k x0 x7 (IntKind.u64.wrap ((IntKind.u64.wrap (x8 * 10)) + (((bt x0 x9) - 48) % 256))) (wrap64 (x9 + 1))) else (none)) else (none)) else (some (x8, x7, true))
def remontoirref02_number.l0 : Nat → ByteArray → Int → Int → Option (Int × Int × Bool)
  | 0, _, _, _ => none
  | k + 1, x0, x1, x7 => if x7 < (x0.size : Int) then (if 0 ≤ x7 then (if (bt x0 x7) ≥ 48 then (if (bt x0 x7) ≤ 57 then (remontoirref02_number.l0 k x0 x1 (wrap64 (x7 + 1))) else (remontoirref02_number.j1 k x0 x1 x7)) else (remontoirref02_number.j1 k x0 x1 x7)) else (none)) else (remontoirref02_number.j1 k x0 x1 x7)
end
def remontoirref02_number.f (k : Nat) (a0 : ByteArray) (a1 : Int) : Option (Int × Int × Bool) := remontoirref02_number.l0 k a0 a1 a1
theorem remontoirref02_number.mono_l : ∀ k, (∀ y0 y1 y2, LeO (remontoirref02_number.j1 k y0 y1 y2) (remontoirref02_number.j1 (k + 1) y0 y1 y2)) ∧ (∀ y0 y1 y2 y3, LeO (remontoirref02_number.j2 k y0 y1 y2 y3) (remontoirref02_number.j2 (k + 1) y0 y1 y2 y3)) ∧ (∀ y0 y1 y2 y3, LeO (remontoirref02_number.l1 k y0 y1 y2 y3) (remontoirref02_number.l1 (k + 1) y0 y1 y2 y3)) ∧ (∀ y0 y1 y2, LeO (remontoirref02_number.l0 k y0 y1 y2) (remontoirref02_number.l0 (k + 1) y0 y1 y2))
 | 0 => ⟨fun _ _ _ r h => by simp [remontoirref02_number.j1] at h, fun _ _ _ _ r h => by simp [remontoirref02_number.j2] at h, fun _ _ _ _ r h => by simp [remontoirref02_number.l1] at h, fun _ _ _ r h => by simp [remontoirref02_number.l0] at h⟩
 | k + 1 => by
  obtain ⟨ih0, ih1, ih2, ih3⟩ := remontoirref02_number.mono_l k
  refine ⟨?_, ?_, ?_, ?_⟩
  ·intro y0 y1 y2
   unfold remontoirref02_number.j1
   repeat' first
   | (with_reducible exact ih0 _ _ _)
   | (with_reducible exact ih1 _ _ _ _)
   | (with_reducible exact ih2 _ _ _ _)
   | (with_reducible exact ih3 _ _ _)
   | (with_reducible exact LeO.refl _)
   | (with_reducible exact LeO.none _)
   | (with_reducible refine LeO.ite ?_ ?_)
   | (with_reducible refine LeO.bind ?_ (fun _ => ?_))
   | exact ih0 _ _ _
   | exact ih1 _ _ _ _
   | exact ih2 _ _ _ _
   | exact ih3 _ _ _
   | exact LeO.none _
   | refine LeO.ite ?_ ?_
   | refine LeO.bind ?_ (fun _ => ?_)
  ·intro y0 y1 y2 y3
   unfold remontoirref02_number.j2
   repeat' first
   | (with_reducible exact ih0 _ _ _)
   | (with_reducible exact ih1 _ _ _ _)
   | (with_reducible exact ih2 _ _ _ _)
   | (with_reducible exact ih3 _ _ _)
   | (with_reducible exact LeO.refl _)
   | (with_reducible exact LeO.none _)
   | (with_reducible refine LeO.ite ?_ ?_)
   | (with_reducible refine LeO.bind ?_ (fun _ => ?_))
   | exact ih0 _ _ _
   | exact ih1 _ _ _ _
   | exact ih2 _ _ _ _
   | exact ih3 _ _ _
   | exact LeO.none _
   | refine LeO.ite ?_ ?_
   | refine LeO.bind ?_ (fun _ => ?_)
  ·intro y0 y1 y2 y3
   unfold remontoirref02_number.l1
   repeat' first
   | (with_reducible exact ih0 _ _ _)
   | (with_reducible exact ih1 _ _ _ _)
   | (with_reducible exact ih2 _ _ _ _)
   | (with_reducible exact ih3 _ _ _)
   | (with_reducible exact LeO.refl _)
   | (with_reducible exact LeO.none _)
   | (with_reducible refine LeO.ite ?_ ?_)
   | (with_reducible refine LeO.bind ?_ (fun _ => ?_))
   | exact ih0 _ _ _
   | exact ih1 _ _ _ _
   | exact ih2 _ _ _ _
   | exact ih3 _ _ _
   | exact LeO.none _
   | refine LeO.ite ?_ ?_
   | refine LeO.bind ?_ (fun _ => ?_)
  ·intro y0 y1 y2
   unfold remontoirref02_number.l0
   repeat' first
   | (with_reducible exact ih0 _ _ _)
   | (with_reducible exact ih1 _ _ _ _)
   | (with_reducible exact ih2 _ _ _ _)
   | (with_reducible exact ih3 _ _ _)
   | (with_reducible exact LeO.refl _)
   | (with_reducible exact LeO.none _)
   | (with_reducible refine LeO.ite ?_ ?_)
   | (with_reducible refine LeO.bind ?_ (fun _ => ?_))
   | exact ih0 _ _ _
   | exact ih1 _ _ _ _
   | exact ih2 _ _ _ _
   | exact ih3 _ _ _
   | exact LeO.none _
   | refine LeO.ite ?_ ?_
   | refine LeO.bind ?_ (fun _ => ?_)
theorem remontoirref02_number.mono : ∀ a0 a1 k, LeO (remontoirref02_number.f k a0 a1) (remontoirref02_number.f (k + 1) a0 a1) := by
  intro a0 a1 k
  obtain ⟨ih0, ih1, ih2, ih3⟩ := remontoirref02_number.mono_l k
  unfold remontoirref02_number.f
  repeat' first
      | (with_reducible exact ih0 _ _ _)
      | (with_reducible exact ih1 _ _ _ _)
      | (with_reducible exact ih2 _ _ _ _)
      | (with_reducible exact ih3 _ _ _)
      | (with_reducible exact LeO.refl _)
      | (with_reducible exact LeO.none _)
      | (with_reducible refine LeO.ite ?_ ?_)
      | (with_reducible refine LeO.bind ?_ (fun _ => ?_))
      | exact ih0 _ _ _
      | exact ih1 _ _ _ _
      | exact ih2 _ _ _ _
      | exact ih3 _ _ _
      | exact LeO.none _
      | refine LeO.ite ?_ ?_
      | refine LeO.bind ?_ (fun _ => ?_)
set_option maxHeartbeats 8000000 in
set_option maxRecDepth 100000 in
theorem remontoirref02_number.calls (k : Nat) (a0 : ByteArray) (a1 : Int) (r1 : Int) (r2 : Int) (r3 : Bool) (w : World) (h : remontoirref02_number.f k a0 a1 = some (r1, r2, r3)) :
  Calls Tryz.prog 188 #[.string a0, .int .i64 a1] w fun e w' => e = .returned (.tuple #[.int .u64 r1, .int .i64 r2, .bool r3]) ∧ Drawn0 w w' := by
 have H : (remontoirref02_number.l0 k a0 a1 a1) = some (r1, r2, r3) := h
 clear h
 have HC3 := Aside0.mk H
 clear H
 go_enter Tryz.func188, Tryz.ntmps188
 go_upto_block 0 with (fail)
 go_cut [7] (fun v7 wc => ∃ (kq : Nat) (x7_2 : Int), v7 = .int .i64 x7_2 ∧ Aside0 (remontoirref02_number.j1 kq a0 a1 x7_2 = some (r1, r2, r3)) ∧ Aside0 (kq ≤ k) ∧ Drawn0 w wc)
 case first =>
  have H := HC3.out
  clear HC3
  have H' := Aside0.mk H
  clear H
  go_wp2
  go_loopg [7] k (fun kq v7 w' => ∃ (x7_1 : Int), v7 = .int .i64 x7_1 ∧ Aside0 (remontoirref02_number.l0 kq a0 a1 x7_1 = some (r1, r2, r3)) ∧ Aside0 (kq ≤ k) ∧ Drawn0 w w')
  case atStart => exact ⟨(a1), (by first | rfl | (simp; done) | (simp [*]; done)), H', ⟨Nat.le_refl _⟩, by repeat (first | exact Drawn0.refl _ | apply Drawn0.step)⟩
  case round =>
   clear H'
   try clear c1
   try clear p2
   obtain ⟨x7_1, rfl, HA, HK1, ⟨m1, rfl⟩⟩ := hrel
   cases gk with
   | zero => exact absurd HA.out (by simp [remontoirref02_number.l0])
   | succ k1 =>
    have H := HA.out
    clear HA
    simp only [remontoirref02_number.l0] at H
    by_cases c4 : x7_1 < (a0.size : Int)
    ·rw [if_pos c4] at H
     have c4b0 : decide (x7_1 < (a0.size : Int)) = true := decide_eq_true c4
     clear c4
     (first | rw [c4b0] | (simp only [i64_w, i32_w]; rw [c4b0]) | skip)
     by_cases c5 : 0 ≤ x7_1
     ·rw [if_pos c5] at H
      have c5b0 : decide (0 ≤ x7_1) = true := decide_eq_true c5
      clear c5
      by_cases c7 : (bt a0 x7_1) ≥ 48
      ·rw [if_pos c7] at H
       have c7b0 : decide (48 ≤ (bt a0 x7_1)) = true := decide_eq_true c7
       clear c7
       by_cases c9 : (bt a0 x7_1) ≤ 57
       ·rw [if_pos c9] at H
        have c9b0 : decide ((bt a0 x7_1) ≤ 57) = true := decide_eq_true c9
        clear c9
        have H' := Aside0.mk H
        clear H
        have p6 : 0 ≤ (x7_1 : Int) := of_decide_eq_true (by first | (with_reducible assumption) | assumption)
        have q6 : x7_1 < (a0.size : Int) := of_decide_eq_true (by first | (with_reducible assumption) | assumption)
        have hx6 := bt_at a0 x7_1
        replace p6 := eq_true p6
        replace q6 := eq_true q6
        have p8 : 0 ≤ (x7_1 : Int) := of_decide_eq_true (by first | (with_reducible assumption) | assumption)
        have q8 : x7_1 < (a0.size : Int) := of_decide_eq_true (by first | (with_reducible assumption) | assumption)
        have hx8 := bt_at a0 x7_1
        replace p8 := eq_true p8
        replace q8 := eq_true q8
        go_wp2
        go_roundg k1
        case measure => have := HK1.out; omega
        case rel => exact ⟨(wrap64 (x7_1 + 1)), (by first | rfl | (simp; done) | (simp [*]; done)), H', ⟨by have := HK1.out; omega⟩, by repeat (first | exact Drawn0.refl _ | apply Drawn0.step)⟩
       ·rw [if_neg c9] at H
        have c9b0 : decide ((bt a0 x7_1) ≤ 57) = false := decide_eq_false c9
        clear c9
        have H' := Aside0.mk H
        clear H
        have p6 : 0 ≤ (x7_1 : Int) := of_decide_eq_true (by first | (with_reducible assumption) | assumption)
        have q6 : x7_1 < (a0.size : Int) := of_decide_eq_true (by first | (with_reducible assumption) | assumption)
        have hx6 := bt_at a0 x7_1
        replace p6 := eq_true p6
        replace q6 := eq_true q6
        have p8 : 0 ≤ (x7_1 : Int) := of_decide_eq_true (by first | (with_reducible assumption) | assumption)
        have q8 : x7_1 < (a0.size : Int) := of_decide_eq_true (by first | (with_reducible assumption) | assumption)
        have hx8 := bt_at a0 x7_1
        replace p8 := eq_true p8
        replace q8 := eq_true q8
        go_wp2
        go_meet
        case rel => exact ⟨_, (x7_1), (by first | rfl | (simp; done) | (simp [*]; done)), H', ⟨by have := HK1.out; first | omega | exact Nat.le_refl _⟩, by repeat (first | exact Drawn0.refl _ | apply Drawn0.step)⟩
      ·rw [if_neg c7] at H
       have c7b0 : decide (48 ≤ (bt a0 x7_1)) = false := decide_eq_false c7
       clear c7
       have H' := Aside0.mk H
       clear H
       have p6 : 0 ≤ (x7_1 : Int) := of_decide_eq_true (by first | (with_reducible assumption) | assumption)
       have q6 : x7_1 < (a0.size : Int) := of_decide_eq_true (by first | (with_reducible assumption) | assumption)
       have hx6 := bt_at a0 x7_1
       replace p6 := eq_true p6
       replace q6 := eq_true q6
       go_wp2
       go_meet
       case rel => exact ⟨_, (x7_1), (by first | rfl | (simp; done) | (simp [*]; done)), H', ⟨by have := HK1.out; first | omega | exact Nat.le_refl _⟩, by repeat (first | exact Drawn0.refl _ | apply Drawn0.step)⟩
     ·rw [if_neg c5] at H
      exact absurd H (by simp)
    ·rw [if_neg c4] at H
     have c4b0 : decide (x7_1 < (a0.size : Int)) = false := decide_eq_false c4
     clear c4
     (first | rw [c4b0] | (simp only [i64_w, i32_w]; rw [c4b0]) | skip)
     have H' := Aside0.mk H
     clear H
     go_wp2
     go_meet
     case rel => exact ⟨_, (x7_1), (by first | rfl | (simp; done) | (simp [*]; done)), H', ⟨by have := HK1.out; first | omega | exact Nat.le_refl _⟩, by repeat (first | exact Drawn0.refl _ | apply Drawn0.step)⟩
 case rest =>
  clear HC3
  try clear c1
  try clear p2
  try clear c4
  try clear c4b0
  try clear c5
  try clear c5b0
  try clear p6
  try clear q6
  try clear hx6
  try clear c7
  try clear c7b0
  try clear p8
  try clear q8
  try clear hx8
  try clear c9
  try clear c9b0
  try clear p2
  try clear p6
  try clear p8
  try clear q6
  try clear q8
  obtain ⟨kq, x7_2, rfl, HA, HJ2, ⟨mc2, rfl⟩⟩ := hcut
  cases kq with
  | zero => exact absurd HA.out (by simp [remontoirref02_number.j1])
  | succ kj2 =>
   have H := HA.out
   clear HA
   simp only [remontoirref02_number.j1] at H
   have HC10 := Aside0.mk H
   clear H
   go_upto_region 4 with (fail)
   go_cut [49] (fun v49 wc => ∃ (kq : Nat) (x49_9 : Bool), v49 = .bool x49_9 ∧ Aside0 (remontoirref02_number.j2 kq a0 a1 x7_2 x49_9 = some (r1, r2, r3)) ∧ Aside0 (kq ≤ kj2) ∧ Drawn0 w wc)
   case first =>
    have H := HC10.out
    clear HC10
    by_cases c11 : x7_2 = a1
    ·rw [if_pos c11] at H
     have c11b0 : (x7_2 == a1) = true := beq_iff_eq.mpr c11
     have c11b1 : (x7_2 != a1) = false := bne_eq_false_iff_eq.mpr c11
     clear c11
     (first | rw [c11b0] | (simp only [i64_w, i32_w]; rw [c11b0]) | skip)
     have H' := Aside0.mk H
     clear H
     go_wp2
     go_meet
     case rel => exact ⟨_, (true), (by first | rfl | (simp; done) | (simp [*]; done)), H', ⟨by have := HJ2.out; first | omega | exact Nat.le_refl _⟩, by repeat (first | exact Drawn0.refl _ | apply Drawn0.step)⟩
    ·rw [if_neg c11] at H
     have c11b0 : (x7_2 == a1) = false := beq_eq_false_iff_ne.mpr c11
     have c11b1 : (x7_2 != a1) = true := bne_iff_ne.mpr c11
     (first | rw [c11b0] | (simp only [i64_w, i32_w]; rw [c11b0]) | skip)
     by_cases c12 : (wrap64 (x7_2 - a1)) > 15
     ·rw [if_pos c12] at H
      have c12b0 : decide (15 < (wrap64 (x7_2 - a1))) = true := decide_eq_true c12
      clear c12
      have H' := Aside0.mk H
      clear H
      go_wp2
      go_meet
      case rel => exact ⟨_, (true), (by first | rfl | (simp; done) | (simp [*]; done)), H', ⟨by have := HJ2.out; first | omega | exact Nat.le_refl _⟩, by repeat (first | exact Drawn0.refl _ | apply Drawn0.step)⟩
     ·rw [if_neg c12] at H
      have c12b0 : decide (15 < (wrap64 (x7_2 - a1))) = false := decide_eq_false c12
      clear c12
      by_cases c13 : 0 ≤ a1
      ·rw [if_pos c13] at H
       have c13b0 : decide (0 ≤ a1) = true := decide_eq_true c13
       clear c13
       by_cases c14 : a1 < (a0.size : Int)
       ·rw [if_pos c14] at H
        have c14b0 : decide (a1 < (a0.size : Int)) = true := decide_eq_true c14
        clear c14
        by_cases c16 : (bt a0 a1) = 48
        ·rw [if_pos c16] at H
         have c16b0 : ((bt a0 a1) == 48) = true := beq_iff_eq.mpr c16
         have c16b1 : ((bt a0 a1) != 48) = false := bne_eq_false_iff_eq.mpr c16
         clear c16
         have H' := Aside0.mk H
         clear H
         have p15 : 0 ≤ (a1 : Int) := of_decide_eq_true (by first | (with_reducible assumption) | assumption)
         have q15 : a1 < (a0.size : Int) := of_decide_eq_true (by first | (with_reducible assumption) | assumption)
         have hx15 := bt_at a0 a1
         replace p15 := eq_true p15
         replace q15 := eq_true q15
         go_wp2
         go_meet
         case rel => exact ⟨_, (decide ((wrap64 (x7_2 - a1)) > 1)), (by first | rfl | (simp; done) | (simp [*]; done)), H', ⟨by have := HJ2.out; first | omega | exact Nat.le_refl _⟩, by repeat (first | exact Drawn0.refl _ | apply Drawn0.step)⟩
        ·rw [if_neg c16] at H
         have c16b0 : ((bt a0 a1) == 48) = false := beq_eq_false_iff_ne.mpr c16
         have c16b1 : ((bt a0 a1) != 48) = true := bne_iff_ne.mpr c16
         have H' := Aside0.mk H
         clear H
         have p15 : 0 ≤ (a1 : Int) := of_decide_eq_true (by first | (with_reducible assumption) | assumption)
         have q15 : a1 < (a0.size : Int) := of_decide_eq_true (by first | (with_reducible assumption) | assumption)
         have hx15 := bt_at a0 a1
         replace p15 := eq_true p15
         replace q15 := eq_true q15
         go_wp2
         go_meet
         case rel => exact ⟨_, (false), (by first | rfl | (simp; done) | (simp [*]; done)), H', ⟨by have := HJ2.out; first | omega | exact Nat.le_refl _⟩, by repeat (first | exact Drawn0.refl _ | apply Drawn0.step)⟩
       ·rw [if_neg c14] at H
        exact absurd H (by simp)
      ·rw [if_neg c13] at H
       exact absurd H (by simp)
   case rest =>
    clear HC10
    try clear c1
    try clear p1
    try clear q1
    try clear hx1
    try clear c2
    try clear p2
    try clear c4
    try clear c4b0
    try clear c5
    try clear c5b0
    try clear p6
    try clear q6
    try clear hx6
    try clear c7
    try clear c7b0
    try clear p8
    try clear q8
    try clear hx8
    try clear c9
    try clear c9b0
    try clear c11
    try clear c11b0
    try clear c11b1
    try clear c12
    try clear c12b0
    try clear c13
    try clear c13b0
    try clear c14
    try clear c14b0
    try clear p15
    try clear q15
    try clear hx15
    try clear c16
    try clear c16b0
    try clear c16b1
    try clear p15
    try clear p2
    try clear p6
    try clear p8
    try clear q15
    try clear q6
    try clear q8
    obtain ⟨kq, x49_9, rfl, HA, HJ9, ⟨mc9, rfl⟩⟩ := hcut
    cases kq with
    | zero => exact absurd HA.out (by simp [remontoirref02_number.j2])
    | succ kj9 =>
     have H := HA.out
     clear HA
     simp only [remontoirref02_number.j2] at H
     by_cases c17 : x49_9 = true
     ·subst c17
      have H1 : (some (0, a1, false)) = some (r1, r2, r3) := by rw [if_pos rfl] at H; exact H
      clear H
      have H := H1
      clear H1
      simp only [Option.some.injEq, Prod.mk.injEq] at H
      obtain ⟨rfl, rfl, rfl⟩ := H
      go_wp2
      go_ret3
      exact ⟨by first | rfl | (simp; done) | (simp [*]; done), by repeat (first | exact Drawn0.refl _ | apply Drawn0.step)⟩
     ·replace c17 := Bool.eq_false_iff.mpr c17
      subst c17
      have H1 : (remontoirref02_number.l1 kj9 a0 x7_2 0 a1) = some (r1, r2, r3) := by rw [if_neg (show ¬ (false = true) by decide)] at H; exact H
      clear H
      have H := H1
      clear H1
      have H' := Aside0.mk H
      clear H
      go_wp2
      go_loopg [8, 9] kj9 (fun kq v8 v9 w' => ∃ (x8_3 : Int) (x9_3 : Int), v8 = .int .u64 x8_3 ∧ v9 = .int .i64 x9_3 ∧ Aside0 (remontoirref02_number.l1 kq a0 x7_2 x8_3 x9_3 = some (r1, r2, r3)) ∧ Aside0 (kq ≤ kj9) ∧ Drawn0 w w')
      case atStart => exact ⟨(0), (a1), (by first | rfl | (simp; done) | (simp [*]; done)), (by first | rfl | (simp; done) | (simp [*]; done)), H', ⟨Nat.le_refl _⟩, by repeat (first | exact Drawn0.refl _ | apply Drawn0.step)⟩
      case round =>
       clear H'
       try clear c1
       try clear p1
       try clear q1
       try clear hx1
       try clear c2
       try clear p2
       try clear c4
       try clear c4b0
       try clear c5
       try clear c5b0
       try clear p6
       try clear q6
       try clear hx6
       try clear c7
       try clear c7b0
       try clear p8
       try clear q8
       try clear hx8
       try clear c9
       try clear c9b0
       try clear c11
       try clear c11b0
       try clear c11b1
       try clear c12
       try clear c12b0
       try clear c13
       try clear c13b0
       try clear c14
       try clear c14b0
       try clear p15
       try clear q15
       try clear hx15
       try clear c16
       try clear c16b0
       try clear c16b1
       try clear c17
       try clear p1
       try clear p15
       try clear p2
       try clear p6
       try clear p8
       try clear q1
       try clear q15
       try clear q6
       try clear q8
       obtain ⟨x8_3, x9_3, rfl, rfl, HA, HK3, ⟨m3, rfl⟩⟩ := hrel
       cases gk with
       | zero => exact absurd HA.out (by simp [remontoirref02_number.l1])
       | succ k3 =>
        have H := HA.out
        clear HA
        simp only [remontoirref02_number.l1] at H
        by_cases c18 : x9_3 < x7_2
        ·rw [if_pos c18] at H
         have c18b0 : decide (x9_3 < x7_2) = true := decide_eq_true c18
         clear c18
         by_cases c19 : 0 ≤ x9_3
         ·rw [if_pos c19] at H
          have c19b0 : decide (0 ≤ x9_3) = true := decide_eq_true c19
          clear c19
          by_cases c20 : x9_3 < (a0.size : Int)
          ·rw [if_pos c20] at H
           have c20b0 : decide (x9_3 < (a0.size : Int)) = true := decide_eq_true c20
           clear c20
           have H' := Aside0.mk H
           clear H
           have p21 : 0 ≤ (x9_3 : Int) := of_decide_eq_true (by first | (with_reducible assumption) | assumption)
           have q21 : x9_3 < (a0.size : Int) := of_decide_eq_true (by first | (with_reducible assumption) | assumption)
           have hx21 := bt_at a0 x9_3
           replace p21 := eq_true p21
           replace q21 := eq_true q21
           go_wp2
           go_roundg k3
           case measure => have := HJ2.out; have := HJ9.out; have := HK3.out; omega
           case rel => exact ⟨(IntKind.u64.wrap ((IntKind.u64.wrap (x8_3 * 10)) + (((bt a0 x9_3) - 48) % 256))), (wrap64 (x9_3 + 1)), (by first | rfl | (simp; done) | (simp [*]; done)), (by first | rfl | (simp; done) | (simp [*]; done)), H', ⟨by have := HJ2.out; have := HJ9.out; have := HK3.out; omega⟩, by repeat (first | exact Drawn0.refl _ | apply Drawn0.step)⟩
          ·rw [if_neg c20] at H
           exact absurd H (by simp)
         ·rw [if_neg c19] at H
          exact absurd H (by simp)
        ·rw [if_neg c18] at H
         have c18b0 : decide (x9_3 < x7_2) = false := decide_eq_false c18
         clear c18
         simp only [Option.some.injEq, Prod.mk.injEq] at H
         obtain ⟨rfl, rfl, rfl⟩ := H
         go_wp2
         go_ret3
         exact ⟨by first | rfl | (simp; done) | (simp [*]; done), by repeat (first | exact Drawn0.refl _ | apply Drawn0.step)⟩

end Go.Proofs.YtdfkbiffdcfnpaaGreatDoor.H
/- The document's durations over lists of bytes: the same as span's. -/
namespace Go.Proofs.YtdfkbiffdcfnpaaGreatDoor.H
set_option linter.unusedVariables false
set_option linter.unusedSimpArgs false
def rfAdd (sum n unit : Nat) : Nat := if 1125899906842624 / unit < n then 1125899906842625 else min (sum + n * unit) 1125899906842625
def rfEnd (sum : Nat) : Nat × Int := if sum > 1125899906842624 then (0, 3) else (sum, 0)
/-- r rounds are left of the three. -/
def rfR : Nat → Bool → Nat → List UInt8 → Nat × Int
  | 0, sm, sum, s => if sm = true ∧ s = [] then rfEnd sum else (0, 2)
  | r + 1, sm, sum, s => if spPlace (spNext s).2.1 = 2 - (r : Int) then rfR r true (rfAdd sum (spNext s).1 (spUnit (2 - (r : Int)))) (spNext s).2.2 else rfR r sm sum s
def rfTail (sum : Nat) : List UInt8 → Nat × Int
  | [] => rfEnd sum
  | b :: s => if b = 84 then rfR 3 false sum s else (0, 2)
def spBad (s : List UInt8) : Prop := (dgs s).length < 1 ∨ 15 < (dgs s).length ∨ (dgs s).length = s.length ∨ (s.headD 0 = 48 ∧ 1 < (dgs s).length)
instance (s : List UInt8) : Decidable (spBad s) := by unfold spBad; exact inferInstance
def rfParse : List UInt8 → Nat × Int
  | [] => (0, 2)
  | b :: s => if s = [] ∨ b ≠ 80 then (0, 2) else if spBad s then rfTail 0 s
    else if (spNext s).2.1 = 89 ∨ (spNext s).2.1 = 77 then (0, 4)
    else if (spNext s).2.1 = 87 then (if (spNext s).2.2 = [] then rfEnd (rfAdd 0 (spNext s).1 604800) else (0, 2))
    else if (spNext s).2.1 = 68 then rfTail (rfAdd 0 (spNext s).1 86400) (spNext s).2.2
    else (0, 2)
/-- T is the sum as span has it, S as the document has it. -/
def Same (T S : Nat) : Prop := min T 1125899906842625 = S
theorem same_end {T S : Nat} (h : Same T S) : rfEnd S = spEnd T := by
  unfold Same at h
  unfold rfEnd spEnd
  by_cases c : T > 1125899906842624
  · rw [if_pos c, if_pos (by omega)]
  · rw [if_neg c, if_neg (by omega)]
    have : S = T := by omega
    rw [this]
theorem same_add {T S n u : Nat} (h : Same T S) (hu : 0 < u) : Same (spMore T n u) (rfAdd S n u) := by
  unfold Same at *
  unfold spMore rfAdd
  have hd : (1125899906842624 / u < n) ↔ 1125899906842624 < n * u := Nat.div_lt_iff_lt_mul hu
  generalize n * u = p at *
  by_cases c : 1125899906842624 / u < n
  · rw [if_pos c]
    have hp := hd.1 c
    by_cases c2 : p < 18446744073709551616
    · simp only [if_pos c2]
      split <;> omega
    · simp only [if_neg c2]
      split <;> omega
  · rw [if_neg c]
    have hp : ¬ 1125899906842624 < p := fun q => c (hd.2 q)
    have c2 : p < 18446744073709551616 := by omega
    simp only [if_pos c2]
    split <;> omega
theorem unit_pos (p : Int) : 0 < spUnit p := by unfold spUnit; split; omega; split <;> omega
theorem next_nil : spNext [] = (0, 0, []) := by unfold spNext; rw [if_pos (.inl (by simp [dgs]))]
theorem rfR_parts : ∀ (r : Nat) (sm : Bool) (T S : Nat) (s : List UInt8) (k : Nat), r ≤ 3 → Same T S → r + 1 ≤ k → rfR r sm S s = if s = [] then (if sm = true then spEnd T else (0, 2)) else spParts k (2 - (r : Int)) T s
  | 0, sm, T, S, s, k, _, hS, hk => by
    obtain ⟨k, rfl⟩ : ∃ q, k = q + 1 := ⟨k - 1, by omega⟩
    unfold rfR
    by_cases c : s = []
    · rw [if_pos c, same_end hS]
      cases sm
      · rw [if_neg (by simp), if_neg (by simp)]
      · rw [if_pos ⟨rfl, c⟩, if_pos rfl]
    · rw [if_neg c, if_neg (fun q => c q.2)]
      unfold spParts
      have := spPlace_le (spNext s).2.1
      rw [if_pos (by omega)]
  | r + 1, sm, T, S, s, k, hr, hS, hk => by
    obtain ⟨k, rfl⟩ : ∃ q, k = q + 1 := ⟨k - 1, by omega⟩
    have e2 : (2 : Int) - ((r + 1 : Nat) : Int) = 1 - (r : Int) := by omega
    rw [e2]
    unfold rfR
    by_cases c : s = []
    · subst c
      rw [next_nil, if_pos rfl]
      have : ¬ spPlace 0 = 2 - (r : Int) := by show ¬ (-1 : Int) = _; omega
      rw [if_neg this, rfR_parts r sm T S [] (k + 1) (by omega) hS (by omega), if_pos rfl]
    · rw [if_neg c]
      generalize hx : spNext s = x
      obtain ⟨n, u, rest⟩ := x
      by_cases c2 : spPlace u = 2 - (r : Int)
      · rw [if_pos c2, rfR_parts r true (spMore T n (spUnit (2 - (r : Int)))) _ rest k (by omega) (same_add hS (unit_pos _)) (by omega)]
        conv => rhs; unfold spParts
        rw [hx]
        dsimp only
        rw [c2, if_neg (show ¬ (2 - (r : Int) ≤ 1 - (r : Int)) by omega), if_pos (rfl : true = true)]
      · rw [if_neg c2, rfR_parts r sm T S s (k + 1) (by omega) hS (by omega), if_neg c]
        unfold spParts
        rw [hx]
        dsimp only
        by_cases c3 : spPlace u ≤ 1 - (r : Int)
        · rw [if_pos c3, if_pos (by omega)]
        · rw [if_neg c3, if_neg (by omega)]
theorem rfR_time {T S : Nat} (h : Same T S) (s : List UInt8) : rfR 3 false S s = spParts 4 (-1) T s := by
  rw [rfR_parts 3 false T S s 4 (by omega) h (by omega)]
  by_cases c : s = []
  · subst c
    rw [if_pos rfl, if_neg (by decide)]
    unfold spParts
    rw [next_nil]
    rfl
  · rw [if_neg c]
    rfl
theorem rfTail_time {T S : Nat} (h : Same T S) (s : List UInt8) : rfTail S s = if s = [] then spEnd T else spTime T s := by
  cases s with
  | nil => rw [if_pos rfl]; exact same_end h
  | cons b s =>
    rw [if_neg (by simp), rfTail, spTime]
    by_cases c : b = 84
    · rw [if_pos c, if_pos c]; exact rfR_time h s
    · rw [if_neg c, if_neg c]
theorem rfParse_eq (s : List UInt8) : rfParse s = spParse s := by
  cases s with
  | nil => rfl
  | cons b s =>
    rw [rfParse, spParse]
    by_cases c0 : b = 80
    · rw [if_pos c0]
      by_cases c1 : s = []
      · subst c1
        rw [if_pos (.inl rfl)]
        show _ = if (0 : UInt8) = 84 then _ else _
        rw [if_neg (by decide)]
        unfold spDate
        rw [next_nil]
        rfl
      · rw [if_neg (by rintro (q | q); exact c1 q; exact q c0)]
        by_cases c2 : spBad s
        · have hx : spNext s = (0, 0, []) := by have c2' := c2; unfold spBad at c2'; unfold spNext; rw [if_pos c2']
          rw [if_pos c2, rfTail_time (T := 0) (S := 0) rfl, if_neg c1]
          by_cases c3 : s.headD 0 = 84
          · rw [if_pos c3]
          · rw [if_neg c3]
            unfold spDate
            rw [hx]
            cases s with
            | nil => exact absurd rfl c1
            | cons d s =>
              have c3' : ¬ d = 84 := c3
              show (if d = 84 then spParts 4 (-1) 0 s else (0, 2)) = _
              rw [if_neg c3']
              rfl
        · rw [if_neg c2]
          have c3 : ¬ s.headD 0 = 84 := by
            intro q
            apply c2
            left
            cases s with
            | nil => exact absurd rfl c1
            | cons d s =>
              have : d = 84 := q
              subst this
              unfold dgs
              rw [List.takeWhile_cons, if_neg (by decide)]
              simp
          rw [if_neg c3]
          unfold spDate
          generalize spNext s = x
          obtain ⟨n, u, rest⟩ := x
          by_cases c4 : u = 89 ∨ u = 77
          · rw [if_pos c4, if_pos c4]
          · rw [if_neg c4, if_neg c4]
            by_cases c5 : u = 87
            · rw [if_pos c5, if_pos c5, same_end (same_add (T := 0) (S := 0) rfl (by omega))]
            · rw [if_neg c5, if_neg c5]
              by_cases c6 : u = 68
              · rw [if_pos c6, if_pos c6]
                exact rfTail_time (same_add (T := 0) (S := 0) rfl (by omega)) rest
              · rw [if_neg c6, if_neg c6]
    · rw [if_neg c0, if_pos (.inr c0)]
end Go.Proofs.YtdfkbiffdcfnpaaGreatDoor.H
-- Written by hp.py (a program of this session, over the kit's print.py), with hand-made contracts beside it.
namespace Go.Proofs.YtdfkbiffdcfnpaaGreatDoor.H
open Go.RowKit Go.Proofs.YtdfkbiffdcfnpaaGreatDoorW.PrintWords Go.Proofs.YtdfkbiffdcfnpaaGreatDoorW.PrintLast Go.Proofs.YtdfkbiffdcfnpaaGreatDoorW.PrintMore
attribute [local go_sem] max2_int min2_int max_two min_two max_three min_three max_four min_four   -- for this text's walks alone
set_option linter.unusedVariables false
set_option linter.unusedSimpArgs false

-- HANDMADE remontoir/remontoirref02.add
/-! ### remontoirref02_add: function 189 -/
def remontoirref02_add.f (a0 : Int) (a1 : Int) (a2 : Int) : Option (Int) := if 0 ≤ a0 ∧ a0 ≤ 1125899906842625 ∧ 0 ≤ a1 ∧ a1 < 1000000000000000 ∧ 1 ≤ a2 ∧ a2 ≤ 1000000 then some (rfAdd a0.toNat a1.toNat a2.toNat : Int) else none
theorem remontoirref02_add.calls (a0 : Int) (a1 : Int) (a2 : Int) (r : Int) (w : World) (h : remontoirref02_add.f a0 a1 a2 = some r) :
    Calls Tryz.prog 189 #[.int .u64 a0, .int .u64 a1, .int .u64 a2] w fun e w' => e = .returned (.int .u64 r) ∧ Drawn0 w w' := by
  unfold remontoirref02_add.f at h
  by_cases hl : 0 ≤ a0 ∧ a0 ≤ 1125899906842625 ∧ 0 ≤ a1 ∧ a1 < 1000000000000000 ∧ 1 ≤ a2 ∧ a2 ≤ 1000000
  · rw [if_pos hl] at h
    obtain rfl := Option.some.inj h
    obtain ⟨s, rfl⟩ : ∃ s : Nat, a0 = s := ⟨a0.toNat, by omega⟩
    obtain ⟨n, rfl⟩ : ∃ n : Nat, a1 = n := ⟨a1.toNat, by omega⟩
    obtain ⟨u, rfl⟩ : ∃ u : Nat, a2 = u := ⟨a2.toNat, by omega⟩
    simp only [Int.toNat_natCast]
    clear h
    have hq : 1125899906842624 / u ≤ 1125899906842624 := Nat.div_le_self _ _
    have hdv : Int.tdiv 1125899906842624 (u : Int) = ((1125899906842624 / u : Nat) : Int) := rfl
    have hu0 : ((u : Int) == 0) = false := by rw [beq_eq_false_iff_ne]; omega
    have hu1 : (u == 0) = false := by rw [beq_eq_false_iff_ne]; omega
    have hu2 : ¬ ((u : Int) = 0) := by omega
    have hu3 : ¬ (u = 0) := by omega
    have hmul : (1125899906842624 / u < n) ↔ 1125899906842624 < n * u := Nat.div_lt_iff_lt_mul (by omega)
    have hp : n * u ≤ 1000000000000000 * 1000000 := Nat.mul_le_mul (by omega) (by omega)
    have hpc : (n : Int) * (u : Int) = ((n * u : Nat) : Int) := (Int.natCast_mul n u).symm
    unfold rfAdd
    generalize 1125899906842624 / u = q at *
    generalize n * u = p at *
    have hwd : IntKind.u64.wrap ((q : Nat) : Int) = (q : Int) := by rw [IntKind.wrap_u64]; omega
    by_cases c : q < n
    · rw [if_pos c]
      have d1 : decide ((q : Int) < (n : Int)) = true := decide_eq_true (by omega)
      have d2 : decide (q < n) = true := decide_eq_true c
      have HQ := Aside0.mk hq
      clear hp hmul hl c hq hpc
      go_enter Tryz.func189, Tryz.ntmps189
      go_wp2
      go_ret
      exact ⟨rfl, Drawn0.refl _⟩
    · rw [if_neg c]
      have hp2 : p ≤ 1125899906842624 := by omega
      have d1 : decide ((q : Int) < (n : Int)) = false := decide_eq_false (by omega)
      have d2 : decide (q < n) = false := decide_eq_false c
      have hw1 : IntKind.u64.wrap ((p : Nat) : Int) = (p : Int) := by rw [IntKind.wrap_u64]; omega
      have hw2 : IntKind.u64.wrap ((s : Int) + (p : Int)) = ((s + p : Nat) : Int) := by rw [IntKind.wrap_u64]; omega
      have hmn : Builtin.min2 (.int .u64 ((s + p : Nat) : Int)) (.int .u64 1125899906842625) = pure (.int .u64 ((min (s + p) 1125899906842625 : Nat) : Int)) := by
        rw [min2_int]
        by_cases c2 : (1125899906842625 : Int) < ((s + p : Nat) : Int)
        · rw [if_pos c2, Nat.min_eq_right (by omega)]; rfl
        · rw [if_neg c2, Nat.min_eq_left (by omega)]
      generalize s + p = t at *
      generalize min t 1125899906842625 = m at *
      clear hp hmul hl c hq hp2
      go_enter Tryz.func189, Tryz.ntmps189
      go_wp2
      go_ret
      exact ⟨rfl, Drawn0.refl _⟩
  · rw [if_neg hl] at h
    cases h


end Go.Proofs.YtdfkbiffdcfnpaaGreatDoor.H
