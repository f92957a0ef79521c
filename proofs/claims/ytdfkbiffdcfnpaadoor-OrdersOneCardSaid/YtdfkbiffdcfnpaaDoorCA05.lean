/- Parts of the proof of LawOrdersOne: words, contracts of the functions, plain laws. -/
import Derived.Test.YtdfkbiffdcfnpaaDoorCA04
import Derived.Sort.OwnSortedInts
import Derived.Lib.OwnBridge
import Derived.Test.YtdfkbiffdcfnpaaDoorCA02
import Derived.LoopN
import Derived.Test.YtdfkbiffdcfnpaaDoorProg
import Derived.Lib.SlicesCompact
/- Jobs: rounds of its loop. -/
namespace Go.Proofs.YtdfkbiffdcfnpaaDoor.H
open Go.RowKit Go.HK Go.Lib Go.WideShapes Go.ChangeShapes Go.Proofs.YtdfkbiffdcfnpaaDoorW.PrintWords Go.Proofs.YtdfkbiffdcfnpaaDoorW.PrintLast Go.Proofs.YtdfkbiffdcfnpaaDoorW.PrintMore
set_option linter.unusedVariables false
set_option linter.unusedSimpArgs false
theorem infoInt : ∃ i, Tryd.prog.info? 3 = some i ∧ i.zero = some (.int .i64 0) ∧ i.size = 1 ∧ i.bytes = 8 := by
  have h : (Tryd.prog.info? 3).map (fun i => (i.zero, i.size, i.bytes)) = some (some (.int .i64 0), 1, 8) := by kernel_rfl
  obtain ⟨i, hi, e⟩ := Option.map_eq_some_iff.1 h
  injection e with e1 e2
  injection e2 with e2 e3
  exact ⟨i, hi, e1, e2, e3⟩
/-- v is a row of the numbers zs, in memory from B on. -/
def RowI (w : World) (B : Nat) (v : Value) (zs : List Int) : Prop := w.ownsRow B 3 1 v zs.length (zs.map (.int .i64))
section
variable {w w' : World} {B B' : Nat} {v : Value} {zs : List Int}
theorem RowI.nil (w : World) (B : Nat) : RowI w B (.slice none 0 0) [] := World.ownsRow_nil _ _ _ _
theorem RowI.own (h : RowI w B v zs) : ∀ k, v.ownBlock = some k → B ≤ k := by
  rcases h.2 with ⟨rfl, _⟩ | ⟨g, cap, cur, rfl, h2, _⟩
  · intro k e; cases e
  · intro k e; cases e; exact h2
theorem RowI.lt (h : RowI w B v zs) : ∀ k, v.ownBlock = some k → k < w.heap.size := by
  intro k hk
  rcases h.2 with ⟨rfl, _⟩ | ⟨g, cap, cur, rfl, _, hg, _⟩
  · cases hk
  · cases hk
    exact blk_lt hg
theorem RowI.move (h : RowI w B v zs) (e : ∀ k, v.ownBlock = some k → w'.heap[k]? = w.heap[k]?) : RowI w' B v zs := by
  refine ⟨h.1, ?_⟩
  rcases h.2 with h2 | ⟨g, cap, cur, rfl, hB, hg, r⟩
  · exact .inl h2
  · exact .inr ⟨g, cap, cur, rfl, hB, (e g rfl).trans hg, r⟩
theorem RowI.keep (h : RowI w B v zs) (hb : Below w.heap.size w w') : RowI w' B v zs := h.move (fun k hk => hb.block k (h.lt k hk))
theorem RowI.down (h : RowI w B v zs) (hb : B' ≤ B) : RowI w B' v zs := by
  refine ⟨h.1, ?_⟩
  rcases h.2 with h2 | ⟨g, cap, cur, rfl, hB, r⟩
  · exact .inl h2
  · exact .inr ⟨g, cap, cur, rfl, Nat.le_trans hb hB, r⟩
theorem RowQ.down {l : List O5} (h : RowQ w B v l) (hb : B' ≤ B) : RowQ w B' v l := by
  refine ⟨h.1, ?_⟩
  rcases h.2 with h2 | ⟨g, cap, cur, rfl, hB, r⟩
  · exact .inl h2
  · exact .inr ⟨g, cap, cur, rfl, Nat.le_trans hb hB, r⟩
theorem RowI.snoc {x : Int} (h : w.ownsRow B 3 1 v (zs.length + 1) (zs.map (.int .i64) ++ [.int .i64 x])) : RowI w B v (zs ++ [x]) := by
  unfold RowI
  rw [List.length_append, List.map_append]
  exact h
/-- append(v, x): one more. -/
theorem imore {gx : Nat} {x : Int} (hx : w.heap[gx]? = some (.cells #[.int .i64 x] 3 (0, 0))) (hR : RowI w B v zs) (hb : B ≤ w.heap.size) (hl : zs.length ≤ 1000) :
    ∃ v' w3, (Builtin.append_ #[38, 38] 38 #[v, .slice (some ⟨gx, 0, none⟩) 1 1]).run Tryd.prog w = .ok v' w3 ∧ RowI w3 B v' (zs ++ [x]) ∧ w.grownBy w3 v.ownBlock := by
  obtain ⟨i0, hi0, hz0, hz1, hz2⟩ := infoInt
  obtain ⟨v', w3, h1, h2, h3, _, _⟩ := run_append_own_at (P := Tryd.prog) w B 38 38 3 i0 (.int .i64 0) 1 8 Tryd.underlying38 hi0 hz0 hz1 hz2 rfl (by decide) v zs.length (zs.map (.int .i64)) hR ⟨gx, 0, none⟩ 1 1 [.int .i64 x] rfl (fun j u hj => by
    rw [Addr.add_mid, blk_cell hx]
    simpa using hj) (fun u hu => by simp at hu; subst hu; rfl) (by unfold maxLen; omega) (by omega) hb
  exact ⟨v', w3, h1, RowI.snoc h2, h3⟩
end
theorem jobs_body {c0 c1 c2 c3 body : Code} {z0 : Nat}  {c0' c1' c2' c3' body' : Code} {z0' : Nat}  (h : Tryd.f10.body = some (.seq c0 (.seq c1 (.seq (.seq c2 (.block z0 (.loop body))) c3)))) (h' : Tryd.f10.body = some (.seq c0' (.seq c1' (.seq (.seq c2' (.block z0' (.loop body'))) c3')))) : body' = body := by
  rw [h] at h'
  simp only [Option.some.injEq, Code.seq.injEq, Code.cond.injEq, Code.block.injEq, Code.loop.injEq] at h'
  simp only [h']
set_option maxRecDepth 100000 in
set_option maxHeartbeats 4000000 in
theorem jobs_round {w0 w : World} {a : Addr} {n cap i : Nat} {x : O5} {va u : Value} {zs : List Int} {Q : Exit → Act → World → Prop} {N : Nat} {c0 c1 c2 c3 body : Code} {z0 : Nat}  {x1 x4 x5 x10 x11 x12 x13 x14 x15 x16 x17 x18 x19 x20 x21 x22 : Value}
    (hB : Tryd.f10.body = some (.seq c0 (.seq c1 (.seq (.seq c2 (.block z0 (.loop body))) c3)))) (HX : Aside0 (∀ r, r < 5 → w.cell? (a.add (i * 5 + r)) = (c5 x)[r]?)) (HR : Aside0 (RowI w w0.heap.size u zs)) (HB : Aside0 (Below w0.heap.size w0 w)) (hi : i < n) (hn : n ≤ 100) (ho : zs.length ≤ 100)
    (cont : ∀ (w' : World) (u' : Value) (y1 y4 y5 y10 y11 y12 y13 y14 y15 y16 y17 y18 y19 y20 y21 y22 : Value), RowI w' w0.heap.size u' (zs ++ [x.2.1]) → Below w0.heap.size w0 w' → Code.rounds Tryd.prog body Q N ⟨#[va, y1, .slice none 0 0, u', y4, y5, va, .slice (some a) n cap, .int .i64 n, .int .i64 (i + 1), y10, y11, y12, y13, y14, y15, y16, y17, y18, y19, y20, y21, y22], []⟩ w') :
    Code.rounds Tryd.prog body Q (N + 1) ⟨#[va, x1, .slice none 0 0, u, x4, x5, va, .slice (some a) n cap, .int .i64 n, .int .i64 i, x10, x11, x12, x13, x14, x15, x16, x17, x18, x19, x20, x21, x22], []⟩ w := by
  have hbody := jobs_body rfl hB
  clear hB
  subst hbody
  have hcont := Aside0.mk cont
  clear cont
  obtain ⟨k', tok, b, c, d, hx⟩ : ∃ k' tok b c d, x = (k', tok, b, c, d) := ⟨_, _, _, _, _, rfl⟩
  subst hx
  have IJ := Aside0.mk (fun (v : World) => arg_index (w := v) (a := a) (cap := cap) hi)
  have LD := Aside0.mk (show (Instr.loadAt 35 (.pointer (some (a.add (i * 5))))).run Tryd.prog w = .ok (ov k' tok b c d) w from arg_load HX.out)
  have BA := Aside0.mk (HB.out.trans (((Below.refl w.heap.size w).alloc (Nat.le_refl _) (.cells (ocs k' tok b c d) 35)).mono HB.out.size))
  have RA := Aside0.mk (HR.out.keep ((Below.refl w.heap.size w).alloc (Nat.le_refl _) (.cells (ocs k' tok b c d) 35)))
  have B2 := BA.out.trans (((Below.refl _ _).alloc (Nat.le_refl _) (.cells #[.int .i64 tok] 3)).mono BA.out.size)
  have R2 := RA.out.keep ((Below.refl _ _).alloc (Nat.le_refl _) (.cells #[.int .i64 tok] 3))
  obtain ⟨u', w3, m1, m2, m3⟩ := imore (w := ((w.alloc (.cells (ocs k' tok b c d) 35)).alloc (.cells #[.int .i64 tok] 3))) (x := tok) (gx := (w.alloc (.cells (ocs k' tok b c d) 35)).heap.size) (heap_alloc_last (w.alloc (.cells (ocs k' tok b c d) 35)) _) R2 B2.size (by omega)
  have B3 := Aside0.mk (B2.grown m3 B2.size (fun k e => R2.own k e))
  have R3 := Aside0.mk m2
  have M1 := Aside0.mk (show (Builtin.append_ #[38, 38] 38 #[u, .slice (some ⟨w.heap.size + 1, 0, none⟩) 1 1]).run Tryd.prog ((w.alloc (.cells (ocs k' tok b c d) 35)).alloc (.cells #[.int .i64 tok] 3)) = .ok u' w3 from by rw [World.size_alloc] at m1; exact m1)
  clear m1 m2 m3 B2 R2
  rw [rounds_succ]
  go_wp2_with (first
    | (refine Great.wpList_runTo rfl (some 17) rfl u' w3 (exec_append rfl M1.out) ?_)
    | (refine Great.wpList_readTo rfl (some 11) rfl (.pointer (some (a.add (i * 5)))) (exec_indexAddr rfl (IJ.out _)) ?_)
    | (refine Great.wpList_readTo rfl (some 12) rfl (ov k' tok b c d) (exec_load rfl LD.out) ?_))
  exact hcont.out _ _ _ _ _ _ _ _ _ _ _ _ _ _ _ _ _ _ R3.out B3.out
set_option maxRecDepth 100000 in
set_option maxHeartbeats 4000000 in
theorem jobs_end {w : World} {n cap : Nat} {A : Option Addr} {va u : Value} {Q : Exit → Act → World → Prop} {N : Nat} {c0 c1 c2 c3 body : Code} {z0 : Nat}  {x1 x4 x5 x10 x11 x12 x13 x14 x15 x16 x17 x18 x19 x20 x21 x22 : Value} (hB : Tryd.f10.body = some (.seq c0 (.seq c1 (.seq (.seq c2 (.block z0 (.loop body))) c3)))) (hn : n ≤ 100)
    (cont : ∀ (y1 y4 y5 y10 y11 y12 y13 y14 y15 y16 y17 y18 y19 y20 y21 y22 : Value), Q (.exit 0) ⟨#[va, y1, .slice none 0 0, u, y4, y5, va, .slice A n cap, .int .i64 n, .int .i64 n, y10, y11, y12, y13, y14, y15, y16, y17, y18, y19, y20, y21, y22], []⟩ w) : Code.rounds Tryd.prog body Q (N + 1) ⟨#[va, x1, .slice none 0 0, u, x4, x5, va, .slice A n cap, .int .i64 n, .int .i64 n, x10, x11, x12, x13, x14, x15, x16, x17, x18, x19, x20, x21, x22], []⟩ w := by
  have hbody := jobs_body rfl hB
  clear hB
  subst hbody
  have hcont := Aside0.mk cont
  clear cont
  rw [rounds_succ]
  go_wp2
  exact hcont.out _ _ _ _ _ _ _ _ _ _ _ _ _ _ _ _
set_option maxRecDepth 100000 in
set_option maxHeartbeats 4000000 in
theorem jobs_loop {w0 : World} {A : Option Addr} {cap : Nat} {va : Value} {l : List O5} {Q : Exit → Act → World → Prop} {c0 c1 c2 c3 body : Code} {z0 : Nat}  (hB : Tryd.f10.body = some (.seq c0 (.seq c1 (.seq (.seq c2 (.block z0 (.loop body))) c3)))) (HA : ArgO w0 (.slice A l.length cap) l) (hn : l.length ≤ 100)
    (hK : ∀ (w' : World) (u : Value) (y1 y4 y5 y10 y11 y12 y13 y14 y15 y16 y17 y18 y19 y20 y21 y22 : Value), RowI w' w0.heap.size u (l.map (·.2.1)) → Below w0.heap.size w0 w' → Q (.exit 0) ⟨#[va, y1, .slice none 0 0, u, y4, y5, va, .slice A l.length cap, .int .i64 l.length, .int .i64 l.length, y10, y11, y12, y13, y14, y15, y16, y17, y18, y19, y20, y21, y22], []⟩ w') :
    ∀ (d i : Nat) (w : World) (u : Value) {y1 y4 y5 y10 y11 y12 y13 y14 y15 y16 y17 y18 y19 y20 y21 y22 : Value}, i + d = l.length → RowI w w0.heap.size u ((l.take i).map (·.2.1)) → Below w0.heap.size w0 w → Code.rounds Tryd.prog body Q (d + 1) ⟨#[va, y1, .slice none 0 0, u, y4, y5, va, .slice A l.length cap, .int .i64 l.length, .int .i64 i, y10, y11, y12, y13, y14, y15, y16, y17, y18, y19, y20, y21, y22], []⟩ w := by
  intro d
  induction d with
  | zero =>
    intro i w u y1 y4 y5 y10 y11 y12 y13 y14 y15 y16 y17 y18 y19 y20 y21 y22 hd HR HB
    obtain rfl : i = l.length := by omega
    rw [List.take_length] at HR
    exact jobs_end hB hn (fun y1 y4 y5 y10 y11 y12 y13 y14 y15 y16 y17 y18 y19 y20 y21 y22 => hK w u y1 y4 y5 y10 y11 y12 y13 y14 y15 y16 y17 y18 y19 y20 y21 y22 HR HB)
  | succ d ih =>
    intro i w u y1 y4 y5 y10 y11 y12 y13 y14 y15 y16 y17 y18 y19 y20 y21 y22 hd HR HB
    have hi : i < l.length := by omega
    obtain ⟨A', cap', e, ha⟩ := HA.keep HB
    injection e with e1 e2 e3
    subst e1 e3
    obtain ⟨a, rfl, hx⟩ := ha i hi
    refine jobs_round hB ⟨hx⟩ ⟨HR⟩ ⟨HB⟩ hi hn (by rw [List.length_map, List.length_take]; omega) (fun w' u' y1 y4 y5 y10 y11 y12 y13 y14 y15 y16 y17 y18 y19 y20 y21 y22 hr hb => ih (i + 1) w' u' (by omega) ?_ hb)
    rw [List.take_add_one, List.map_append, List.getElem?_eq_getElem hi]
    rw [List.getD_eq_getElem?_getD, List.getElem?_eq_getElem hi] at hr
    exact hr
end Go.Proofs.YtdfkbiffdcfnpaaDoor.H
/- Jobs. -/
namespace Go.Proofs.YtdfkbiffdcfnpaaDoor.H
open Go.RowKit Go.HK Go.Sort Go.WideShapes Go.ChangeShapes Go.Proofs.YtdfkbiffdcfnpaaDoorW.PrintWords Go.Proofs.YtdfkbiffdcfnpaaDoorW.PrintLast Go.Proofs.YtdfkbiffdcfnpaaDoorW.PrintMore
set_option linter.unusedVariables false
set_option linter.unusedSimpArgs false
theorem compact_len (zs : List Int) : (Lib.compact zs).length ≤ zs.length := by
  unfold Lib.compact Lib.compactUpTo
  rw [List.length_map]
  have := List.length_filter_le (Lib.keeps zs.toArray) (List.range zs.length)
  rw [List.length_range] at this
  exact this
theorem below_growS {B : Nat} {w0 w : World} {os : Array Obj} (h : Below B w0 w) (hB : B ≤ w0.heap.size) : Below B w0 (Sort.grow w os) :=
  ⟨h.os, h.tape, h.output, by have := h.size; simp [Sort.grow]; omega, fun k hk => by rw [← h.block k hk]; have := h.size; exact Sort.heap_grow_old _ _ (by omega)⟩
theorem holds_own {w : World} {b g n cap : Nat} {e : TypeId} {zs : List Int} (h : w.ownsRow b e 1 (.slice (some ⟨g, 0, none⟩) n cap) n (zs.map (Value.int .i64))) : Sort.Holds (Value.int .i64) w g 0 zs.toArray := by
  obtain ⟨g', c', e1, _, _, _, _, _, hH⟩ := Lib.holds_of_ownsRow (enc := Value.int .i64) h (by intro q; cases q)
  injection e1 with e1 _ _
  injection e1 with e1
  injection e1 with e1
  subst e1
  exact hH
theorem own_cut {w : World} {b g cap q m : Nat} {e : TypeId} {zs : List Int} (h : w.ownsRow b e 1 (.slice (some ⟨g, 0, none⟩) m cap) m (zs.map (Value.int .i64))) (hk : (Lib.compact zs).length ≤ m) (hl : zs.length = m) :
    (Sort.putRow (Value.int .i64) (Sort.ahead w q) g 0 (Lib.compact zs ++ List.replicate (m - (Lib.compact zs).length) 0).toArray).ownsRow b e 1 (.slice (some ⟨g, 0, none⟩) (Lib.compact zs).length cap) (Lib.compact zs).length ((Lib.compact zs).map (Value.int .i64)) := by
  have := Lib.ownsRow_putRow (enc := Value.int .i64) (q := q) (k := (Lib.compact zs).length) (ys := Lib.compact zs ++ List.replicate (m - (Lib.compact zs).length) 0) h (by rw [List.length_append, List.length_replicate]; omega) hk
  rw [List.take_left] at this
  exact this
def jobsL (l : List O5) : List Int := Lib.compact (((keptL 1 l).map (·.2.1)).mergeSort fun x y => decide (x ≤ y))
set_option maxRecDepth 100000 in
set_option maxHeartbeats 4000000 in
theorem jobs_calls {w : World} {v : Value} {l : List O5} (HA : ArgO w v l) (hn : l.length ≤ 100) :
    Calls Tryd.prog 10 #[v] w fun e w' => ∃ r, e = .returned r ∧ RowI w' w.heap.size r (jobsL l) ∧ Below w.heap.size w w' := by
  have H := Aside0.mk HA
  clear HA
  generalize v = va at *
  have hkl : (keptL 1 l).length ≤ 100 := by have := keptL_len 1 l l.length (Nat.le_refl _); rw [List.take_length] at this; omega
  obtain ⟨res, hres⟩ : ∃ res, jobsL l = res := ⟨_, rfl⟩
  rw [hres]
  unfold jobsL at hres
  generalize hkk : keptL 1 l = m at *
  have HRS := Aside0.mk hres
  clear hres
  go_enter Tryd.func10, Tryd.ntmps10
  go_wp2_with (go_at_call 15; refine (kept_calls (kd := 1) H.out hn).mono ?_; rintro e w1 ⟨r, rfl, h1, h2⟩; rw [hkk] at h1; obtain ⟨A, cap, rfl, hA⟩ := h1.arg; have A1 := Aside0.mk (show ArgO w1 (.slice A m.length cap) m from ⟨A, cap, rfl, hA⟩); have B1 := Aside0.mk h2; clear h1 h2 hA hkk)
  refine wp_loop_rounds (m.length + 1) ?_
  refine jobs_loop (l := m) rfl A1.out hkl ?_ m.length 0 w1 (.slice none 0 0) (by omega) (RowI.nil _ _) (Below.refl _ _)
  intro w2 u y1 y4 y5 y10 y11 y12 y13 y14 y15 y16 y17 y18 y19 y20 y21 y22 hr hb
  have HR := Aside0.mk (RowI.down hr B1.out.size)
  have HB := Aside0.mk (B1.out.trans (hb.mono B1.out.size))
  clear hr hb
  generalize hxs : m.map (·.2.1) = xs at *
  have hxl : xs.length = m.length := by rw [← hxs, List.length_map]
  clear hxs A1 B1 H
  have hsl : (xs.mergeSort fun x y => decide (x ≤ y)).length = xs.length := List.length_mergeSort _
  rcases HR.out.2 with ⟨e0, h0⟩ | ⟨g, cap2, cur, e0, hg, hh, hn2, hcap, hsz, htk⟩
  · subst e0
    have hx0 : xs = [] := List.eq_nil_of_length_eq_zero h0
    subst hx0
    go_wp2_with (first
      | (go_at_call 16; refine (Tryd.slices_Sort_int_none _ _ _).mono ?_; rintro e1 w1 ⟨rfl, rfl⟩)
      | (go_at_call 17; refine (Tryd.slices_Compact_int_empty _ _ _).mono ?_; rintro e1 w1 ⟨rfl, rfl⟩))
    go_ret
    have hr0 : res = [] := by rw [← HRS.out, List.mergeSort_nil]; rfl
    rw [hr0]
    exact ⟨_, rfl, HR.out, HB.out⟩
  · subst e0
    have HS := Aside0.mk (fun (W : World) hH h1 h2 => Tryd.slices_Sort_int g 0 cap2 xs W hH h1 h2)
    have HG := Aside0.mk hg
    have HH := Aside0.mk hh
    have HH2 := Aside0.mk (holds_own HR.out)
    have hgs : g < w2.heap.size := blk_lt hh
    generalize (xs.mergeSort fun x y => decide (x ≤ y)) = zs at *
    have hcl := compact_len zs
    have HCC := Aside0.mk (fun (W : World) hH => Tryd.slices_Compact_int g 0 cap2 zs W hH (by omega) (by omega))
    rw [hsl] at HCC
    have hz0 : xs.length < 4611686018427387904 := by omega
    have hz1 : (Lib.compact zs).length ≤ xs.length := by omega
    have HSL := Aside0.mk hsl
    have HXL := Aside0.mk hxl
    clear htk hh hg hsl hxl hcl
    go_wp2_with (first
      | (go_at_call 16; refine (HS.out w2 HH2.out hgs hz0).mono ?_; rintro e1 w3 ⟨rfl, n1, os1, hw1⟩; have HB1 := Aside0.mk (show Below w.heap.size w w3 by rw [hw1]; exact below_growS (Lib.below_putRow HB.out HG.out) (Nat.le_refl _)); have HO1 := Aside0.mk (show w3.ownsRow w.heap.size 3 1 (.slice (some ⟨g, 0, none⟩) xs.length cap2) xs.length (zs.map (.int .i64)) by rw [hw1]; exact ownsRow_sortedI HSL.out HG.out HH.out hn2 hcap hsz); clear hw1)
      | (go_at_call 17; refine (HCC.out w3 (holds_own HO1.out)).mono ?_; rintro e2 w4 ⟨rfl, q2, hw2⟩; have HB2 := Aside0.mk (show Below w.heap.size w w4 by rw [hw2]; exact Lib.below_putRow HB1.out HG.out); have HO2 := Aside0.mk (show w4.ownsRow w.heap.size 3 1 (.slice (some ⟨g, 0, none⟩) (Lib.compact zs).length cap2) (Lib.compact zs).length ((Lib.compact zs).map (.int .i64)) by rw [hw2]; exact own_cut HO1.out hz1 HSL.out); clear hw2))
    go_ret
    rw [← HRS.out]
    exact ⟨_, rfl, HO2.out, HB2.out⟩
end Go.Proofs.YtdfkbiffdcfnpaaDoor.H
/- Sorted rows without twins: Compact behind Sort; insertion. -/
namespace Go.Proofs.YtdfkbiffdcfnpaaDoor.H
set_option linter.unusedVariables false
set_option linter.unusedSimpArgs false
theorem jb_upto (d : Array Int) (x : Int) : ∀ m, x ∈ Lib.compactUpTo d m ↔ ∃ j, j < m ∧ d[j]! = x
  | 0 => by simp [Lib.compactUpTo]
  | m + 1 => by
    rw [Lib.compactUpTo_succ, List.mem_append, jb_upto d x m]
    by_cases h : Lib.keeps d m = true
    · rw [if_pos h]
      constructor
      · rintro (⟨j, hj, e⟩ | h1)
        · exact ⟨j, by omega, e⟩
        · exact ⟨m, by omega, (List.mem_singleton.1 h1).symm⟩
      · rintro ⟨j, hj, e⟩
        by_cases hm : j = m
        · subst hm
          exact Or.inr (List.mem_singleton.2 e.symm)
        · exact Or.inl ⟨j, by omega, e⟩
    · rw [if_neg h]
      have h2 : m ≠ 0 ∧ d[m]! = d[m - 1]! := by
        unfold Lib.keeps at h
        simp only [decide_eq_true_eq, not_or, Decidable.not_not] at h
        exact h
      constructor
      · rintro (⟨j, hj, e⟩ | h1)
        · exact ⟨j, by omega, e⟩
        · cases h1
      · rintro ⟨j, hj, e⟩
        by_cases hm : j = m
        · subst hm
          exact Or.inl ⟨j - 1, by omega, by rw [← h2.2]; exact e⟩
        · exact Or.inl ⟨j, by omega, e⟩
theorem jb_mem (zs : List Int) (x : Int) : x ∈ Lib.compact zs ↔ x ∈ zs := by
  unfold Lib.compact
  rw [jb_upto]
  constructor
  · rintro ⟨j, hj, e⟩
    have : (zs.toArray)[j]! = zs[j] := by simp [hj]
    rw [this] at e
    rw [← e]
    exact List.getElem_mem hj
  · intro h
    obtain ⟨j, hj, e⟩ := List.mem_iff_getElem.1 h
    exact ⟨j, hj, by rw [← e]; simp [hj]⟩
theorem jb_lt (zs : List Int) (h : zs.Pairwise (· ≤ ·)) : ∀ m, m ≤ zs.length → (Lib.compactUpTo zs.toArray m).Pairwise (· < ·)
  | 0, _ => by simp [Lib.compactUpTo]
  | m + 1, hm => by
    rw [Lib.compactUpTo_succ]
    have ih := jb_lt zs h m (by omega)
    by_cases hk : Lib.keeps zs.toArray m = true
    · rw [if_pos hk, List.pairwise_append]
      refine ⟨ih, List.pairwise_singleton _ _, ?_⟩
      intro x hx y hy
      obtain rfl := List.mem_singleton.1 hy
      obtain ⟨j, hj, rfl⟩ := (jb_upto _ _ _).1 hx
      have hk2 : m = 0 ∨ zs.toArray[m]! ≠ zs.toArray[m - 1]! := by unfold Lib.keeps at hk; simpa using hk
      have hp : ∀ i k, i < k → k < zs.length → zs.toArray[i]! ≤ zs.toArray[k]! := by
        intro i k hik hk'
        have := List.pairwise_iff_getElem.1 h i k (by omega) hk' hik
        simpa [hk', show i < zs.length by omega] using this
      rcases hk2 with rfl | hk2
      · omega
      · have h1 := hp (m - 1) m (by omega) (by omega)
        rcases Nat.lt_or_ge j (m - 1) with q | q
        · have := hp j (m - 1) q (by omega)
          omega
        · obtain rfl : j = m - 1 := by omega
          omega
    · rw [if_neg hk, List.append_nil]; exact ih
/-- The set of some numbers, in order. -/
def jset (zs : List Int) : List Int := Lib.compact (zs.mergeSort fun x y => decide (x ≤ y))
theorem jset_lt (zs : List Int) : (jset zs).Pairwise (· < ·) := by
  unfold jset
  have h : (zs.mergeSort fun x y => decide (x ≤ y)).Pairwise (fun x y => decide (x ≤ y) = true) := List.pairwise_mergeSort (fun a b c h1 h2 => by simp at *; omega) (fun a b => by simp; omega) zs
  exact jb_lt _ (h.imp (fun q => of_decide_eq_true q)) _ (Nat.le_refl _)
theorem jset_mem (zs : List Int) (x : Int) : x ∈ jset zs ↔ x ∈ zs := by
  unfold jset
  rw [jb_mem]
  exact (List.mergeSort_perm zs _).mem_iff
theorem jset_new (zs : List Int) (t : Int) (h : t ∉ zs) : (jset (zs ++ [t])).length = (jset zs).length + 1 := by
  have nd : ∀ l : List Int, l.Pairwise (· < ·) → l.Nodup := fun l h => h.imp (fun q e => by omega)
  have p : (jset (zs ++ [t])).Perm (t :: jset zs) := by
    refine (List.perm_ext_iff_of_nodup (nd _ (jset_lt _)) (List.nodup_cons.2 ⟨by rw [jset_mem]; exact h, nd _ (jset_lt _)⟩)).2 (fun x => ?_)
    rw [jset_mem]
    simp only [List.mem_append, List.mem_cons, List.mem_singleton, List.not_mem_nil, or_false, jset_mem]
    exact Or.comm
  rw [p.length_eq, List.length_cons]
/-- Insertion into a sorted row, if it isn't there. -/
def insJ (x : Int) : List Int → List Int
  | [] => [x]
  | y :: l => if y < x then y :: insJ x l else if y = x then y :: l else x :: y :: l
end Go.Proofs.YtdfkbiffdcfnpaaDoor.H
/- Rows of orders: from the printed kinds and back. -/
namespace Go.Proofs.YtdfkbiffdcfnpaaDoor.H
open Go.RowKit Go.HK Go.Lib Go.WideShapes Go.ChangeShapes Go.Proofs.YtdfkbiffdcfnpaaDoorW.PrintWords Go.Proofs.YtdfkbiffdcfnpaaDoorW.PrintLast Go.Proofs.YtdfkbiffdcfnpaaDoorW.PrintMore
set_option linter.unusedVariables false
set_option linter.unusedSimpArgs false
abbrev SO := S35
abbrev kO := k35
def o5 (x : SO) : O5 := (x.f0, x.f1, x.f2, x.f3, x.f4)
def s5 (x : O5) : SO := ⟨x.1, x.2.1, x.2.2.1, x.2.2.2.1, x.2.2.2.2⟩
theorem argO_of {w : World} {A : Option Addr} {c : Nat} {l : List SO} (h : Kd.C kO w A l.length l) : ArgO w (.slice A l.length c) (l.map o5) := by
  refine ⟨A, c, by rw [List.length_map], fun i hi => ?_⟩
  rw [List.length_map] at hi
  obtain ⟨ad, e, hc⟩ := h.2.2 (by omega)
  obtain ⟨cs, h1, h2, h3⟩ := hc i _ (List.getElem?_eq_getElem hi)
  refine ⟨ad, e, fun r hr => ?_⟩
  have hs : cs = c5 (o5 l[i]) := k35_open h2
  have hg : (l.map o5).getD i o0 = o5 l[i] := by rw [List.getD_eq_getElem?_getD, List.getElem?_map, List.getElem?_eq_getElem hi]; rfl
  rw [hg, ← hs]
  obtain ⟨u, hu⟩ := c5_some (o5 l[i]) hr
  rw [← hs] at hu
  rw [hu]
  exact h3 r u hu
theorem rowI_R {w : World} {B : Nat} {v : Value} {zs : List Int} (h : RowI w B v zs) : Kd.R (Kd.int .i64) 3 w B (fun _ => True) v zs := by
  refine ⟨fun _ _ => trivial, zs.map (.int .i64), h, by rw [List.length_map]; exact (Nat.mul_one _).symm, fun j p hj => ?_⟩
  show List.take 1 (List.drop (j * 1) (zs.map (Value.int .i64))) = [Value.int .i64 p]
  rw [Nat.mul_one, ← List.map_drop, ← List.map_take]
  have hl : j < zs.length := (List.getElem?_eq_some_iff.1 hj).1
  have e : zs[j] = p := by have := List.getElem?_eq_getElem hl; rw [hj] at this; exact (Option.some.inj this).symm
  rw [List.drop_eq_getElem_cons hl, e]
  rfl
theorem rowQ_R {w : World} {B : Nat} {v : Value} {l : List O5} (h : RowQ w B v l) : Kd.R kO 35 w B (fun _ => True) v (l.map s5) := by
  refine ⟨fun _ _ => trivial, flat5 l, ?_, ?_, fun j p hj => ?_⟩
  · rw [List.length_map]; exact h
  · rw [flat5_len, List.length_map]; rfl
  · rw [List.getElem?_map] at hj
    obtain ⟨x, hx, rfl⟩ := Option.map_eq_some_iff.1 hj
    have hl : j < l.length := (List.getElem?_eq_some_iff.1 hx).1
    have e : List.take 5 (List.drop (j * 5) (flat5 l)) = c5 x := by
      apply List.ext_getElem?
      intro r
      by_cases hr : r < 5
      · rw [List.getElem?_take_of_lt hr, List.getElem?_drop, Nat.mul_comm, flat5_get hr l j hl, List.getD_eq_getElem?_getD, hx]
        rfl
      · rw [List.getElem?_eq_none (by rw [List.length_take]; omega), List.getElem?_eq_none (by simp; omega)]
    show kO.M w B _ (s5 x) (List.take 5 (List.drop (j * 5) (flat5 l)))
    rw [e]
    exact k35_mkM w B _ (s5 x)
end Go.Proofs.YtdfkbiffdcfnpaaDoor.H
-- Written by hp.py (a program of this session, over the kit's print.py), with hand-made contracts beside it.
namespace Go.Proofs.YtdfkbiffdcfnpaaDoor.H
open Go.RowKit Go.Proofs.YtdfkbiffdcfnpaaDoorW.PrintWords Go.Proofs.YtdfkbiffdcfnpaaDoorW.PrintLast Go.Proofs.YtdfkbiffdcfnpaaDoorW.PrintMore
attribute [local go_sem] max2_int min2_int max_two min_two max_three min_three max_four min_four   -- for this text's walks alone
set_option linter.unusedVariables false
set_option linter.unusedSimpArgs false

-- HANDMADE remontoir/orders.Jobs
/-! ### orders_Jobs: function 10 -/
def orders_Jobs.f (l0 : List S35) : Option (List Int) := if l0.length ≤ 100 then some (jobsL (l0.map o5)) else none
theorem orders_Jobs.calls (A0 : Option Addr) (c0 : Nat) (l0 : List S35) (r : List Int) (w : World) (hr0 : Kd.C k35 w A0 l0.length l0) (hc0 : l0.length ≤ c0) (h : orders_Jobs.f l0 = some r) :
    Calls Tryd.prog 10 #[.slice A0 l0.length c0] w fun e w' => ∃ v0_ : Value, e = .returned (v0_) ∧ Kd.R (Kd.int .i64) 3 w' w.heap.size (fun _ => True) v0_ r ∧ Below w.heap.size w w' := by
  unfold orders_Jobs.f at h
  by_cases hl : l0.length ≤ 100
  · rw [if_pos hl] at h
    obtain rfl := Option.some.inj h
    refine (jobs_calls (argO_of hr0) (by rw [List.length_map]; exact hl)).mono ?_
    rintro e w' ⟨v, rfl, h1, h2⟩
    exact ⟨v, rfl, rowI_R h1, h2⟩
  · rw [if_neg hl] at h
    cases h


end Go.Proofs.YtdfkbiffdcfnpaaDoor.H
-- Written by hp.py (a program of this session, over the kit's print.py), with hand-made contracts beside it.
namespace Go.Proofs.YtdfkbiffdcfnpaaDoor.H
open Go.RowKit Go.Proofs.YtdfkbiffdcfnpaaDoorW.PrintWords Go.Proofs.YtdfkbiffdcfnpaaDoorW.PrintLast Go.Proofs.YtdfkbiffdcfnpaaDoorW.PrintMore
attribute [local go_sem] max2_int min2_int max_two min_two max_three min_three max_four min_four   -- for this text's walks alone
set_option linter.unusedVariables false
set_option linter.unusedSimpArgs false

-- HANDMADE remontoir/orders.Timers
/-! ### orders_Timers: function 11 -/
def orders_Timers.f (l0 : List S35) : Option (List (S35)) := if l0.length ≤ 100 then some ((keptL 2 (l0.map o5)).map s5) else none
theorem orders_Timers.calls (A0 : Option Addr) (c0 : Nat) (l0 : List S35) (r : List S35) (w : World) (hr0 : Kd.C k35 w A0 l0.length l0) (hc0 : l0.length ≤ c0) (h : orders_Timers.f l0 = some r) :
    Calls Tryd.prog 11 #[.slice A0 l0.length c0] w fun e w' => ∃ v0_ : Value, e = .returned (v0_) ∧ Kd.R k35 35 w' w.heap.size (fun _ => True) v0_ r ∧ Below w.heap.size w w' := by
  unfold orders_Timers.f at h
  by_cases hl : l0.length ≤ 100
  · rw [if_pos hl] at h
    obtain rfl := Option.some.inj h
    refine (timers_calls (argO_of hr0) (by rw [List.length_map]; exact hl)).mono ?_
    rintro e w' ⟨v, rfl, h1, h2⟩
    exact ⟨v, rfl, rowQ_R h1, h2⟩
  · rw [if_neg hl] at h
    cases h


end Go.Proofs.YtdfkbiffdcfnpaaDoor.H
-- Written by hp.py (a program of this session, over the kit's print.py), with hand-made contracts beside it.
namespace Go.Proofs.YtdfkbiffdcfnpaaDoor.H
open Go.RowKit Go.Proofs.YtdfkbiffdcfnpaaDoorW.PrintWords Go.Proofs.YtdfkbiffdcfnpaaDoorW.PrintLast Go.Proofs.YtdfkbiffdcfnpaaDoorW.PrintMore
attribute [local go_sem] max2_int min2_int max_two min_two max_three min_three max_four min_four   -- for this text's walks alone
set_option linter.unusedVariables false
set_option linter.unusedSimpArgs false

attribute [local go_sem high] eqA35
/-! ### remontoirlaw27_wakes: function 7 -/
def remontoirlaw27_wakes.f (k : Nat)  : Option (Bool) := (orders_Of.f k (⟨#[]⟩ : ByteArray) (([(⟨3, 0, 3, 0, (⟨#[]⟩ : ByteArray)⟩ : S45), (⟨8, 0, 0, 1, (⟨#[80, 84, 57, 83]⟩ : ByteArray)⟩ : S45)] : List (S45))) ([] : List (S47)) (([(⟨2, 0, 1, 5⟩ : S32), (⟨1, 0, 0, 0⟩ : S32), (⟨3, 0, 2, 5⟩ : S32), (⟨4, 0, 0, 5⟩ : S32)] : List (S32)))).bind fun t165 => (if (t165.length : Int) = 3 then (if 0 < (t165.length : Int) then (if (((rd_T35 t165 0).f0) == 1 && (((rd_T35 t165 0).f1) == 5 && (((rd_T35 t165 0).f2) == 1 && (((rd_T35 t165 0).f3) == 3 && (((rd_T35 t165 0).f4) == 0))))) = true then (if 1 < (t165.length : Int) then (if (((rd_T35 t165 1).f0) == 2 && (((rd_T35 t165 1).f1) == 5 && (((rd_T35 t165 1).f2) == 2 && (((rd_T35 t165 1).f3) == 0 && (((rd_T35 t165 1).f4) == 9))))) = true then (if 2 < (t165.length : Int) then (if (((rd_T35 t165 2).f0) == 3 && (((rd_T35 t165 2).f1) == 5 && (((rd_T35 t165 2).f2) == 0 && (((rd_T35 t165 2).f3) == 0 && (((rd_T35 t165 2).f4) == 0))))) = true then ((orders_Jobs.f t165).bind fun t171 => (if (t171.length : Int) = 0 then (if 2 ≤ (t165.length : Int) then ((orders_Jobs.f (t165.take 2)).bind fun t178 => (if (t178.length : Int) = 1 then ((orders_Timers.f (t165.take 2)).bind fun t185 => (some ((t185.length : Int) == 1))) else (some false))) else (none)) else (some false))) else (some false)) else (none)) else (some false)) else (none)) else (some false)) else (none)) else (some false))
theorem remontoirlaw27_wakes.mono : ∀ k, LeO (remontoirlaw27_wakes.f k ) (remontoirlaw27_wakes.f (k + 1) ) := by
  intro  k
  unfold remontoirlaw27_wakes.f
  repeat' first
      | (with_reducible exact orders_Of.mono _ _ _ _ _)
      | (with_reducible exact LeO.refl _)
      | (with_reducible exact LeO.none _)
      | (with_reducible refine LeO.ite ?_ ?_)
      | (with_reducible refine LeO.bind ?_ (fun _ => ?_))
      | exact orders_Of.mono _ _ _ _ _
      | exact LeO.none _
      | refine LeO.ite ?_ ?_
      | refine LeO.bind ?_ (fun _ => ?_)
set_option maxHeartbeats 8000000 in
set_option maxRecDepth 100000 in
theorem remontoirlaw27_wakes.calls (k : Nat)  (r : Bool) (w : World) (h : remontoirlaw27_wakes.f k  = some r) :
    Calls Tryd.prog 7 #[] w fun e w' => e = .returned (.bool r) ∧ Below w.heap.size w w' := by
  have hu45 := Tryd.underlying45
  have hu25 := Tryd.underlying25
  have hu32 := Tryd.underlying32
  have hu35 := Tryd.underlying35
  have HB := Aside0.mk (Below.refl w.heap.size w)
  have H : ((orders_Of.f k (⟨#[]⟩ : ByteArray) (([(⟨3, 0, 3, 0, (⟨#[]⟩ : ByteArray)⟩ : S45), (⟨8, 0, 0, 1, (⟨#[80, 84, 57, 83]⟩ : ByteArray)⟩ : S45)] : List (S45))) ([] : List (S47)) (([(⟨2, 0, 1, 5⟩ : S32), (⟨1, 0, 0, 0⟩ : S32), (⟨3, 0, 2, 5⟩ : S32), (⟨4, 0, 0, 5⟩ : S32)] : List (S32)))).bind fun t165 => (if (t165.length : Int) = 3 then (if 0 < (t165.length : Int) then (if (((rd_T35 t165 0).f0) == 1 && (((rd_T35 t165 0).f1) == 5 && (((rd_T35 t165 0).f2) == 1 && (((rd_T35 t165 0).f3) == 3 && (((rd_T35 t165 0).f4) == 0))))) = true then (if 1 < (t165.length : Int) then (if (((rd_T35 t165 1).f0) == 2 && (((rd_T35 t165 1).f1) == 5 && (((rd_T35 t165 1).f2) == 2 && (((rd_T35 t165 1).f3) == 0 && (((rd_T35 t165 1).f4) == 9))))) = true then (if 2 < (t165.length : Int) then (if (((rd_T35 t165 2).f0) == 3 && (((rd_T35 t165 2).f1) == 5 && (((rd_T35 t165 2).f2) == 0 && (((rd_T35 t165 2).f3) == 0 && (((rd_T35 t165 2).f4) == 0))))) = true then ((orders_Jobs.f t165).bind fun t171 => (if (t171.length : Int) = 0 then (if 2 ≤ (t165.length : Int) then ((orders_Jobs.f (t165.take 2)).bind fun t178 => (if (t178.length : Int) = 1 then ((orders_Timers.f (t165.take 2)).bind fun t185 => (some ((t185.length : Int) == 1))) else (some false))) else (none)) else (some false))) else (some false)) else (none)) else (some false)) else (none)) else (some false)) else (none)) else (some false))) = some r := h
  clear h
  obtain ⟨y158, hy158⟩ : ∃ y_ : List (S45), y_ = (([(⟨3, 0, 3, 0, (⟨#[]⟩ : ByteArray)⟩ : S45), (⟨8, 0, 0, 1, (⟨#[80, 84, 57, 83]⟩ : ByteArray)⟩ : S45)] : List (S45))) := ⟨_, rfl⟩
  replace H : ((orders_Of.f k (⟨#[]⟩ : ByteArray) y158 ([] : List (S47)) (([(⟨2, 0, 1, 5⟩ : S32), (⟨1, 0, 0, 0⟩ : S32), (⟨3, 0, 2, 5⟩ : S32), (⟨4, 0, 0, 5⟩ : S32)] : List (S32)))).bind fun t165 => (if (t165.length : Int) = 3 then (if 0 < (t165.length : Int) then (if (((rd_T35 t165 0).f0) == 1 && (((rd_T35 t165 0).f1) == 5 && (((rd_T35 t165 0).f2) == 1 && (((rd_T35 t165 0).f3) == 3 && (((rd_T35 t165 0).f4) == 0))))) = true then (if 1 < (t165.length : Int) then (if (((rd_T35 t165 1).f0) == 2 && (((rd_T35 t165 1).f1) == 5 && (((rd_T35 t165 1).f2) == 2 && (((rd_T35 t165 1).f3) == 0 && (((rd_T35 t165 1).f4) == 9))))) = true then (if 2 < (t165.length : Int) then (if (((rd_T35 t165 2).f0) == 3 && (((rd_T35 t165 2).f1) == 5 && (((rd_T35 t165 2).f2) == 0 && (((rd_T35 t165 2).f3) == 0 && (((rd_T35 t165 2).f4) == 0))))) = true then ((orders_Jobs.f t165).bind fun t171 => (if (t171.length : Int) = 0 then (if 2 ≤ (t165.length : Int) then ((orders_Jobs.f (t165.take 2)).bind fun t178 => (if (t178.length : Int) = 1 then ((orders_Timers.f (t165.take 2)).bind fun t185 => (some ((t185.length : Int) == 1))) else (some false))) else (none)) else (some false))) else (some false)) else (none)) else (some false)) else (none)) else (some false)) else (none)) else (some false))) = some r := by first | (rw [hy158]; with_reducible exact H) | (have H2_ := (Option.bind_some _ _).symm.trans H; rw [hy158]; with_reducible exact H2_) | (have H2_ := (Option.bind_some _ _).symm.trans H; with_reducible exact H2_) | with_reducible exact H | (rw [hy158]; exact H) | exact H
  have Ny158 := Aside0.mk hy158
  clear hy158
  obtain ⟨y162, hy162⟩ : ∃ y_ : List (S32), y_ = (([(⟨2, 0, 1, 5⟩ : S32), (⟨1, 0, 0, 0⟩ : S32), (⟨3, 0, 2, 5⟩ : S32), (⟨4, 0, 0, 5⟩ : S32)] : List (S32))) := ⟨_, rfl⟩
  replace H : ((orders_Of.f k (⟨#[]⟩ : ByteArray) y158 ([] : List (S47)) y162).bind fun t165 => (if (t165.length : Int) = 3 then (if 0 < (t165.length : Int) then (if (((rd_T35 t165 0).f0) == 1 && (((rd_T35 t165 0).f1) == 5 && (((rd_T35 t165 0).f2) == 1 && (((rd_T35 t165 0).f3) == 3 && (((rd_T35 t165 0).f4) == 0))))) = true then (if 1 < (t165.length : Int) then (if (((rd_T35 t165 1).f0) == 2 && (((rd_T35 t165 1).f1) == 5 && (((rd_T35 t165 1).f2) == 2 && (((rd_T35 t165 1).f3) == 0 && (((rd_T35 t165 1).f4) == 9))))) = true then (if 2 < (t165.length : Int) then (if (((rd_T35 t165 2).f0) == 3 && (((rd_T35 t165 2).f1) == 5 && (((rd_T35 t165 2).f2) == 0 && (((rd_T35 t165 2).f3) == 0 && (((rd_T35 t165 2).f4) == 0))))) = true then ((orders_Jobs.f t165).bind fun t171 => (if (t171.length : Int) = 0 then (if 2 ≤ (t165.length : Int) then ((orders_Jobs.f (t165.take 2)).bind fun t178 => (if (t178.length : Int) = 1 then ((orders_Timers.f (t165.take 2)).bind fun t185 => (some ((t185.length : Int) == 1))) else (some false))) else (none)) else (some false))) else (some false)) else (none)) else (some false)) else (none)) else (some false)) else (none)) else (some false))) = some r := by first | (rw [hy162]; with_reducible exact H) | (have H2_ := (Option.bind_some _ _).symm.trans H; rw [hy162]; with_reducible exact H2_) | (have H2_ := (Option.bind_some _ _).symm.trans H; with_reducible exact H2_) | with_reducible exact H | (rw [hy162]; exact H) | exact H
  have Ny162 := Aside0.mk hy162
  clear hy162
  replace H := Option.bind_eq_some_iff.mp H
  obtain ⟨t165, A10, H⟩ := H
  replace H : (if (t165.length : Int) = 3 then (if 0 < (t165.length : Int) then (if (((rd_T35 t165 0).f0) == 1 && (((rd_T35 t165 0).f1) == 5 && (((rd_T35 t165 0).f2) == 1 && (((rd_T35 t165 0).f3) == 3 && (((rd_T35 t165 0).f4) == 0))))) = true then (if 1 < (t165.length : Int) then (if (((rd_T35 t165 1).f0) == 2 && (((rd_T35 t165 1).f1) == 5 && (((rd_T35 t165 1).f2) == 2 && (((rd_T35 t165 1).f3) == 0 && (((rd_T35 t165 1).f4) == 9))))) = true then (if 2 < (t165.length : Int) then (if (((rd_T35 t165 2).f0) == 3 && (((rd_T35 t165 2).f1) == 5 && (((rd_T35 t165 2).f2) == 0 && (((rd_T35 t165 2).f3) == 0 && (((rd_T35 t165 2).f4) == 0))))) = true then ((orders_Jobs.f t165).bind fun t171 => (if (t171.length : Int) = 0 then (if 2 ≤ (t165.length : Int) then ((orders_Jobs.f (t165.take 2)).bind fun t178 => (if (t178.length : Int) = 1 then ((orders_Timers.f (t165.take 2)).bind fun t185 => (some ((t185.length : Int) == 1))) else (some false))) else (none)) else (some false))) else (some false)) else (none)) else (some false)) else (none)) else (some false)) else (none)) else (some false)) = some r := H
  have A1 := Aside0.mk A10
  clear A10
  by_cases c2 : (t165.length : Int) = 3
  · rw [if_pos c2] at H
    have c2b0 : ((t165.length : Int) == 3) = true := beq_iff_eq.mpr c2
    have c2b1 : ((t165.length : Int) != 3) = false := bne_eq_false_iff_eq.mpr c2
    clear c2
    by_cases c3 : 0 < (t165.length : Int)
    · rw [if_pos c3] at H
      have c3b0 : decide (0 < (t165.length : Int)) = true := decide_eq_true c3
      have c3b1 : decide (0 < t165.length) = true := decide_eq_true (by omega)
      clear c3
      by_cases c4 : (((rd_T35 t165 0).f0) == 1 && (((rd_T35 t165 0).f1) == 5 && (((rd_T35 t165 0).f2) == 1 && (((rd_T35 t165 0).f3) == 3 && (((rd_T35 t165 0).f4) == 0))))) = true
      · rw [if_pos c4] at H
        have c4b0 : (((rd_T35 t165 0).f0) == 1 && (((rd_T35 t165 0).f1) == 5 && (((rd_T35 t165 0).f2) == 1 && (((rd_T35 t165 0).f3) == 3 && (((rd_T35 t165 0).f4) == 0))))) = true := c4
        (try (have c4b1 : decide (((rd_T35 t165 0).f0) = 1 && (((rd_T35 t165 0).f1) == 5 && (((rd_T35 t165 0).f2) == 1 && (((rd_T35 t165 0).f3) == 3 && (((rd_T35 t165 0).f4) == 0))))) = true := by simpa using c4))
        (try (have c4b2 : (((rd_T35 t165 0).f0) == 1 && (((rd_T35 t165 0).f1) == 5 && (((rd_T35 t165 0).f2) == 1 && (((rd_T35 t165 0).f3) == 3 && (((rd_T35 t165 0).f4) == 0))))) = true := by simpa using c4))
        clear c4
        by_cases c5 : 1 < (t165.length : Int)
        · rw [if_pos c5] at H
          have c5b0 : decide (1 < (t165.length : Int)) = true := decide_eq_true c5
          have c5b1 : decide (1 < t165.length) = true := decide_eq_true (by omega)
          clear c5
          by_cases c6 : (((rd_T35 t165 1).f0) == 2 && (((rd_T35 t165 1).f1) == 5 && (((rd_T35 t165 1).f2) == 2 && (((rd_T35 t165 1).f3) == 0 && (((rd_T35 t165 1).f4) == 9))))) = true
          · rw [if_pos c6] at H
            have c6b0 : (((rd_T35 t165 1).f0) == 2 && (((rd_T35 t165 1).f1) == 5 && (((rd_T35 t165 1).f2) == 2 && (((rd_T35 t165 1).f3) == 0 && (((rd_T35 t165 1).f4) == 9))))) = true := c6
            (try (have c6b1 : decide (((rd_T35 t165 1).f0) = 2 && (((rd_T35 t165 1).f1) == 5 && (((rd_T35 t165 1).f2) == 2 && (((rd_T35 t165 1).f3) == 0 && (((rd_T35 t165 1).f4) == 9))))) = true := by simpa using c6))
            (try (have c6b2 : (((rd_T35 t165 1).f0) == 2 && (((rd_T35 t165 1).f1) == 5 && (((rd_T35 t165 1).f2) == 2 && (((rd_T35 t165 1).f3) == 0 && (((rd_T35 t165 1).f4) == 9))))) = true := by simpa using c6))
            clear c6
            by_cases c7 : 2 < (t165.length : Int)
            · rw [if_pos c7] at H
              have c7b0 : decide (2 < (t165.length : Int)) = true := decide_eq_true c7
              have c7b1 : decide (2 < t165.length) = true := decide_eq_true (by omega)
              clear c7
              by_cases c8 : (((rd_T35 t165 2).f0) == 3 && (((rd_T35 t165 2).f1) == 5 && (((rd_T35 t165 2).f2) == 0 && (((rd_T35 t165 2).f3) == 0 && (((rd_T35 t165 2).f4) == 0))))) = true
              · rw [if_pos c8] at H
                have c8b0 : (((rd_T35 t165 2).f0) == 3 && (((rd_T35 t165 2).f1) == 5 && (((rd_T35 t165 2).f2) == 0 && (((rd_T35 t165 2).f3) == 0 && (((rd_T35 t165 2).f4) == 0))))) = true := c8
                (try (have c8b1 : decide (((rd_T35 t165 2).f0) = 3 && (((rd_T35 t165 2).f1) == 5 && (((rd_T35 t165 2).f2) == 0 && (((rd_T35 t165 2).f3) == 0 && (((rd_T35 t165 2).f4) == 0))))) = true := by simpa using c8))
                (try (have c8b2 : (((rd_T35 t165 2).f0) == 3 && (((rd_T35 t165 2).f1) == 5 && (((rd_T35 t165 2).f2) == 0 && (((rd_T35 t165 2).f3) == 0 && (((rd_T35 t165 2).f4) == 0))))) = true := by simpa using c8))
                clear c8
                replace H := Option.bind_eq_some_iff.mp H
                obtain ⟨t171, A90, H⟩ := H
                replace H : (if (t171.length : Int) = 0 then (if 2 ≤ (t165.length : Int) then ((orders_Jobs.f (t165.take 2)).bind fun t178 => (if (t178.length : Int) = 1 then ((orders_Timers.f (t165.take 2)).bind fun t185 => (some ((t185.length : Int) == 1))) else (some false))) else (none)) else (some false)) = some r := H
                have A9 := Aside0.mk A90
                clear A90
                by_cases c10 : (t171.length : Int) = 0
                · rw [if_pos c10] at H
                  have c10b0 : ((t171.length : Int) == 0) = true := beq_iff_eq.mpr c10
                  have c10b1 : ((t171.length : Int) != 0) = false := bne_eq_false_iff_eq.mpr c10
                  clear c10
                  by_cases c11 : 2 ≤ (t165.length : Int)
                  · rw [if_pos c11] at H
                    have c11b0 := eq_true c11
                    have c11b1 : decide (2 ≤ (t165.length : Int)) = true := decide_eq_true c11
                    clear c11
                    obtain ⟨y174, hy174⟩ : ∃ y_ : List (S35), y_ = (t165.take 2) := ⟨_, rfl⟩
                    replace H : ((orders_Jobs.f y174).bind fun t178 => (if (t178.length : Int) = 1 then ((orders_Timers.f (t165.take 2)).bind fun t185 => (some ((t185.length : Int) == 1))) else (some false))) = some r := by first | (rw [hy174]; with_reducible exact H) | (have H2_ := (Option.bind_some _ _).symm.trans H; rw [hy174]; with_reducible exact H2_) | (have H2_ := (Option.bind_some _ _).symm.trans H; with_reducible exact H2_) | with_reducible exact H | (rw [hy174]; exact H) | exact H
                    have Ny174 := Aside0.mk hy174
                    clear hy174
                    replace H := Option.bind_eq_some_iff.mp H
                    obtain ⟨t178, A120, H⟩ := H
                    replace H : (if (t178.length : Int) = 1 then ((orders_Timers.f (t165.take 2)).bind fun t185 => (some ((t185.length : Int) == 1))) else (some false)) = some r := H
                    have A12 := Aside0.mk A120
                    clear A120
                    by_cases c13 : (t178.length : Int) = 1
                    · rw [if_pos c13] at H
                      have c13b0 : ((t178.length : Int) == 1) = true := beq_iff_eq.mpr c13
                      have c13b1 : ((t178.length : Int) != 1) = false := bne_eq_false_iff_eq.mpr c13
                      clear c13
                      have c14b0 := eq_true (of_decide_eq_true (by first | (with_reducible assumption) | assumption) : 2 ≤ (t165.length : Int))
                      have hy181 := Ny174.out
                      replace H : ((orders_Timers.f y174).bind fun t185 => (some ((t185.length : Int) == 1))) = some r := by first | (rw [hy181]; with_reducible exact H) | (have H2_ := (Option.bind_some _ _).symm.trans H; rw [hy181]; with_reducible exact H2_) | (have H2_ := (Option.bind_some _ _).symm.trans H; with_reducible exact H2_) | with_reducible exact H | (rw [hy181]; exact H) | exact H
                      have Ny181 := Aside0.mk hy181
                      clear hy181
                      replace H := Option.bind_eq_some_iff.mp H
                      obtain ⟨t185, A150, H⟩ := H
                      replace H : (some ((t185.length : Int) == 1)) = some r := H
                      have A15 := Aside0.mk A150
                      clear A150
                      obtain rfl := Option.some.inj H
                      go_enter Tryd.func7, Tryd.ntmps7
                      go_wp2_with (first | ((with_reducible refine gate_dst (N := 5) rfl ?_); (try (refine gate_guard (by rfl) ?_; dsimp only)); refine Kd.R_lit k45 _ 45 ?hg (N := 5) ?hd (xs := ([(⟨3, 0, 3, 0, (⟨#[]⟩ : ByteArray)⟩ : S45), (⟨8, 0, 0, 1, (⟨#[80, 84, 57, 83]⟩ : ByteArray)⟩ : S45)] : List (S45))) (inner := [.int .i64 3, .int .i64 0, .int .i64 3, .int .i64 0, .string (⟨#[]⟩ : ByteArray), .int .i64 8, .int .i64 0, .int .i64 0, .int .i64 1, .string (⟨#[80, 84, 57, 83]⟩ : ByteArray)]) (ok := fun _ => True) (okp := fun _ => True) ?hr ?hp (fun _ hk => hk) trivial (Below.refl _ _) (Nat.le_refl _) (by simp) ?_; (case hd => rfl); (case hg => rfl); (case hr => first | (go_simp; done) | (go_simp; rfl)); (case hp => exact (Reps.c5 (show Kd.M k45 _ _ _ (⟨3, 0, 3, 0, (⟨#[]⟩ : ByteArray)⟩ : S45) [.int .i64 3, .int .i64 0, .int .i64 3, .int .i64 0, .string (⟨#[]⟩ : ByteArray)] from (k45_mkM _ _ _ (⟨3, 0, 3, 0, (⟨#[]⟩ : ByteArray)⟩ : S45) )) (Reps.c5 (show Kd.M k45 _ _ _ (⟨8, 0, 0, 1, (⟨#[80, 84, 57, 83]⟩ : ByteArray)⟩ : S45) [.int .i64 8, .int .i64 0, .int .i64 0, .int .i64 1, .string (⟨#[80, 84, 57, 83]⟩ : ByteArray)] from (k45_mkM _ _ _ (⟨8, 0, 0, 1, (⟨#[80, 84, 57, 83]⟩ : ByteArray)⟩ : S45) )) (Reps.none _ _)))); intro v159 w16 ho17 hb hg_ hnew_; clear hg_ hnew_; (first | rw [← Ny158.out] at ho17 | (simp only [Int.reduceToNat] at ho17; rw [← Ny158.out] at ho17)); have n0_ := Aside0.mk (Kd.R_lower ho17 (below_size (by repeat (first | (with_reducible first | exact HB.out | apply below_alloc | apply pw_below_drewN | apply below_drew1) | exact HB.out)))); have n1_ := Aside0.mk (below_step (by repeat (first | (with_reducible first | exact HB.out | apply below_alloc | apply pw_below_drewN | apply below_drew1) | exact HB.out)) hb); clear HB; have HO160 := n0_; have HB := n1_; clear n0_ n1_; clear hb ho17; obtain ⟨Ao18, co18, eo18⟩ := Kd.R_slice HO160.out; subst eo18) | ((with_reducible refine gate_dst (N := 1) rfl ?_); (try (refine gate_guard (by rfl) ?_; dsimp only)); refine box_event ?hg (N := 1) ?hd (cs := #[.string (⟨#[]⟩ : ByteArray), .slice none 0 0, .slice none 0 0]) (t := 25) ?hr ?_; (case hd => rfl); (case hg => rfl); (case hr => first | (go_simp; done) | (go_simp; rfl)); intro gb161 hg w19 hbox hb; have n0_ := Aside0.mk (Kd.R_below (by (with_reducible repeat (first | apply Kd.R_alloc | apply Kd.R_drewN | apply Kd.R_drew)); exact HO160.out) hb); have n1_ := Aside0.mk (below_step (by repeat (first | (with_reducible first | exact HB.out | apply below_alloc | apply pw_below_drewN | apply below_drew1) | exact HB.out)) hb); have n2_ := Aside0.mk (hbox); have n3_ := Aside0.mk ((by rw [hg]; exact (below_size (by repeat (first | (with_reducible first | exact HB.out | apply below_alloc | apply pw_below_drewN | apply below_drew1) | exact HB.out))) : w.heap.size ≤ gb161)); have n4_ := Aside0.mk ((by rw [hg]; exact (below_size (by repeat (first | (with_reducible first | exact HB.out | apply below_alloc | apply pw_below_drewN | apply below_drew1) | exact HB.out))) : w.heap.size ≤ gb161)); clear HO160; clear HB; have HO160 := n0_; have HB := n1_; have BK161 := n2_; have GW161 := n3_; have GE161 := n4_; clear n0_ n1_ n2_ n3_ n4_; clear hb hbox hg; have hcz20_0 : w19.cell? ⟨gb161, 0, none⟩ = some (.string (⟨#[]⟩ : ByteArray)) := (blk_cell BK161.out 0).trans rfl; have hcz20_1 : w19.cell? ⟨gb161, 1, none⟩ = some (.slice none 0 0) := (blk_cell BK161.out 1).trans rfl; have hcz20_2 : w19.cell? ⟨gb161, 2, none⟩ = some (.slice none 0 0) := (blk_cell BK161.out 2).trans rfl; have hfz20_0 := blk_frozen BK161.out 0; have hfz20_1 := blk_frozen BK161.out 1; have hfz20_2 := blk_frozen BK161.out 2) | ((with_reducible refine gate_dst (N := 12) rfl ?_); (try (refine gate_guard (by rfl) ?_; dsimp only)); refine Kd.R_lit k32 _ 32 ?hg (N := 12) ?hd (xs := ([(⟨2, 0, 1, 5⟩ : S32), (⟨1, 0, 0, 0⟩ : S32), (⟨3, 0, 2, 5⟩ : S32), (⟨4, 0, 0, 5⟩ : S32)] : List (S32))) (inner := [.int .i64 2, .int .i64 0, .int .i64 1, .int .i64 5, .int .i64 1, .int .i64 0, .int .i64 0, .int .i64 0, .int .i64 3, .int .i64 0, .int .i64 2, .int .i64 5, .int .i64 4, .int .i64 0, .int .i64 0, .int .i64 5]) (ok := fun _ => True) (okp := fun _ => True) ?hr ?hp (fun _ hk => hk) trivial (Below.refl _ _) (Nat.le_refl _) (by simp) ?_; (case hd => rfl); (case hg => rfl); (case hr => first | (go_simp; done) | (go_simp; rfl)); (case hp => exact (Reps.c4 (show Kd.M k32 _ _ _ (⟨2, 0, 1, 5⟩ : S32) [.int .i64 2, .int .i64 0, .int .i64 1, .int .i64 5] from (k32_mkM _ _ _ (⟨2, 0, 1, 5⟩ : S32) )) (Reps.c4 (show Kd.M k32 _ _ _ (⟨1, 0, 0, 0⟩ : S32) [.int .i64 1, .int .i64 0, .int .i64 0, .int .i64 0] from (k32_mkM _ _ _ (⟨1, 0, 0, 0⟩ : S32) )) (Reps.c4 (show Kd.M k32 _ _ _ (⟨3, 0, 2, 5⟩ : S32) [.int .i64 3, .int .i64 0, .int .i64 2, .int .i64 5] from (k32_mkM _ _ _ (⟨3, 0, 2, 5⟩ : S32) )) (Reps.c4 (show Kd.M k32 _ _ _ (⟨4, 0, 0, 5⟩ : S32) [.int .i64 4, .int .i64 0, .int .i64 0, .int .i64 5] from (k32_mkM _ _ _ (⟨4, 0, 0, 5⟩ : S32) )) (Reps.none _ _)))))); intro v163 w21 ho22 hb hg_ hnew_; clear hg_ hnew_; (first | rw [← Ny162.out] at ho22 | (simp only [Int.reduceToNat] at ho22; rw [← Ny162.out] at ho22)); have n0_ := Aside0.mk (Kd.R_below (by (with_reducible repeat (first | apply Kd.R_alloc | apply Kd.R_drewN | apply Kd.R_drew)); exact (Kd.R_mono (Kd.R_far (p := ⟨gb161, 2, none⟩) (Kd.R_far (p := ⟨gb161, 1, none⟩) (Kd.R_far (p := ⟨gb161, 0, none⟩) (Kd.R_types HO160.out BK161.out (by decide)) (fun _ hk => hk.2) (.string (⟨#[]⟩ : ByteArray))) (fun _ hk => hk.2) (.slice Ao18 y158.length co18)) (fun _ hk => hk.2) (.slice none 0 0)) (fun _ h_ => h_.1))) hb); have n1_ := Aside0.mk (Kd.R_lower ho22 (below_size (by repeat (first | (with_reducible first | exact HB.out | apply below_alloc | apply pw_below_drewN | apply below_drew1 | refine below_set ?_ GE161.out) | exact HB.out)))); have n2_ := Aside0.mk (blk_below (g := gb161) (o := .cells #[.string (⟨#[]⟩ : ByteArray), .slice Ao18 y158.length co18, .slice none 0 0] 25 (0, 0)) (by (with_reducible repeat (first | refine blk_drewN ?_ _ | refine blk_drew ?_ | refine blk_alloc ?_ _)); refine blk_put (cs := #[.string (⟨#[]⟩ : ByteArray), .slice Ao18 y158.length co18, .slice none 0 0]) ?_ 2 _ rfl; (with_reducible repeat (first | refine blk_drewN ?_ _ | refine blk_drew ?_ | refine blk_alloc ?_ _)); refine blk_put (cs := #[.string (⟨#[]⟩ : ByteArray), .slice none 0 0, .slice none 0 0]) ?_ 1 _ rfl; (with_reducible repeat (first | refine blk_drewN ?_ _ | refine blk_drew ?_ | refine blk_alloc ?_ _)); refine blk_put (cs := #[.string (⟨#[]⟩ : ByteArray), .slice none 0 0, .slice none 0 0]) ?_ 0 _ rfl; (with_reducible repeat (first | refine blk_drewN ?_ _ | refine blk_drew ?_ | refine blk_alloc ?_ _)); exact BK161.out) hb); have n3_ := Aside0.mk (below_step (by repeat (first | (with_reducible first | exact HB.out | apply below_alloc | apply pw_below_drewN | apply below_drew1 | refine below_set ?_ GE161.out) | exact HB.out)) hb); clear HO160; clear BK161; clear HB; have HO160 := n0_; have HO164 := n1_; have BK161 := n2_; have HB := n3_; clear n0_ n1_ n2_ n3_; clear hb ho22; obtain ⟨Ao23, co23, eo23⟩ := Kd.R_slice HO164.out; subst eo23) | ((with_reducible refine gate_callee (f := 8) rfl ?_); refine goesL_ (some 13) rfl rfl Tryd.func8 (by kernel_rfl) rfl #[.agg #[.string (⟨#[]⟩ : ByteArray), .slice Ao18 y158.length co18, .slice none 0 0], .slice Ao23 y162.length co23] rfl (by (try simp only [List.map_toArray, List.map_cons, List.map_nil]); first | done | rfl | (simp only [List.length_drop, List.length_take]; rfl)) ?_; (refine (orders_Of.calls k (⟨#[]⟩ : ByteArray) _ _ y158 _ _ ([] : List (S47)) _ _ y162 t165 _ ?side1 ?side2 ?side3 ?side4 ?side5 ?side6 A1.out).mono ?_); (case side1 => repeat (first | exact (Kd.R_reads' HO160.out).2.2 | (with_reducible refine Kd.C_alloc ?_ _) | (with_reducible refine Kd.C_drewN ?_ _) | (with_reducible refine Kd.C_drew ?_))); (case side2 => exact (Kd.R_reads' HO160.out).2.1); (case side3 => exact Kd.C_nil _ _); (case side4 => exact Nat.le_refl _); (case side5 => repeat (first | exact (Kd.R_reads' HO164.out).2.2 | (with_reducible refine Kd.C_alloc ?_ _) | (with_reducible refine Kd.C_drewN ?_ _) | (with_reducible refine Kd.C_drew ?_))); (case side6 => exact (Kd.R_reads' HO164.out).2.1); rintro e w24 ⟨v166, rfl, ho0, hb⟩; refine ⟨_, rfl, ?_⟩; have n0_ := Aside0.mk (Kd.R_below (by (with_reducible repeat (first | apply Kd.R_alloc | apply Kd.R_drewN | apply Kd.R_drew)); exact HO160.out) hb); have n1_ := Aside0.mk (Kd.R_below (by (with_reducible repeat (first | apply Kd.R_alloc | apply Kd.R_drewN | apply Kd.R_drew)); exact HO164.out) hb); have n2_ := Aside0.mk (Kd.R_lower ho0 (below_size (by repeat (first | (with_reducible first | exact HB.out | apply below_alloc | apply pw_below_drewN | apply below_drew1 | refine below_set ?_ GE161.out) | exact HB.out)))); have n3_ := Aside0.mk (blk_below (g := gb161) (o := .cells #[.string (⟨#[]⟩ : ByteArray), .slice Ao18 y158.length co18, .slice none 0 0] 25 (0, 0)) (by (with_reducible repeat (first | refine blk_drewN ?_ _ | refine blk_drew ?_ | refine blk_alloc ?_ _)); exact BK161.out) hb); have n4_ := Aside0.mk (below_step (by repeat (first | (with_reducible first | exact HB.out | apply below_alloc | apply pw_below_drewN | apply below_drew1 | refine below_set ?_ GE161.out) | exact HB.out)) hb); clear HO160; clear HO164; clear BK161; clear HB; have HO160 := n0_; have HO164 := n1_; have HO167 := n2_; have BK161 := n3_; have HB := n4_; clear n0_ n1_ n2_ n3_ n4_; (try clear hb); (try clear hb2); (try clear hk); (try clear hi); (try clear ho0); obtain ⟨Ao25, co25, eo25⟩ := Kd.R_slice HO167.out; subst eo25; have p168 : 0 ≤ (0 : Int) := (by omega); have q168 : 0 < (t165.length : Int) := of_decide_eq_true (by first | (with_reducible assumption) | assumption); obtain ⟨ad168, e168, hx168_0, hx168_1, hx168_2, hx168_3, hx168_4⟩ := at_T35 (Kd.R_reads' HO167.out).2.2 0 p168 q168; cases e168; have qi168 : (0 < t165.length) = True := eq_true (by omega); (try rw [show ((0 : Int)).toNat = 0 from rfl] at hx168_0); (try rw [show 0 * 5 = 0 from rfl] at hx168_0); (try rw [Addr.add_zero'] at hx168_0); (try rw [show ((0 : Int)).toNat = 0 from rfl] at hx168_1); (try rw [show 0 * 5 = 0 from rfl] at hx168_1); (try rw [Addr.add_zero'] at hx168_1); (try rw [show ((0 : Int)).toNat = 0 from rfl] at hx168_2); (try rw [show 0 * 5 = 0 from rfl] at hx168_2); (try rw [Addr.add_zero'] at hx168_2); (try rw [show ((0 : Int)).toNat = 0 from rfl] at hx168_3); (try rw [show 0 * 5 = 0 from rfl] at hx168_3); (try rw [Addr.add_zero'] at hx168_3); (try rw [show ((0 : Int)).toNat = 0 from rfl] at hx168_4); (try rw [show 0 * 5 = 0 from rfl] at hx168_4); (try rw [Addr.add_zero'] at hx168_4); replace p168 := eq_true p168; replace q168 := eq_true q168; have p169 : 0 ≤ (1 : Int) := (by omega); have q169 : 1 < (t165.length : Int) := of_decide_eq_true (by first | (with_reducible assumption) | assumption); obtain ⟨ad169, e169, hx169_0, hx169_1, hx169_2, hx169_3, hx169_4⟩ := at_T35 (Kd.R_reads' HO167.out).2.2 1 p169 q169; obtain rfl : ad168 = ad169 := (by injection e169); (try simp only [show (1 : Int).toNat = 1 from rfl, Nat.reduceMul, Nat.reduceEqDiff, Go.Addr.add, ↓reduceIte] at hx169_0); (try simp only [show (1 : Int).toNat = 1 from rfl, Nat.reduceMul, Nat.reduceEqDiff, Go.Addr.add, ↓reduceIte] at hx169_1); (try simp only [show (1 : Int).toNat = 1 from rfl, Nat.reduceMul, Nat.reduceEqDiff, Go.Addr.add, ↓reduceIte] at hx169_2); (try simp only [show (1 : Int).toNat = 1 from rfl, Nat.reduceMul, Nat.reduceEqDiff, Go.Addr.add, ↓reduceIte] at hx169_3); (try simp only [show (1 : Int).toNat = 1 from rfl, Nat.reduceMul, Nat.reduceEqDiff, Go.Addr.add, ↓reduceIte] at hx169_4); have qi169 : (1 < t165.length) = True := eq_true (by omega); (try rw [show ((1 : Int)).toNat = 1 from rfl] at hx169_0); (try rw [show 1 * 5 = 5 from rfl] at hx169_0); (try rw [show ((1 : Int)).toNat = 1 from rfl] at hx169_1); (try rw [show 1 * 5 = 5 from rfl] at hx169_1); (try rw [show ((1 : Int)).toNat = 1 from rfl] at hx169_2); (try rw [show 1 * 5 = 5 from rfl] at hx169_2); (try rw [show ((1 : Int)).toNat = 1 from rfl] at hx169_3); (try rw [show 1 * 5 = 5 from rfl] at hx169_3); (try rw [show ((1 : Int)).toNat = 1 from rfl] at hx169_4); (try rw [show 1 * 5 = 5 from rfl] at hx169_4); replace p169 := eq_true p169; replace q169 := eq_true q169; have p170 : 0 ≤ (2 : Int) := (by omega); have q170 : 2 < (t165.length : Int) := of_decide_eq_true (by first | (with_reducible assumption) | assumption); obtain ⟨ad170, e170, hx170_0, hx170_1, hx170_2, hx170_3, hx170_4⟩ := at_T35 (Kd.R_reads' HO167.out).2.2 2 p170 q170; obtain rfl : ad168 = ad170 := (by injection e170); (try simp only [show (2 : Int).toNat = 2 from rfl, Nat.reduceMul, Nat.reduceEqDiff, Go.Addr.add, ↓reduceIte] at hx170_0); (try simp only [show (2 : Int).toNat = 2 from rfl, Nat.reduceMul, Nat.reduceEqDiff, Go.Addr.add, ↓reduceIte] at hx170_1); (try simp only [show (2 : Int).toNat = 2 from rfl, Nat.reduceMul, Nat.reduceEqDiff, Go.Addr.add, ↓reduceIte] at hx170_2); (try simp only [show (2 : Int).toNat = 2 from rfl, Nat.reduceMul, Nat.reduceEqDiff, Go.Addr.add, ↓reduceIte] at hx170_3); (try simp only [show (2 : Int).toNat = 2 from rfl, Nat.reduceMul, Nat.reduceEqDiff, Go.Addr.add, ↓reduceIte] at hx170_4); have qi170 : (2 < t165.length) = True := eq_true (by omega); (try rw [show ((2 : Int)).toNat = 2 from rfl] at hx170_0); (try rw [show 2 * 5 = 10 from rfl] at hx170_0); (try rw [show ((2 : Int)).toNat = 2 from rfl] at hx170_1); (try rw [show 2 * 5 = 10 from rfl] at hx170_1); (try rw [show ((2 : Int)).toNat = 2 from rfl] at hx170_2); (try rw [show 2 * 5 = 10 from rfl] at hx170_2); (try rw [show ((2 : Int)).toNat = 2 from rfl] at hx170_3); (try rw [show 2 * 5 = 10 from rfl] at hx170_3); (try rw [show ((2 : Int)).toNat = 2 from rfl] at hx170_4); (try rw [show 2 * 5 = 10 from rfl] at hx170_4); replace p170 := eq_true p170; replace q170 := eq_true q170) | (go_at_call 10; (with_reducible refine (orders_Jobs.calls _ _ t165 t171 _ ?side1 ?side2 A9.out).mono ?_); (case side1 => repeat (first | exact (Kd.R_reads' HO167.out).2.2 | (with_reducible refine Kd.C_alloc ?_ _) | (with_reducible refine Kd.C_drewN ?_ _) | (with_reducible refine Kd.C_drew ?_))); (case side2 => exact (Kd.R_reads' HO167.out).2.1); rintro e w26 ⟨v172, rfl, ho0, hb⟩; have n0_ := Aside0.mk (Kd.R_below (by (with_reducible repeat (first | apply Kd.R_alloc | apply Kd.R_drewN | apply Kd.R_drew)); exact HO160.out) hb); have n1_ := Aside0.mk (Kd.R_below (by (with_reducible repeat (first | apply Kd.R_alloc | apply Kd.R_drewN | apply Kd.R_drew)); exact HO164.out) hb); have n2_ := Aside0.mk (Kd.R_below (by (with_reducible repeat (first | apply Kd.R_alloc | apply Kd.R_drewN | apply Kd.R_drew)); exact HO167.out) hb); have n3_ := Aside0.mk (Kd.R_lower ho0 (below_size (by repeat (first | (with_reducible first | exact HB.out | apply below_alloc | apply pw_below_drewN | apply below_drew1 | refine below_set ?_ GE161.out) | exact HB.out)))); have n4_ := Aside0.mk (blk_below (g := gb161) (o := .cells #[.string (⟨#[]⟩ : ByteArray), .slice Ao18 y158.length co18, .slice none 0 0] 25 (0, 0)) (by (with_reducible repeat (first | refine blk_drewN ?_ _ | refine blk_drew ?_ | refine blk_alloc ?_ _)); exact BK161.out) hb); have n5_ := Aside0.mk (below_step (by repeat (first | (with_reducible first | exact HB.out | apply below_alloc | apply pw_below_drewN | apply below_drew1 | refine below_set ?_ GE161.out) | exact HB.out)) hb); clear HO160; clear HO164; clear HO167; clear BK161; clear HB; have HO160 := n0_; have HO164 := n1_; have HO167 := n2_; have HO173 := n3_; have BK161 := n4_; have HB := n5_; clear n0_ n1_ n2_ n3_ n4_ n5_; (try clear hb); (try clear hb2); (try clear hk); (try clear hi); (try clear ho0); obtain ⟨Ao27, co27, eo27⟩ := Kd.R_slice HO173.out; subst eo27; have q28 : (2 : Int) ≤ ((t165.length : Int) : Int) := of_decide_eq_true (by first | (with_reducible assumption) | assumption); obtain ⟨i028, hi028, _, hsz28, _⟩ := info_parts info35; have hroom28 : t165.length ≤ co25 := (Kd.R_reads' HO167.out).2.1; have hC28 : Kd.C k35 _ (some ad168) t165.length t165 := (Kd.R_reads' HO167.out).2.2; have hcut28 := cut_to (P := Tryd.prog) 29 35 .i64 Tryd.underlying29 hi028 (some ad168) t165.length co25 2 (by omega) q28 hroom28; have hr28 := Kd.C_take (m := 2) hC28 (by omega); have hy28 : y174.length = (2 : Int).toNat := (by rw [Ny174.out, List.length_take]; omega); rw [← Ny174.out] at hr28; rw [← hy28] at hcut28; have HR177 := Aside0.mk hr28; have HC177 := Aside0.mk (show y174.length ≤ co25 from by omega); clear hr28 hC28 hroom28 hi028 hsz28; have KY28 := Aside0.mk hy28; clear hy28; have KL28 := Aside0.mk (show 2 ≤ t165.length from by omega); replace q28 := eq_true q28) | (go_at_call 10; (with_reducible refine (orders_Jobs.calls _ _ y174 t178 _ ?side1 ?side2 A12.out).mono ?_); (case side1 => repeat (first | exact (by repeat (first | (with_reducible exact HR177.out) | (with_reducible refine Kd.C_alloc ?_ _) | (with_reducible refine Kd.C_drewN ?_ _) | (with_reducible refine Kd.C_drew ?_) | exact HR177.out)) | (with_reducible refine Kd.C_alloc ?_ _) | (with_reducible refine Kd.C_drewN ?_ _) | (with_reducible refine Kd.C_drew ?_))); (case side2 => exact HC177.out); rintro e w29 ⟨v179, rfl, ho0, hb⟩; have n0_ := Aside0.mk (Kd.R_below (by (with_reducible repeat (first | apply Kd.R_alloc | apply Kd.R_drewN | apply Kd.R_drew)); exact HO160.out) hb); have n1_ := Aside0.mk (Kd.R_below (by (with_reducible repeat (first | apply Kd.R_alloc | apply Kd.R_drewN | apply Kd.R_drew)); exact HO164.out) hb); have n2_ := Aside0.mk (Kd.R_below (by (with_reducible repeat (first | apply Kd.R_alloc | apply Kd.R_drewN | apply Kd.R_drew)); exact HO167.out) hb); have n3_ := Aside0.mk (Kd.R_elder' (by (with_reducible repeat (first | apply Kd.R_alloc | apply Kd.R_drewN | apply Kd.R_drew)); exact HO173.out) (Kd.R_base ho0) hb); have n4_ := Aside0.mk (Kd.R_lower (Kd.R_new' ho0 (Kd.R_lt (by (with_reducible repeat (first | apply Kd.R_alloc | apply Kd.R_drewN | apply Kd.R_drew)); exact HO173.out))) (below_size (by repeat (first | (with_reducible first | exact HB.out | apply below_alloc | apply pw_below_drewN | apply below_drew1 | refine below_set ?_ GE161.out) | exact HB.out)))); have n5_ := Aside0.mk (blk_below (g := gb161) (o := .cells #[.string (⟨#[]⟩ : ByteArray), .slice Ao18 y158.length co18, .slice none 0 0] 25 (0, 0)) (by (with_reducible repeat (first | refine blk_drewN ?_ _ | refine blk_drew ?_ | refine blk_alloc ?_ _)); exact BK161.out) hb); have n6_ := Aside0.mk (Kd.C_below (by repeat (first | (with_reducible exact HR177.out) | (with_reducible refine Kd.C_alloc ?_ _) | (with_reducible refine Kd.C_drewN ?_ _) | (with_reducible refine Kd.C_drew ?_) | exact HR177.out)) hb); have n7_ := Aside0.mk (below_step (by repeat (first | (with_reducible first | exact HB.out | apply below_alloc | apply pw_below_drewN | apply below_drew1 | refine below_set ?_ GE161.out) | exact HB.out)) hb); clear HO160; clear HO164; clear HO167; clear HO173; clear BK161; clear HR177; clear HB; have HO160 := n0_; have HO164 := n1_; have HO167 := n2_; have HO173 := n3_; have HO180 := n4_; have BK161 := n5_; have HR177 := n6_; have HB := n7_; clear n0_ n1_ n2_ n3_ n4_ n5_ n6_ n7_; (try clear hb); (try clear hb2); (try clear hk); (try clear hi); (try clear ho0); obtain ⟨Ao30, co30, eo30⟩ := Kd.R_slice HO180.out; subst eo30; have q31 : (2 : Int) ≤ ((t165.length : Int) : Int) := of_decide_eq_true (by first | (with_reducible assumption) | assumption); obtain ⟨i031, hi031, _, hsz31, _⟩ := info_parts info35; have hroom31 : t165.length ≤ co25 := (Kd.R_reads' HO167.out).2.1; have hC31 : Kd.C k35 _ (some ad168) t165.length t165 := (Kd.R_reads' HO167.out).2.2; have hcut31 := cut_to (P := Tryd.prog) 29 35 .i64 Tryd.underlying29 hi031 (some ad168) t165.length co25 2 (by omega) q31 hroom31; have hr31 := Kd.C_take (m := 2) hC31 (by omega); have hy31 : y174.length = (2 : Int).toNat := (by rw [Ny181.out, List.length_take]; omega); rw [← Ny181.out] at hr31; rw [← hy31] at hcut31; have HR184 := Aside0.mk hr31; have HC184 := Aside0.mk (show y174.length ≤ co25 from by omega); clear hr31 hC31 hroom31 hi031 hsz31; have KY31 := Aside0.mk hy31; clear hy31; have KL31 := Aside0.mk (show 2 ≤ t165.length from by omega); replace q31 := eq_true q31) | (go_at_call 11; (with_reducible refine (orders_Timers.calls _ _ y174 t185 _ ?side1 ?side2 A15.out).mono ?_); (case side1 => repeat (first | exact (by repeat (first | (with_reducible exact HR184.out) | (with_reducible refine Kd.C_alloc ?_ _) | (with_reducible refine Kd.C_drewN ?_ _) | (with_reducible refine Kd.C_drew ?_) | exact HR184.out)) | (with_reducible refine Kd.C_alloc ?_ _) | (with_reducible refine Kd.C_drewN ?_ _) | (with_reducible refine Kd.C_drew ?_))); (case side2 => exact HC184.out); rintro e w32 ⟨v186, rfl, ho0, hb⟩; have n0_ := Aside0.mk (Kd.R_below (by (with_reducible repeat (first | apply Kd.R_alloc | apply Kd.R_drewN | apply Kd.R_drew)); exact HO160.out) hb); have n1_ := Aside0.mk (Kd.R_below (by (with_reducible repeat (first | apply Kd.R_alloc | apply Kd.R_drewN | apply Kd.R_drew)); exact HO164.out) hb); have n2_ := Aside0.mk (Kd.R_elder' (by (with_reducible repeat (first | apply Kd.R_alloc | apply Kd.R_drewN | apply Kd.R_drew)); exact HO167.out) (Kd.R_base ho0) hb); have n3_ := Aside0.mk (Kd.R_below (by (with_reducible repeat (first | apply Kd.R_alloc | apply Kd.R_drewN | apply Kd.R_drew)); exact HO173.out) hb); have n4_ := Aside0.mk (Kd.R_below (by (with_reducible repeat (first | apply Kd.R_alloc | apply Kd.R_drewN | apply Kd.R_drew)); exact HO180.out) hb); have n5_ := Aside0.mk (Kd.R_lower (Kd.R_new' ho0 (Kd.R_lt (by (with_reducible repeat (first | apply Kd.R_alloc | apply Kd.R_drewN | apply Kd.R_drew)); exact HO167.out))) (below_size (by repeat (first | (with_reducible first | exact HB.out | apply below_alloc | apply pw_below_drewN | apply below_drew1 | refine below_set ?_ GE161.out) | exact HB.out)))); have n6_ := Aside0.mk (blk_below (g := gb161) (o := .cells #[.string (⟨#[]⟩ : ByteArray), .slice Ao18 y158.length co18, .slice none 0 0] 25 (0, 0)) (by (with_reducible repeat (first | refine blk_drewN ?_ _ | refine blk_drew ?_ | refine blk_alloc ?_ _)); exact BK161.out) hb); have n7_ := Aside0.mk (Kd.C_below (by repeat (first | (with_reducible exact HR177.out) | (with_reducible refine Kd.C_alloc ?_ _) | (with_reducible refine Kd.C_drewN ?_ _) | (with_reducible refine Kd.C_drew ?_) | exact HR177.out)) hb); have n8_ := Aside0.mk (Kd.C_below (by repeat (first | (with_reducible exact HR184.out) | (with_reducible refine Kd.C_alloc ?_ _) | (with_reducible refine Kd.C_drewN ?_ _) | (with_reducible refine Kd.C_drew ?_) | exact HR184.out)) hb); have n9_ := Aside0.mk (below_step (by repeat (first | (with_reducible first | exact HB.out | apply below_alloc | apply pw_below_drewN | apply below_drew1 | refine below_set ?_ GE161.out) | exact HB.out)) hb); clear HO160; clear HO164; clear HO167; clear HO173; clear HO180; clear BK161; clear HR177; clear HR184; clear HB; have HO160 := n0_; have HO164 := n1_; have HO167 := n2_; have HO173 := n3_; have HO180 := n4_; have HO187 := n5_; have BK161 := n6_; have HR177 := n7_; have HR184 := n8_; have HB := n9_; clear n0_ n1_ n2_ n3_ n4_ n5_ n6_ n7_ n8_ n9_; (try clear hb); (try clear hb2); (try clear hk); (try clear hi); (try clear ho0); obtain ⟨Ao33, co33, eo33⟩ := Kd.R_slice HO187.out; subst eo33))
                      go_ret
                      exact ⟨by first | rfl | (simp [errW_none, errW_some] <;> rfl) | (simp [*, errW_none, errW_some] <;> rfl), by repeat (first | (with_reducible first | exact HB.out | apply below_alloc | apply pw_below_drewN | apply below_drew1 | refine below_set ?_ GE161.out) | exact HB.out)⟩
                    · rw [if_neg c13] at H
                      have c13b0 : ((t178.length : Int) == 1) = false := beq_eq_false_iff_ne.mpr c13
                      have c13b1 : ((t178.length : Int) != 1) = true := bne_iff_ne.mpr c13
                      obtain rfl := Option.some.inj H
                      go_enter Tryd.func7, Tryd.ntmps7
                      go_wp2_with (first | ((with_reducible refine gate_dst (N := 5) rfl ?_); (try (refine gate_guard (by rfl) ?_; dsimp only)); refine Kd.R_lit k45 _ 45 ?hg (N := 5) ?hd (xs := ([(⟨3, 0, 3, 0, (⟨#[]⟩ : ByteArray)⟩ : S45), (⟨8, 0, 0, 1, (⟨#[80, 84, 57, 83]⟩ : ByteArray)⟩ : S45)] : List (S45))) (inner := [.int .i64 3, .int .i64 0, .int .i64 3, .int .i64 0, .string (⟨#[]⟩ : ByteArray), .int .i64 8, .int .i64 0, .int .i64 0, .int .i64 1, .string (⟨#[80, 84, 57, 83]⟩ : ByteArray)]) (ok := fun _ => True) (okp := fun _ => True) ?hr ?hp (fun _ hk => hk) trivial (Below.refl _ _) (Nat.le_refl _) (by simp) ?_; (case hd => rfl); (case hg => rfl); (case hr => first | (go_simp; done) | (go_simp; rfl)); (case hp => exact (Reps.c5 (show Kd.M k45 _ _ _ (⟨3, 0, 3, 0, (⟨#[]⟩ : ByteArray)⟩ : S45) [.int .i64 3, .int .i64 0, .int .i64 3, .int .i64 0, .string (⟨#[]⟩ : ByteArray)] from (k45_mkM _ _ _ (⟨3, 0, 3, 0, (⟨#[]⟩ : ByteArray)⟩ : S45) )) (Reps.c5 (show Kd.M k45 _ _ _ (⟨8, 0, 0, 1, (⟨#[80, 84, 57, 83]⟩ : ByteArray)⟩ : S45) [.int .i64 8, .int .i64 0, .int .i64 0, .int .i64 1, .string (⟨#[80, 84, 57, 83]⟩ : ByteArray)] from (k45_mkM _ _ _ (⟨8, 0, 0, 1, (⟨#[80, 84, 57, 83]⟩ : ByteArray)⟩ : S45) )) (Reps.none _ _)))); intro v159 w34 ho35 hb hg_ hnew_; clear hg_ hnew_; (first | rw [← Ny158.out] at ho35 | (simp only [Int.reduceToNat] at ho35; rw [← Ny158.out] at ho35)); have n0_ := Aside0.mk (Kd.R_lower ho35 (below_size (by repeat (first | (with_reducible first | exact HB.out | apply below_alloc | apply pw_below_drewN | apply below_drew1) | exact HB.out)))); have n1_ := Aside0.mk (below_step (by repeat (first | (with_reducible first | exact HB.out | apply below_alloc | apply pw_below_drewN | apply below_drew1) | exact HB.out)) hb); clear HB; have HO160 := n0_; have HB := n1_; clear n0_ n1_; clear hb ho35; obtain ⟨Ao36, co36, eo36⟩ := Kd.R_slice HO160.out; subst eo36) | ((with_reducible refine gate_dst (N := 1) rfl ?_); (try (refine gate_guard (by rfl) ?_; dsimp only)); refine box_event ?hg (N := 1) ?hd (cs := #[.string (⟨#[]⟩ : ByteArray), .slice none 0 0, .slice none 0 0]) (t := 25) ?hr ?_; (case hd => rfl); (case hg => rfl); (case hr => first | (go_simp; done) | (go_simp; rfl)); intro gb161 hg w37 hbox hb; have n0_ := Aside0.mk (Kd.R_below (by (with_reducible repeat (first | apply Kd.R_alloc | apply Kd.R_drewN | apply Kd.R_drew)); exact HO160.out) hb); have n1_ := Aside0.mk (below_step (by repeat (first | (with_reducible first | exact HB.out | apply below_alloc | apply pw_below_drewN | apply below_drew1) | exact HB.out)) hb); have n2_ := Aside0.mk (hbox); have n3_ := Aside0.mk ((by rw [hg]; exact (below_size (by repeat (first | (with_reducible first | exact HB.out | apply below_alloc | apply pw_below_drewN | apply below_drew1) | exact HB.out))) : w.heap.size ≤ gb161)); have n4_ := Aside0.mk ((by rw [hg]; exact (below_size (by repeat (first | (with_reducible first | exact HB.out | apply below_alloc | apply pw_below_drewN | apply below_drew1) | exact HB.out))) : w.heap.size ≤ gb161)); clear HO160; clear HB; have HO160 := n0_; have HB := n1_; have BK161 := n2_; have GW161 := n3_; have GE161 := n4_; clear n0_ n1_ n2_ n3_ n4_; clear hb hbox hg; have hcz38_0 : w37.cell? ⟨gb161, 0, none⟩ = some (.string (⟨#[]⟩ : ByteArray)) := (blk_cell BK161.out 0).trans rfl; have hcz38_1 : w37.cell? ⟨gb161, 1, none⟩ = some (.slice none 0 0) := (blk_cell BK161.out 1).trans rfl; have hcz38_2 : w37.cell? ⟨gb161, 2, none⟩ = some (.slice none 0 0) := (blk_cell BK161.out 2).trans rfl; have hfz38_0 := blk_frozen BK161.out 0; have hfz38_1 := blk_frozen BK161.out 1; have hfz38_2 := blk_frozen BK161.out 2) | ((with_reducible refine gate_dst (N := 12) rfl ?_); (try (refine gate_guard (by rfl) ?_; dsimp only)); refine Kd.R_lit k32 _ 32 ?hg (N := 12) ?hd (xs := ([(⟨2, 0, 1, 5⟩ : S32), (⟨1, 0, 0, 0⟩ : S32), (⟨3, 0, 2, 5⟩ : S32), (⟨4, 0, 0, 5⟩ : S32)] : List (S32))) (inner := [.int .i64 2, .int .i64 0, .int .i64 1, .int .i64 5, .int .i64 1, .int .i64 0, .int .i64 0, .int .i64 0, .int .i64 3, .int .i64 0, .int .i64 2, .int .i64 5, .int .i64 4, .int .i64 0, .int .i64 0, .int .i64 5]) (ok := fun _ => True) (okp := fun _ => True) ?hr ?hp (fun _ hk => hk) trivial (Below.refl _ _) (Nat.le_refl _) (by simp) ?_; (case hd => rfl); (case hg => rfl); (case hr => first | (go_simp; done) | (go_simp; rfl)); (case hp => exact (Reps.c4 (show Kd.M k32 _ _ _ (⟨2, 0, 1, 5⟩ : S32) [.int .i64 2, .int .i64 0, .int .i64 1, .int .i64 5] from (k32_mkM _ _ _ (⟨2, 0, 1, 5⟩ : S32) )) (Reps.c4 (show Kd.M k32 _ _ _ (⟨1, 0, 0, 0⟩ : S32) [.int .i64 1, .int .i64 0, .int .i64 0, .int .i64 0] from (k32_mkM _ _ _ (⟨1, 0, 0, 0⟩ : S32) )) (Reps.c4 (show Kd.M k32 _ _ _ (⟨3, 0, 2, 5⟩ : S32) [.int .i64 3, .int .i64 0, .int .i64 2, .int .i64 5] from (k32_mkM _ _ _ (⟨3, 0, 2, 5⟩ : S32) )) (Reps.c4 (show Kd.M k32 _ _ _ (⟨4, 0, 0, 5⟩ : S32) [.int .i64 4, .int .i64 0, .int .i64 0, .int .i64 5] from (k32_mkM _ _ _ (⟨4, 0, 0, 5⟩ : S32) )) (Reps.none _ _)))))); intro v163 w39 ho40 hb hg_ hnew_; clear hg_ hnew_; (first | rw [← Ny162.out] at ho40 | (simp only [Int.reduceToNat] at ho40; rw [← Ny162.out] at ho40)); have n0_ := Aside0.mk (Kd.R_below (by (with_reducible repeat (first | apply Kd.R_alloc | apply Kd.R_drewN | apply Kd.R_drew)); exact (Kd.R_mono (Kd.R_far (p := ⟨gb161, 2, none⟩) (Kd.R_far (p := ⟨gb161, 1, none⟩) (Kd.R_far (p := ⟨gb161, 0, none⟩) (Kd.R_types HO160.out BK161.out (by decide)) (fun _ hk => hk.2) (.string (⟨#[]⟩ : ByteArray))) (fun _ hk => hk.2) (.slice Ao36 y158.length co36)) (fun _ hk => hk.2) (.slice none 0 0)) (fun _ h_ => h_.1))) hb); have n1_ := Aside0.mk (Kd.R_lower ho40 (below_size (by repeat (first | (with_reducible first | exact HB.out | apply below_alloc | apply pw_below_drewN | apply below_drew1 | refine below_set ?_ GE161.out) | exact HB.out)))); have n2_ := Aside0.mk (blk_below (g := gb161) (o := .cells #[.string (⟨#[]⟩ : ByteArray), .slice Ao36 y158.length co36, .slice none 0 0] 25 (0, 0)) (by (with_reducible repeat (first | refine blk_drewN ?_ _ | refine blk_drew ?_ | refine blk_alloc ?_ _)); refine blk_put (cs := #[.string (⟨#[]⟩ : ByteArray), .slice Ao36 y158.length co36, .slice none 0 0]) ?_ 2 _ rfl; (with_reducible repeat (first | refine blk_drewN ?_ _ | refine blk_drew ?_ | refine blk_alloc ?_ _)); refine blk_put (cs := #[.string (⟨#[]⟩ : ByteArray), .slice none 0 0, .slice none 0 0]) ?_ 1 _ rfl; (with_reducible repeat (first | refine blk_drewN ?_ _ | refine blk_drew ?_ | refine blk_alloc ?_ _)); refine blk_put (cs := #[.string (⟨#[]⟩ : ByteArray), .slice none 0 0, .slice none 0 0]) ?_ 0 _ rfl; (with_reducible repeat (first | refine blk_drewN ?_ _ | refine blk_drew ?_ | refine blk_alloc ?_ _)); exact BK161.out) hb); have n3_ := Aside0.mk (below_step (by repeat (first | (with_reducible first | exact HB.out | apply below_alloc | apply pw_below_drewN | apply below_drew1 | refine below_set ?_ GE161.out) | exact HB.out)) hb); clear HO160; clear BK161; clear HB; have HO160 := n0_; have HO164 := n1_; have BK161 := n2_; have HB := n3_; clear n0_ n1_ n2_ n3_; clear hb ho40; obtain ⟨Ao41, co41, eo41⟩ := Kd.R_slice HO164.out; subst eo41) | ((with_reducible refine gate_callee (f := 8) rfl ?_); refine goesL_ (some 13) rfl rfl Tryd.func8 (by kernel_rfl) rfl #[.agg #[.string (⟨#[]⟩ : ByteArray), .slice Ao36 y158.length co36, .slice none 0 0], .slice Ao41 y162.length co41] rfl (by (try simp only [List.map_toArray, List.map_cons, List.map_nil]); first | done | rfl | (simp only [List.length_drop, List.length_take]; rfl)) ?_; (refine (orders_Of.calls k (⟨#[]⟩ : ByteArray) _ _ y158 _ _ ([] : List (S47)) _ _ y162 t165 _ ?side1 ?side2 ?side3 ?side4 ?side5 ?side6 A1.out).mono ?_); (case side1 => repeat (first | exact (Kd.R_reads' HO160.out).2.2 | (with_reducible refine Kd.C_alloc ?_ _) | (with_reducible refine Kd.C_drewN ?_ _) | (with_reducible refine Kd.C_drew ?_))); (case side2 => exact (Kd.R_reads' HO160.out).2.1); (case side3 => exact Kd.C_nil _ _); (case side4 => exact Nat.le_refl _); (case side5 => repeat (first | exact (Kd.R_reads' HO164.out).2.2 | (with_reducible refine Kd.C_alloc ?_ _) | (with_reducible refine Kd.C_drewN ?_ _) | (with_reducible refine Kd.C_drew ?_))); (case side6 => exact (Kd.R_reads' HO164.out).2.1); rintro e w42 ⟨v166, rfl, ho0, hb⟩; refine ⟨_, rfl, ?_⟩; have n0_ := Aside0.mk (Kd.R_below (by (with_reducible repeat (first | apply Kd.R_alloc | apply Kd.R_drewN | apply Kd.R_drew)); exact HO160.out) hb); have n1_ := Aside0.mk (Kd.R_below (by (with_reducible repeat (first | apply Kd.R_alloc | apply Kd.R_drewN | apply Kd.R_drew)); exact HO164.out) hb); have n2_ := Aside0.mk (Kd.R_lower ho0 (below_size (by repeat (first | (with_reducible first | exact HB.out | apply below_alloc | apply pw_below_drewN | apply below_drew1 | refine below_set ?_ GE161.out) | exact HB.out)))); have n3_ := Aside0.mk (blk_below (g := gb161) (o := .cells #[.string (⟨#[]⟩ : ByteArray), .slice Ao36 y158.length co36, .slice none 0 0] 25 (0, 0)) (by (with_reducible repeat (first | refine blk_drewN ?_ _ | refine blk_drew ?_ | refine blk_alloc ?_ _)); exact BK161.out) hb); have n4_ := Aside0.mk (below_step (by repeat (first | (with_reducible first | exact HB.out | apply below_alloc | apply pw_below_drewN | apply below_drew1 | refine below_set ?_ GE161.out) | exact HB.out)) hb); clear HO160; clear HO164; clear BK161; clear HB; have HO160 := n0_; have HO164 := n1_; have HO167 := n2_; have BK161 := n3_; have HB := n4_; clear n0_ n1_ n2_ n3_ n4_; (try clear hb); (try clear hb2); (try clear hk); (try clear hi); (try clear ho0); obtain ⟨Ao43, co43, eo43⟩ := Kd.R_slice HO167.out; subst eo43; have p168 : 0 ≤ (0 : Int) := (by omega); have q168 : 0 < (t165.length : Int) := of_decide_eq_true (by first | (with_reducible assumption) | assumption); obtain ⟨ad168, e168, hx168_0, hx168_1, hx168_2, hx168_3, hx168_4⟩ := at_T35 (Kd.R_reads' HO167.out).2.2 0 p168 q168; cases e168; have qi168 : (0 < t165.length) = True := eq_true (by omega); (try rw [show ((0 : Int)).toNat = 0 from rfl] at hx168_0); (try rw [show 0 * 5 = 0 from rfl] at hx168_0); (try rw [Addr.add_zero'] at hx168_0); (try rw [show ((0 : Int)).toNat = 0 from rfl] at hx168_1); (try rw [show 0 * 5 = 0 from rfl] at hx168_1); (try rw [Addr.add_zero'] at hx168_1); (try rw [show ((0 : Int)).toNat = 0 from rfl] at hx168_2); (try rw [show 0 * 5 = 0 from rfl] at hx168_2); (try rw [Addr.add_zero'] at hx168_2); (try rw [show ((0 : Int)).toNat = 0 from rfl] at hx168_3); (try rw [show 0 * 5 = 0 from rfl] at hx168_3); (try rw [Addr.add_zero'] at hx168_3); (try rw [show ((0 : Int)).toNat = 0 from rfl] at hx168_4); (try rw [show 0 * 5 = 0 from rfl] at hx168_4); (try rw [Addr.add_zero'] at hx168_4); replace p168 := eq_true p168; replace q168 := eq_true q168; have p169 : 0 ≤ (1 : Int) := (by omega); have q169 : 1 < (t165.length : Int) := of_decide_eq_true (by first | (with_reducible assumption) | assumption); obtain ⟨ad169, e169, hx169_0, hx169_1, hx169_2, hx169_3, hx169_4⟩ := at_T35 (Kd.R_reads' HO167.out).2.2 1 p169 q169; obtain rfl : ad168 = ad169 := (by injection e169); (try simp only [show (1 : Int).toNat = 1 from rfl, Nat.reduceMul, Nat.reduceEqDiff, Go.Addr.add, ↓reduceIte] at hx169_0); (try simp only [show (1 : Int).toNat = 1 from rfl, Nat.reduceMul, Nat.reduceEqDiff, Go.Addr.add, ↓reduceIte] at hx169_1); (try simp only [show (1 : Int).toNat = 1 from rfl, Nat.reduceMul, Nat.reduceEqDiff, Go.Addr.add, ↓reduceIte] at hx169_2); (try simp only [show (1 : Int).toNat = 1 from rfl, Nat.reduceMul, Nat.reduceEqDiff, Go.Addr.add, ↓reduceIte] at hx169_3); (try simp only [show (1 : Int).toNat = 1 from rfl, Nat.reduceMul, Nat.reduceEqDiff, Go.Addr.add, ↓reduceIte] at hx169_4); have qi169 : (1 < t165.length) = True := eq_true (by omega); (try rw [show ((1 : Int)).toNat = 1 from rfl] at hx169_0); (try rw [show 1 * 5 = 5 from rfl] at hx169_0); (try rw [show ((1 : Int)).toNat = 1 from rfl] at hx169_1); (try rw [show 1 * 5 = 5 from rfl] at hx169_1); (try rw [show ((1 : Int)).toNat = 1 from rfl] at hx169_2); (try rw [show 1 * 5 = 5 from rfl] at hx169_2); (try rw [show ((1 : Int)).toNat = 1 from rfl] at hx169_3); (try rw [show 1 * 5 = 5 from rfl] at hx169_3); (try rw [show ((1 : Int)).toNat = 1 from rfl] at hx169_4); (try rw [show 1 * 5 = 5 from rfl] at hx169_4); replace p169 := eq_true p169; replace q169 := eq_true q169; have p170 : 0 ≤ (2 : Int) := (by omega); have q170 : 2 < (t165.length : Int) := of_decide_eq_true (by first | (with_reducible assumption) | assumption); obtain ⟨ad170, e170, hx170_0, hx170_1, hx170_2, hx170_3, hx170_4⟩ := at_T35 (Kd.R_reads' HO167.out).2.2 2 p170 q170; obtain rfl : ad168 = ad170 := (by injection e170); (try simp only [show (2 : Int).toNat = 2 from rfl, Nat.reduceMul, Nat.reduceEqDiff, Go.Addr.add, ↓reduceIte] at hx170_0); (try simp only [show (2 : Int).toNat = 2 from rfl, Nat.reduceMul, Nat.reduceEqDiff, Go.Addr.add, ↓reduceIte] at hx170_1); (try simp only [show (2 : Int).toNat = 2 from rfl, Nat.reduceMul, Nat.reduceEqDiff, Go.Addr.add, ↓reduceIte] at hx170_2); (try simp only [show (2 : Int).toNat = 2 from rfl, Nat.reduceMul, Nat.reduceEqDiff, Go.Addr.add, ↓reduceIte] at hx170_3); (try simp only [show (2 : Int).toNat = 2 from rfl, Nat.reduceMul, Nat.reduceEqDiff, Go.Addr.add, ↓reduceIte] at hx170_4); have qi170 : (2 < t165.length) = True := eq_true (by omega); (try rw [show ((2 : Int)).toNat = 2 from rfl] at hx170_0); (try rw [show 2 * 5 = 10 from rfl] at hx170_0); (try rw [show ((2 : Int)).toNat = 2 from rfl] at hx170_1); (try rw [show 2 * 5 = 10 from rfl] at hx170_1); (try rw [show ((2 : Int)).toNat = 2 from rfl] at hx170_2); (try rw [show 2 * 5 = 10 from rfl] at hx170_2); (try rw [show ((2 : Int)).toNat = 2 from rfl] at hx170_3); (try rw [show 2 * 5 = 10 from rfl] at hx170_3); (try rw [show ((2 : Int)).toNat = 2 from rfl] at hx170_4); (try rw [show 2 * 5 = 10 from rfl] at hx170_4); replace p170 := eq_true p170; replace q170 := eq_true q170) | (go_at_call 10; (with_reducible refine (orders_Jobs.calls _ _ t165 t171 _ ?side1 ?side2 A9.out).mono ?_); (case side1 => repeat (first | exact (Kd.R_reads' HO167.out).2.2 | (with_reducible refine Kd.C_alloc ?_ _) | (with_reducible refine Kd.C_drewN ?_ _) | (with_reducible refine Kd.C_drew ?_))); (case side2 => exact (Kd.R_reads' HO167.out).2.1); rintro e w44 ⟨v172, rfl, ho0, hb⟩; have n0_ := Aside0.mk (Kd.R_below (by (with_reducible repeat (first | apply Kd.R_alloc | apply Kd.R_drewN | apply Kd.R_drew)); exact HO160.out) hb); have n1_ := Aside0.mk (Kd.R_below (by (with_reducible repeat (first | apply Kd.R_alloc | apply Kd.R_drewN | apply Kd.R_drew)); exact HO164.out) hb); have n2_ := Aside0.mk (Kd.R_below (by (with_reducible repeat (first | apply Kd.R_alloc | apply Kd.R_drewN | apply Kd.R_drew)); exact HO167.out) hb); have n3_ := Aside0.mk (Kd.R_lower ho0 (below_size (by repeat (first | (with_reducible first | exact HB.out | apply below_alloc | apply pw_below_drewN | apply below_drew1 | refine below_set ?_ GE161.out) | exact HB.out)))); have n4_ := Aside0.mk (blk_below (g := gb161) (o := .cells #[.string (⟨#[]⟩ : ByteArray), .slice Ao36 y158.length co36, .slice none 0 0] 25 (0, 0)) (by (with_reducible repeat (first | refine blk_drewN ?_ _ | refine blk_drew ?_ | refine blk_alloc ?_ _)); exact BK161.out) hb); have n5_ := Aside0.mk (below_step (by repeat (first | (with_reducible first | exact HB.out | apply below_alloc | apply pw_below_drewN | apply below_drew1 | refine below_set ?_ GE161.out) | exact HB.out)) hb); clear HO160; clear HO164; clear HO167; clear BK161; clear HB; have HO160 := n0_; have HO164 := n1_; have HO167 := n2_; have HO173 := n3_; have BK161 := n4_; have HB := n5_; clear n0_ n1_ n2_ n3_ n4_ n5_; (try clear hb); (try clear hb2); (try clear hk); (try clear hi); (try clear ho0); obtain ⟨Ao45, co45, eo45⟩ := Kd.R_slice HO173.out; subst eo45; have q46 : (2 : Int) ≤ ((t165.length : Int) : Int) := of_decide_eq_true (by first | (with_reducible assumption) | assumption); obtain ⟨i046, hi046, _, hsz46, _⟩ := info_parts info35; have hroom46 : t165.length ≤ co43 := (Kd.R_reads' HO167.out).2.1; have hC46 : Kd.C k35 _ (some ad168) t165.length t165 := (Kd.R_reads' HO167.out).2.2; have hcut46 := cut_to (P := Tryd.prog) 29 35 .i64 Tryd.underlying29 hi046 (some ad168) t165.length co43 2 (by omega) q46 hroom46; have hr46 := Kd.C_take (m := 2) hC46 (by omega); have hy46 : y174.length = (2 : Int).toNat := (by rw [Ny174.out, List.length_take]; omega); rw [← Ny174.out] at hr46; rw [← hy46] at hcut46; have HR177 := Aside0.mk hr46; have HC177 := Aside0.mk (show y174.length ≤ co43 from by omega); clear hr46 hC46 hroom46 hi046 hsz46; have KY46 := Aside0.mk hy46; clear hy46; have KL46 := Aside0.mk (show 2 ≤ t165.length from by omega); replace q46 := eq_true q46) | (go_at_call 10; (with_reducible refine (orders_Jobs.calls _ _ y174 t178 _ ?side1 ?side2 A12.out).mono ?_); (case side1 => repeat (first | exact (by repeat (first | (with_reducible exact HR177.out) | (with_reducible refine Kd.C_alloc ?_ _) | (with_reducible refine Kd.C_drewN ?_ _) | (with_reducible refine Kd.C_drew ?_) | exact HR177.out)) | (with_reducible refine Kd.C_alloc ?_ _) | (with_reducible refine Kd.C_drewN ?_ _) | (with_reducible refine Kd.C_drew ?_))); (case side2 => exact HC177.out); rintro e w47 ⟨v179, rfl, ho0, hb⟩; have n0_ := Aside0.mk (Kd.R_below (by (with_reducible repeat (first | apply Kd.R_alloc | apply Kd.R_drewN | apply Kd.R_drew)); exact HO160.out) hb); have n1_ := Aside0.mk (Kd.R_below (by (with_reducible repeat (first | apply Kd.R_alloc | apply Kd.R_drewN | apply Kd.R_drew)); exact HO164.out) hb); have n2_ := Aside0.mk (Kd.R_below (by (with_reducible repeat (first | apply Kd.R_alloc | apply Kd.R_drewN | apply Kd.R_drew)); exact HO167.out) hb); have n3_ := Aside0.mk (Kd.R_elder' (by (with_reducible repeat (first | apply Kd.R_alloc | apply Kd.R_drewN | apply Kd.R_drew)); exact HO173.out) (Kd.R_base ho0) hb); have n4_ := Aside0.mk (Kd.R_lower (Kd.R_new' ho0 (Kd.R_lt (by (with_reducible repeat (first | apply Kd.R_alloc | apply Kd.R_drewN | apply Kd.R_drew)); exact HO173.out))) (below_size (by repeat (first | (with_reducible first | exact HB.out | apply below_alloc | apply pw_below_drewN | apply below_drew1 | refine below_set ?_ GE161.out) | exact HB.out)))); have n5_ := Aside0.mk (blk_below (g := gb161) (o := .cells #[.string (⟨#[]⟩ : ByteArray), .slice Ao36 y158.length co36, .slice none 0 0] 25 (0, 0)) (by (with_reducible repeat (first | refine blk_drewN ?_ _ | refine blk_drew ?_ | refine blk_alloc ?_ _)); exact BK161.out) hb); have n6_ := Aside0.mk (Kd.C_below (by repeat (first | (with_reducible exact HR177.out) | (with_reducible refine Kd.C_alloc ?_ _) | (with_reducible refine Kd.C_drewN ?_ _) | (with_reducible refine Kd.C_drew ?_) | exact HR177.out)) hb); have n7_ := Aside0.mk (below_step (by repeat (first | (with_reducible first | exact HB.out | apply below_alloc | apply pw_below_drewN | apply below_drew1 | refine below_set ?_ GE161.out) | exact HB.out)) hb); clear HO160; clear HO164; clear HO167; clear HO173; clear BK161; clear HR177; clear HB; have HO160 := n0_; have HO164 := n1_; have HO167 := n2_; have HO173 := n3_; have HO180 := n4_; have BK161 := n5_; have HR177 := n6_; have HB := n7_; clear n0_ n1_ n2_ n3_ n4_ n5_ n6_ n7_; (try clear hb); (try clear hb2); (try clear hk); (try clear hi); (try clear ho0); obtain ⟨Ao48, co48, eo48⟩ := Kd.R_slice HO180.out; subst eo48))
                      go_ret
                      exact ⟨by first | rfl | (simp [errW_none, errW_some] <;> rfl) | (simp [*, errW_none, errW_some] <;> rfl), by repeat (first | (with_reducible first | exact HB.out | apply below_alloc | apply pw_below_drewN | apply below_drew1 | refine below_set ?_ GE161.out) | exact HB.out)⟩
                  · rw [if_neg c11] at H
                    exact absurd H (by simp)
                · rw [if_neg c10] at H
                  have c10b0 : ((t171.length : Int) == 0) = false := beq_eq_false_iff_ne.mpr c10
                  have c10b1 : ((t171.length : Int) != 0) = true := bne_iff_ne.mpr c10
                  have c10b2 : ¬ (t171 = []) := fun h_ => c10 (by rw [h_]; rfl)
                  obtain rfl := Option.some.inj H
                  go_enter Tryd.func7, Tryd.ntmps7
                  go_wp2_with (first | ((with_reducible refine gate_dst (N := 5) rfl ?_); (try (refine gate_guard (by rfl) ?_; dsimp only)); refine Kd.R_lit k45 _ 45 ?hg (N := 5) ?hd (xs := ([(⟨3, 0, 3, 0, (⟨#[]⟩ : ByteArray)⟩ : S45), (⟨8, 0, 0, 1, (⟨#[80, 84, 57, 83]⟩ : ByteArray)⟩ : S45)] : List (S45))) (inner := [.int .i64 3, .int .i64 0, .int .i64 3, .int .i64 0, .string (⟨#[]⟩ : ByteArray), .int .i64 8, .int .i64 0, .int .i64 0, .int .i64 1, .string (⟨#[80, 84, 57, 83]⟩ : ByteArray)]) (ok := fun _ => True) (okp := fun _ => True) ?hr ?hp (fun _ hk => hk) trivial (Below.refl _ _) (Nat.le_refl _) (by simp) ?_; (case hd => rfl); (case hg => rfl); (case hr => first | (go_simp; done) | (go_simp; rfl)); (case hp => exact (Reps.c5 (show Kd.M k45 _ _ _ (⟨3, 0, 3, 0, (⟨#[]⟩ : ByteArray)⟩ : S45) [.int .i64 3, .int .i64 0, .int .i64 3, .int .i64 0, .string (⟨#[]⟩ : ByteArray)] from (k45_mkM _ _ _ (⟨3, 0, 3, 0, (⟨#[]⟩ : ByteArray)⟩ : S45) )) (Reps.c5 (show Kd.M k45 _ _ _ (⟨8, 0, 0, 1, (⟨#[80, 84, 57, 83]⟩ : ByteArray)⟩ : S45) [.int .i64 8, .int .i64 0, .int .i64 0, .int .i64 1, .string (⟨#[80, 84, 57, 83]⟩ : ByteArray)] from (k45_mkM _ _ _ (⟨8, 0, 0, 1, (⟨#[80, 84, 57, 83]⟩ : ByteArray)⟩ : S45) )) (Reps.none _ _)))); intro v159 w49 ho50 hb hg_ hnew_; clear hg_ hnew_; (first | rw [← Ny158.out] at ho50 | (simp only [Int.reduceToNat] at ho50; rw [← Ny158.out] at ho50)); have n0_ := Aside0.mk (Kd.R_lower ho50 (below_size (by repeat (first | (with_reducible first | exact HB.out | apply below_alloc | apply pw_below_drewN | apply below_drew1) | exact HB.out)))); have n1_ := Aside0.mk (below_step (by repeat (first | (with_reducible first | exact HB.out | apply below_alloc | apply pw_below_drewN | apply below_drew1) | exact HB.out)) hb); clear HB; have HO160 := n0_; have HB := n1_; clear n0_ n1_; clear hb ho50; obtain ⟨Ao51, co51, eo51⟩ := Kd.R_slice HO160.out; subst eo51) | ((with_reducible refine gate_dst (N := 1) rfl ?_); (try (refine gate_guard (by rfl) ?_; dsimp only)); refine box_event ?hg (N := 1) ?hd (cs := #[.string (⟨#[]⟩ : ByteArray), .slice none 0 0, .slice none 0 0]) (t := 25) ?hr ?_; (case hd => rfl); (case hg => rfl); (case hr => first | (go_simp; done) | (go_simp; rfl)); intro gb161 hg w52 hbox hb; have n0_ := Aside0.mk (Kd.R_below (by (with_reducible repeat (first | apply Kd.R_alloc | apply Kd.R_drewN | apply Kd.R_drew)); exact HO160.out) hb); have n1_ := Aside0.mk (below_step (by repeat (first | (with_reducible first | exact HB.out | apply below_alloc | apply pw_below_drewN | apply below_drew1) | exact HB.out)) hb); have n2_ := Aside0.mk (hbox); have n3_ := Aside0.mk ((by rw [hg]; exact (below_size (by repeat (first | (with_reducible first | exact HB.out | apply below_alloc | apply pw_below_drewN | apply below_drew1) | exact HB.out))) : w.heap.size ≤ gb161)); have n4_ := Aside0.mk ((by rw [hg]; exact (below_size (by repeat (first | (with_reducible first | exact HB.out | apply below_alloc | apply pw_below_drewN | apply below_drew1) | exact HB.out))) : w.heap.size ≤ gb161)); clear HO160; clear HB; have HO160 := n0_; have HB := n1_; have BK161 := n2_; have GW161 := n3_; have GE161 := n4_; clear n0_ n1_ n2_ n3_ n4_; clear hb hbox hg; have hcz53_0 : w52.cell? ⟨gb161, 0, none⟩ = some (.string (⟨#[]⟩ : ByteArray)) := (blk_cell BK161.out 0).trans rfl; have hcz53_1 : w52.cell? ⟨gb161, 1, none⟩ = some (.slice none 0 0) := (blk_cell BK161.out 1).trans rfl; have hcz53_2 : w52.cell? ⟨gb161, 2, none⟩ = some (.slice none 0 0) := (blk_cell BK161.out 2).trans rfl; have hfz53_0 := blk_frozen BK161.out 0; have hfz53_1 := blk_frozen BK161.out 1; have hfz53_2 := blk_frozen BK161.out 2) | ((with_reducible refine gate_dst (N := 12) rfl ?_); (try (refine gate_guard (by rfl) ?_; dsimp only)); refine Kd.R_lit k32 _ 32 ?hg (N := 12) ?hd (xs := ([(⟨2, 0, 1, 5⟩ : S32), (⟨1, 0, 0, 0⟩ : S32), (⟨3, 0, 2, 5⟩ : S32), (⟨4, 0, 0, 5⟩ : S32)] : List (S32))) (inner := [.int .i64 2, .int .i64 0, .int .i64 1, .int .i64 5, .int .i64 1, .int .i64 0, .int .i64 0, .int .i64 0, .int .i64 3, .int .i64 0, .int .i64 2, .int .i64 5, .int .i64 4, .int .i64 0, .int .i64 0, .int .i64 5]) (ok := fun _ => True) (okp := fun _ => True) ?hr ?hp (fun _ hk => hk) trivial (Below.refl _ _) (Nat.le_refl _) (by simp) ?_; (case hd => rfl); (case hg => rfl); (case hr => first | (go_simp; done) | (go_simp; rfl)); (case hp => exact (Reps.c4 (show Kd.M k32 _ _ _ (⟨2, 0, 1, 5⟩ : S32) [.int .i64 2, .int .i64 0, .int .i64 1, .int .i64 5] from (k32_mkM _ _ _ (⟨2, 0, 1, 5⟩ : S32) )) (Reps.c4 (show Kd.M k32 _ _ _ (⟨1, 0, 0, 0⟩ : S32) [.int .i64 1, .int .i64 0, .int .i64 0, .int .i64 0] from (k32_mkM _ _ _ (⟨1, 0, 0, 0⟩ : S32) )) (Reps.c4 (show Kd.M k32 _ _ _ (⟨3, 0, 2, 5⟩ : S32) [.int .i64 3, .int .i64 0, .int .i64 2, .int .i64 5] from (k32_mkM _ _ _ (⟨3, 0, 2, 5⟩ : S32) )) (Reps.c4 (show Kd.M k32 _ _ _ (⟨4, 0, 0, 5⟩ : S32) [.int .i64 4, .int .i64 0, .int .i64 0, .int .i64 5] from (k32_mkM _ _ _ (⟨4, 0, 0, 5⟩ : S32) )) (Reps.none _ _)))))); intro v163 w54 ho55 hb hg_ hnew_; clear hg_ hnew_; (first | rw [← Ny162.out] at ho55 | (simp only [Int.reduceToNat] at ho55; rw [← Ny162.out] at ho55)); have n0_ := Aside0.mk (Kd.R_below (by (with_reducible repeat (first | apply Kd.R_alloc | apply Kd.R_drewN | apply Kd.R_drew)); exact (Kd.R_mono (Kd.R_far (p := ⟨gb161, 2, none⟩) (Kd.R_far (p := ⟨gb161, 1, none⟩) (Kd.R_far (p := ⟨gb161, 0, none⟩) (Kd.R_types HO160.out BK161.out (by decide)) (fun _ hk => hk.2) (.string (⟨#[]⟩ : ByteArray))) (fun _ hk => hk.2) (.slice Ao51 y158.length co51)) (fun _ hk => hk.2) (.slice none 0 0)) (fun _ h_ => h_.1))) hb); have n1_ := Aside0.mk (Kd.R_lower ho55 (below_size (by repeat (first | (with_reducible first | exact HB.out | apply below_alloc | apply pw_below_drewN | apply below_drew1 | refine below_set ?_ GE161.out) | exact HB.out)))); have n2_ := Aside0.mk (blk_below (g := gb161) (o := .cells #[.string (⟨#[]⟩ : ByteArray), .slice Ao51 y158.length co51, .slice none 0 0] 25 (0, 0)) (by (with_reducible repeat (first | refine blk_drewN ?_ _ | refine blk_drew ?_ | refine blk_alloc ?_ _)); refine blk_put (cs := #[.string (⟨#[]⟩ : ByteArray), .slice Ao51 y158.length co51, .slice none 0 0]) ?_ 2 _ rfl; (with_reducible repeat (first | refine blk_drewN ?_ _ | refine blk_drew ?_ | refine blk_alloc ?_ _)); refine blk_put (cs := #[.string (⟨#[]⟩ : ByteArray), .slice none 0 0, .slice none 0 0]) ?_ 1 _ rfl; (with_reducible repeat (first | refine blk_drewN ?_ _ | refine blk_drew ?_ | refine blk_alloc ?_ _)); refine blk_put (cs := #[.string (⟨#[]⟩ : ByteArray), .slice none 0 0, .slice none 0 0]) ?_ 0 _ rfl; (with_reducible repeat (first | refine blk_drewN ?_ _ | refine blk_drew ?_ | refine blk_alloc ?_ _)); exact BK161.out) hb); have n3_ := Aside0.mk (below_step (by repeat (first | (with_reducible first | exact HB.out | apply below_alloc | apply pw_below_drewN | apply below_drew1 | refine below_set ?_ GE161.out) | exact HB.out)) hb); clear HO160; clear BK161; clear HB; have HO160 := n0_; have HO164 := n1_; have BK161 := n2_; have HB := n3_; clear n0_ n1_ n2_ n3_; clear hb ho55; obtain ⟨Ao56, co56, eo56⟩ := Kd.R_slice HO164.out; subst eo56) | ((with_reducible refine gate_callee (f := 8) rfl ?_); refine goesL_ (some 13) rfl rfl Tryd.func8 (by kernel_rfl) rfl #[.agg #[.string (⟨#[]⟩ : ByteArray), .slice Ao51 y158.length co51, .slice none 0 0], .slice Ao56 y162.length co56] rfl (by (try simp only [List.map_toArray, List.map_cons, List.map_nil]); first | done | rfl | (simp only [List.length_drop, List.length_take]; rfl)) ?_; (refine (orders_Of.calls k (⟨#[]⟩ : ByteArray) _ _ y158 _ _ ([] : List (S47)) _ _ y162 t165 _ ?side1 ?side2 ?side3 ?side4 ?side5 ?side6 A1.out).mono ?_); (case side1 => repeat (first | exact (Kd.R_reads' HO160.out).2.2 | (with_reducible refine Kd.C_alloc ?_ _) | (with_reducible refine Kd.C_drewN ?_ _) | (with_reducible refine Kd.C_drew ?_))); (case side2 => exact (Kd.R_reads' HO160.out).2.1); (case side3 => exact Kd.C_nil _ _); (case side4 => exact Nat.le_refl _); (case side5 => repeat (first | exact (Kd.R_reads' HO164.out).2.2 | (with_reducible refine Kd.C_alloc ?_ _) | (with_reducible refine Kd.C_drewN ?_ _) | (with_reducible refine Kd.C_drew ?_))); (case side6 => exact (Kd.R_reads' HO164.out).2.1); rintro e w57 ⟨v166, rfl, ho0, hb⟩; refine ⟨_, rfl, ?_⟩; have n0_ := Aside0.mk (Kd.R_below (by (with_reducible repeat (first | apply Kd.R_alloc | apply Kd.R_drewN | apply Kd.R_drew)); exact HO160.out) hb); have n1_ := Aside0.mk (Kd.R_below (by (with_reducible repeat (first | apply Kd.R_alloc | apply Kd.R_drewN | apply Kd.R_drew)); exact HO164.out) hb); have n2_ := Aside0.mk (Kd.R_lower ho0 (below_size (by repeat (first | (with_reducible first | exact HB.out | apply below_alloc | apply pw_below_drewN | apply below_drew1 | refine below_set ?_ GE161.out) | exact HB.out)))); have n3_ := Aside0.mk (blk_below (g := gb161) (o := .cells #[.string (⟨#[]⟩ : ByteArray), .slice Ao51 y158.length co51, .slice none 0 0] 25 (0, 0)) (by (with_reducible repeat (first | refine blk_drewN ?_ _ | refine blk_drew ?_ | refine blk_alloc ?_ _)); exact BK161.out) hb); have n4_ := Aside0.mk (below_step (by repeat (first | (with_reducible first | exact HB.out | apply below_alloc | apply pw_below_drewN | apply below_drew1 | refine below_set ?_ GE161.out) | exact HB.out)) hb); clear HO160; clear HO164; clear BK161; clear HB; have HO160 := n0_; have HO164 := n1_; have HO167 := n2_; have BK161 := n3_; have HB := n4_; clear n0_ n1_ n2_ n3_ n4_; (try clear hb); (try clear hb2); (try clear hk); (try clear hi); (try clear ho0); obtain ⟨Ao58, co58, eo58⟩ := Kd.R_slice HO167.out; subst eo58; have p168 : 0 ≤ (0 : Int) := (by omega); have q168 : 0 < (t165.length : Int) := of_decide_eq_true (by first | (with_reducible assumption) | assumption); obtain ⟨ad168, e168, hx168_0, hx168_1, hx168_2, hx168_3, hx168_4⟩ := at_T35 (Kd.R_reads' HO167.out).2.2 0 p168 q168; cases e168; have qi168 : (0 < t165.length) = True := eq_true (by omega); (try rw [show ((0 : Int)).toNat = 0 from rfl] at hx168_0); (try rw [show 0 * 5 = 0 from rfl] at hx168_0); (try rw [Addr.add_zero'] at hx168_0); (try rw [show ((0 : Int)).toNat = 0 from rfl] at hx168_1); (try rw [show 0 * 5 = 0 from rfl] at hx168_1); (try rw [Addr.add_zero'] at hx168_1); (try rw [show ((0 : Int)).toNat = 0 from rfl] at hx168_2); (try rw [show 0 * 5 = 0 from rfl] at hx168_2); (try rw [Addr.add_zero'] at hx168_2); (try rw [show ((0 : Int)).toNat = 0 from rfl] at hx168_3); (try rw [show 0 * 5 = 0 from rfl] at hx168_3); (try rw [Addr.add_zero'] at hx168_3); (try rw [show ((0 : Int)).toNat = 0 from rfl] at hx168_4); (try rw [show 0 * 5 = 0 from rfl] at hx168_4); (try rw [Addr.add_zero'] at hx168_4); replace p168 := eq_true p168; replace q168 := eq_true q168; have p169 : 0 ≤ (1 : Int) := (by omega); have q169 : 1 < (t165.length : Int) := of_decide_eq_true (by first | (with_reducible assumption) | assumption); obtain ⟨ad169, e169, hx169_0, hx169_1, hx169_2, hx169_3, hx169_4⟩ := at_T35 (Kd.R_reads' HO167.out).2.2 1 p169 q169; obtain rfl : ad168 = ad169 := (by injection e169); (try simp only [show (1 : Int).toNat = 1 from rfl, Nat.reduceMul, Nat.reduceEqDiff, Go.Addr.add, ↓reduceIte] at hx169_0); (try simp only [show (1 : Int).toNat = 1 from rfl, Nat.reduceMul, Nat.reduceEqDiff, Go.Addr.add, ↓reduceIte] at hx169_1); (try simp only [show (1 : Int).toNat = 1 from rfl, Nat.reduceMul, Nat.reduceEqDiff, Go.Addr.add, ↓reduceIte] at hx169_2); (try simp only [show (1 : Int).toNat = 1 from rfl, Nat.reduceMul, Nat.reduceEqDiff, Go.Addr.add, ↓reduceIte] at hx169_3); (try simp only [show (1 : Int).toNat = 1 from rfl, Nat.reduceMul, Nat.reduceEqDiff, Go.Addr.add, ↓reduceIte] at hx169_4); have qi169 : (1 < t165.length) = True := eq_true (by omega); (try rw [show ((1 : Int)).toNat = 1 from rfl] at hx169_0); (try rw [show 1 * 5 = 5 from rfl] at hx169_0); (try rw [show ((1 : Int)).toNat = 1 from rfl] at hx169_1); (try rw [show 1 * 5 = 5 from rfl] at hx169_1); (try rw [show ((1 : Int)).toNat = 1 from rfl] at hx169_2); (try rw [show 1 * 5 = 5 from rfl] at hx169_2); (try rw [show ((1 : Int)).toNat = 1 from rfl] at hx169_3); (try rw [show 1 * 5 = 5 from rfl] at hx169_3); (try rw [show ((1 : Int)).toNat = 1 from rfl] at hx169_4); (try rw [show 1 * 5 = 5 from rfl] at hx169_4); replace p169 := eq_true p169; replace q169 := eq_true q169; have p170 : 0 ≤ (2 : Int) := (by omega); have q170 : 2 < (t165.length : Int) := of_decide_eq_true (by first | (with_reducible assumption) | assumption); obtain ⟨ad170, e170, hx170_0, hx170_1, hx170_2, hx170_3, hx170_4⟩ := at_T35 (Kd.R_reads' HO167.out).2.2 2 p170 q170; obtain rfl : ad168 = ad170 := (by injection e170); (try simp only [show (2 : Int).toNat = 2 from rfl, Nat.reduceMul, Nat.reduceEqDiff, Go.Addr.add, ↓reduceIte] at hx170_0); (try simp only [show (2 : Int).toNat = 2 from rfl, Nat.reduceMul, Nat.reduceEqDiff, Go.Addr.add, ↓reduceIte] at hx170_1); (try simp only [show (2 : Int).toNat = 2 from rfl, Nat.reduceMul, Nat.reduceEqDiff, Go.Addr.add, ↓reduceIte] at hx170_2); (try simp only [show (2 : Int).toNat = 2 from rfl, Nat.reduceMul, Nat.reduceEqDiff, Go.Addr.add, ↓reduceIte] at hx170_3); (try simp only [show (2 : Int).toNat = 2 from rfl, Nat.reduceMul, Nat.reduceEqDiff, Go.Addr.add, ↓reduceIte] at hx170_4); have qi170 : (2 < t165.length) = True := eq_true (by omega); (try rw [show ((2 : Int)).toNat = 2 from rfl] at hx170_0); (try rw [show 2 * 5 = 10 from rfl] at hx170_0); (try rw [show ((2 : Int)).toNat = 2 from rfl] at hx170_1); (try rw [show 2 * 5 = 10 from rfl] at hx170_1); (try rw [show ((2 : Int)).toNat = 2 from rfl] at hx170_2); (try rw [show 2 * 5 = 10 from rfl] at hx170_2); (try rw [show ((2 : Int)).toNat = 2 from rfl] at hx170_3); (try rw [show 2 * 5 = 10 from rfl] at hx170_3); (try rw [show ((2 : Int)).toNat = 2 from rfl] at hx170_4); (try rw [show 2 * 5 = 10 from rfl] at hx170_4); replace p170 := eq_true p170; replace q170 := eq_true q170) | (go_at_call 10; (with_reducible refine (orders_Jobs.calls _ _ t165 t171 _ ?side1 ?side2 A9.out).mono ?_); (case side1 => repeat (first | exact (Kd.R_reads' HO167.out).2.2 | (with_reducible refine Kd.C_alloc ?_ _) | (with_reducible refine Kd.C_drewN ?_ _) | (with_reducible refine Kd.C_drew ?_))); (case side2 => exact (Kd.R_reads' HO167.out).2.1); rintro e w59 ⟨v172, rfl, ho0, hb⟩; have n0_ := Aside0.mk (Kd.R_below (by (with_reducible repeat (first | apply Kd.R_alloc | apply Kd.R_drewN | apply Kd.R_drew)); exact HO160.out) hb); have n1_ := Aside0.mk (Kd.R_below (by (with_reducible repeat (first | apply Kd.R_alloc | apply Kd.R_drewN | apply Kd.R_drew)); exact HO164.out) hb); have n2_ := Aside0.mk (Kd.R_below (by (with_reducible repeat (first | apply Kd.R_alloc | apply Kd.R_drewN | apply Kd.R_drew)); exact HO167.out) hb); have n3_ := Aside0.mk (Kd.R_lower ho0 (below_size (by repeat (first | (with_reducible first | exact HB.out | apply below_alloc | apply pw_below_drewN | apply below_drew1 | refine below_set ?_ GE161.out) | exact HB.out)))); have n4_ := Aside0.mk (blk_below (g := gb161) (o := .cells #[.string (⟨#[]⟩ : ByteArray), .slice Ao51 y158.length co51, .slice none 0 0] 25 (0, 0)) (by (with_reducible repeat (first | refine blk_drewN ?_ _ | refine blk_drew ?_ | refine blk_alloc ?_ _)); exact BK161.out) hb); have n5_ := Aside0.mk (below_step (by repeat (first | (with_reducible first | exact HB.out | apply below_alloc | apply pw_below_drewN | apply below_drew1 | refine below_set ?_ GE161.out) | exact HB.out)) hb); clear HO160; clear HO164; clear HO167; clear BK161; clear HB; have HO160 := n0_; have HO164 := n1_; have HO167 := n2_; have HO173 := n3_; have BK161 := n4_; have HB := n5_; clear n0_ n1_ n2_ n3_ n4_ n5_; (try clear hb); (try clear hb2); (try clear hk); (try clear hi); (try clear ho0); obtain ⟨Ao60, co60, eo60⟩ := Kd.R_slice HO173.out; subst eo60))
                  go_ret
                  exact ⟨by first | rfl | (simp [errW_none, errW_some] <;> rfl) | (simp [*, errW_none, errW_some] <;> rfl), by repeat (first | (with_reducible first | exact HB.out | apply below_alloc | apply pw_below_drewN | apply below_drew1 | refine below_set ?_ GE161.out) | exact HB.out)⟩
              · rw [if_neg c8] at H
                have c8b0 : (((rd_T35 t165 2).f0) == 3 && (((rd_T35 t165 2).f1) == 5 && (((rd_T35 t165 2).f2) == 0 && (((rd_T35 t165 2).f3) == 0 && (((rd_T35 t165 2).f4) == 0))))) = false := by simpa using c8
                (try (have c8b1 : decide (((rd_T35 t165 2).f0) = 3 && (((rd_T35 t165 2).f1) == 5 && (((rd_T35 t165 2).f2) == 0 && (((rd_T35 t165 2).f3) == 0 && (((rd_T35 t165 2).f4) == 0))))) = false := by simpa using c8))
                (try (have c8b2 : (((rd_T35 t165 2).f0) == 3 && (((rd_T35 t165 2).f1) == 5 && (((rd_T35 t165 2).f2) == 0 && (((rd_T35 t165 2).f3) == 0 && (((rd_T35 t165 2).f4) == 0))))) = false := by simpa using c8))
                (try (have c8b3 : ¬ (((rd_T35 t165 2).f0) = 3 && (((rd_T35 t165 2).f1) == 5 && (((rd_T35 t165 2).f2) == 0 && (((rd_T35 t165 2).f3) == 0 && (((rd_T35 t165 2).f4) == 0))))) := by simpa using c8))
                clear c8
                obtain rfl := Option.some.inj H
                go_enter Tryd.func7, Tryd.ntmps7
                go_wp2_with (first | ((with_reducible refine gate_dst (N := 5) rfl ?_); (try (refine gate_guard (by rfl) ?_; dsimp only)); refine Kd.R_lit k45 _ 45 ?hg (N := 5) ?hd (xs := ([(⟨3, 0, 3, 0, (⟨#[]⟩ : ByteArray)⟩ : S45), (⟨8, 0, 0, 1, (⟨#[80, 84, 57, 83]⟩ : ByteArray)⟩ : S45)] : List (S45))) (inner := [.int .i64 3, .int .i64 0, .int .i64 3, .int .i64 0, .string (⟨#[]⟩ : ByteArray), .int .i64 8, .int .i64 0, .int .i64 0, .int .i64 1, .string (⟨#[80, 84, 57, 83]⟩ : ByteArray)]) (ok := fun _ => True) (okp := fun _ => True) ?hr ?hp (fun _ hk => hk) trivial (Below.refl _ _) (Nat.le_refl _) (by simp) ?_; (case hd => rfl); (case hg => rfl); (case hr => first | (go_simp; done) | (go_simp; rfl)); (case hp => exact (Reps.c5 (show Kd.M k45 _ _ _ (⟨3, 0, 3, 0, (⟨#[]⟩ : ByteArray)⟩ : S45) [.int .i64 3, .int .i64 0, .int .i64 3, .int .i64 0, .string (⟨#[]⟩ : ByteArray)] from (k45_mkM _ _ _ (⟨3, 0, 3, 0, (⟨#[]⟩ : ByteArray)⟩ : S45) )) (Reps.c5 (show Kd.M k45 _ _ _ (⟨8, 0, 0, 1, (⟨#[80, 84, 57, 83]⟩ : ByteArray)⟩ : S45) [.int .i64 8, .int .i64 0, .int .i64 0, .int .i64 1, .string (⟨#[80, 84, 57, 83]⟩ : ByteArray)] from (k45_mkM _ _ _ (⟨8, 0, 0, 1, (⟨#[80, 84, 57, 83]⟩ : ByteArray)⟩ : S45) )) (Reps.none _ _)))); intro v159 w61 ho62 hb hg_ hnew_; clear hg_ hnew_; (first | rw [← Ny158.out] at ho62 | (simp only [Int.reduceToNat] at ho62; rw [← Ny158.out] at ho62)); have n0_ := Aside0.mk (Kd.R_lower ho62 (below_size (by repeat (first | (with_reducible first | exact HB.out | apply below_alloc | apply pw_below_drewN | apply below_drew1) | exact HB.out)))); have n1_ := Aside0.mk (below_step (by repeat (first | (with_reducible first | exact HB.out | apply below_alloc | apply pw_below_drewN | apply below_drew1) | exact HB.out)) hb); clear HB; have HO160 := n0_; have HB := n1_; clear n0_ n1_; clear hb ho62; obtain ⟨Ao63, co63, eo63⟩ := Kd.R_slice HO160.out; subst eo63) | ((with_reducible refine gate_dst (N := 1) rfl ?_); (try (refine gate_guard (by rfl) ?_; dsimp only)); refine box_event ?hg (N := 1) ?hd (cs := #[.string (⟨#[]⟩ : ByteArray), .slice none 0 0, .slice none 0 0]) (t := 25) ?hr ?_; (case hd => rfl); (case hg => rfl); (case hr => first | (go_simp; done) | (go_simp; rfl)); intro gb161 hg w64 hbox hb; have n0_ := Aside0.mk (Kd.R_below (by (with_reducible repeat (first | apply Kd.R_alloc | apply Kd.R_drewN | apply Kd.R_drew)); exact HO160.out) hb); have n1_ := Aside0.mk (below_step (by repeat (first | (with_reducible first | exact HB.out | apply below_alloc | apply pw_below_drewN | apply below_drew1) | exact HB.out)) hb); have n2_ := Aside0.mk (hbox); have n3_ := Aside0.mk ((by rw [hg]; exact (below_size (by repeat (first | (with_reducible first | exact HB.out | apply below_alloc | apply pw_below_drewN | apply below_drew1) | exact HB.out))) : w.heap.size ≤ gb161)); have n4_ := Aside0.mk ((by rw [hg]; exact (below_size (by repeat (first | (with_reducible first | exact HB.out | apply below_alloc | apply pw_below_drewN | apply below_drew1) | exact HB.out))) : w.heap.size ≤ gb161)); clear HO160; clear HB; have HO160 := n0_; have HB := n1_; have BK161 := n2_; have GW161 := n3_; have GE161 := n4_; clear n0_ n1_ n2_ n3_ n4_; clear hb hbox hg; have hcz65_0 : w64.cell? ⟨gb161, 0, none⟩ = some (.string (⟨#[]⟩ : ByteArray)) := (blk_cell BK161.out 0).trans rfl; have hcz65_1 : w64.cell? ⟨gb161, 1, none⟩ = some (.slice none 0 0) := (blk_cell BK161.out 1).trans rfl; have hcz65_2 : w64.cell? ⟨gb161, 2, none⟩ = some (.slice none 0 0) := (blk_cell BK161.out 2).trans rfl; have hfz65_0 := blk_frozen BK161.out 0; have hfz65_1 := blk_frozen BK161.out 1; have hfz65_2 := blk_frozen BK161.out 2) | ((with_reducible refine gate_dst (N := 12) rfl ?_); (try (refine gate_guard (by rfl) ?_; dsimp only)); refine Kd.R_lit k32 _ 32 ?hg (N := 12) ?hd (xs := ([(⟨2, 0, 1, 5⟩ : S32), (⟨1, 0, 0, 0⟩ : S32), (⟨3, 0, 2, 5⟩ : S32), (⟨4, 0, 0, 5⟩ : S32)] : List (S32))) (inner := [.int .i64 2, .int .i64 0, .int .i64 1, .int .i64 5, .int .i64 1, .int .i64 0, .int .i64 0, .int .i64 0, .int .i64 3, .int .i64 0, .int .i64 2, .int .i64 5, .int .i64 4, .int .i64 0, .int .i64 0, .int .i64 5]) (ok := fun _ => True) (okp := fun _ => True) ?hr ?hp (fun _ hk => hk) trivial (Below.refl _ _) (Nat.le_refl _) (by simp) ?_; (case hd => rfl); (case hg => rfl); (case hr => first | (go_simp; done) | (go_simp; rfl)); (case hp => exact (Reps.c4 (show Kd.M k32 _ _ _ (⟨2, 0, 1, 5⟩ : S32) [.int .i64 2, .int .i64 0, .int .i64 1, .int .i64 5] from (k32_mkM _ _ _ (⟨2, 0, 1, 5⟩ : S32) )) (Reps.c4 (show Kd.M k32 _ _ _ (⟨1, 0, 0, 0⟩ : S32) [.int .i64 1, .int .i64 0, .int .i64 0, .int .i64 0] from (k32_mkM _ _ _ (⟨1, 0, 0, 0⟩ : S32) )) (Reps.c4 (show Kd.M k32 _ _ _ (⟨3, 0, 2, 5⟩ : S32) [.int .i64 3, .int .i64 0, .int .i64 2, .int .i64 5] from (k32_mkM _ _ _ (⟨3, 0, 2, 5⟩ : S32) )) (Reps.c4 (show Kd.M k32 _ _ _ (⟨4, 0, 0, 5⟩ : S32) [.int .i64 4, .int .i64 0, .int .i64 0, .int .i64 5] from (k32_mkM _ _ _ (⟨4, 0, 0, 5⟩ : S32) )) (Reps.none _ _)))))); intro v163 w66 ho67 hb hg_ hnew_; clear hg_ hnew_; (first | rw [← Ny162.out] at ho67 | (simp only [Int.reduceToNat] at ho67; rw [← Ny162.out] at ho67)); have n0_ := Aside0.mk (Kd.R_below (by (with_reducible repeat (first | apply Kd.R_alloc | apply Kd.R_drewN | apply Kd.R_drew)); exact (Kd.R_mono (Kd.R_far (p := ⟨gb161, 2, none⟩) (Kd.R_far (p := ⟨gb161, 1, none⟩) (Kd.R_far (p := ⟨gb161, 0, none⟩) (Kd.R_types HO160.out BK161.out (by decide)) (fun _ hk => hk.2) (.string (⟨#[]⟩ : ByteArray))) (fun _ hk => hk.2) (.slice Ao63 y158.length co63)) (fun _ hk => hk.2) (.slice none 0 0)) (fun _ h_ => h_.1))) hb); have n1_ := Aside0.mk (Kd.R_lower ho67 (below_size (by repeat (first | (with_reducible first | exact HB.out | apply below_alloc | apply pw_below_drewN | apply below_drew1 | refine below_set ?_ GE161.out) | exact HB.out)))); have n2_ := Aside0.mk (blk_below (g := gb161) (o := .cells #[.string (⟨#[]⟩ : ByteArray), .slice Ao63 y158.length co63, .slice none 0 0] 25 (0, 0)) (by (with_reducible repeat (first | refine blk_drewN ?_ _ | refine blk_drew ?_ | refine blk_alloc ?_ _)); refine blk_put (cs := #[.string (⟨#[]⟩ : ByteArray), .slice Ao63 y158.length co63, .slice none 0 0]) ?_ 2 _ rfl; (with_reducible repeat (first | refine blk_drewN ?_ _ | refine blk_drew ?_ | refine blk_alloc ?_ _)); refine blk_put (cs := #[.string (⟨#[]⟩ : ByteArray), .slice none 0 0, .slice none 0 0]) ?_ 1 _ rfl; (with_reducible repeat (first | refine blk_drewN ?_ _ | refine blk_drew ?_ | refine blk_alloc ?_ _)); refine blk_put (cs := #[.string (⟨#[]⟩ : ByteArray), .slice none 0 0, .slice none 0 0]) ?_ 0 _ rfl; (with_reducible repeat (first | refine blk_drewN ?_ _ | refine blk_drew ?_ | refine blk_alloc ?_ _)); exact BK161.out) hb); have n3_ := Aside0.mk (below_step (by repeat (first | (with_reducible first | exact HB.out | apply below_alloc | apply pw_below_drewN | apply below_drew1 | refine below_set ?_ GE161.out) | exact HB.out)) hb); clear HO160; clear BK161; clear HB; have HO160 := n0_; have HO164 := n1_; have BK161 := n2_; have HB := n3_; clear n0_ n1_ n2_ n3_; clear hb ho67; obtain ⟨Ao68, co68, eo68⟩ := Kd.R_slice HO164.out; subst eo68) | ((with_reducible refine gate_callee (f := 8) rfl ?_); refine goesL_ (some 13) rfl rfl Tryd.func8 (by kernel_rfl) rfl #[.agg #[.string (⟨#[]⟩ : ByteArray), .slice Ao63 y158.length co63, .slice none 0 0], .slice Ao68 y162.length co68] rfl (by (try simp only [List.map_toArray, List.map_cons, List.map_nil]); first | done | rfl | (simp only [List.length_drop, List.length_take]; rfl)) ?_; (refine (orders_Of.calls k (⟨#[]⟩ : ByteArray) _ _ y158 _ _ ([] : List (S47)) _ _ y162 t165 _ ?side1 ?side2 ?side3 ?side4 ?side5 ?side6 A1.out).mono ?_); (case side1 => repeat (first | exact (Kd.R_reads' HO160.out).2.2 | (with_reducible refine Kd.C_alloc ?_ _) | (with_reducible refine Kd.C_drewN ?_ _) | (with_reducible refine Kd.C_drew ?_))); (case side2 => exact (Kd.R_reads' HO160.out).2.1); (case side3 => exact Kd.C_nil _ _); (case side4 => exact Nat.le_refl _); (case side5 => repeat (first | exact (Kd.R_reads' HO164.out).2.2 | (with_reducible refine Kd.C_alloc ?_ _) | (with_reducible refine Kd.C_drewN ?_ _) | (with_reducible refine Kd.C_drew ?_))); (case side6 => exact (Kd.R_reads' HO164.out).2.1); rintro e w69 ⟨v166, rfl, ho0, hb⟩; refine ⟨_, rfl, ?_⟩; have n0_ := Aside0.mk (Kd.R_below (by (with_reducible repeat (first | apply Kd.R_alloc | apply Kd.R_drewN | apply Kd.R_drew)); exact HO160.out) hb); have n1_ := Aside0.mk (Kd.R_below (by (with_reducible repeat (first | apply Kd.R_alloc | apply Kd.R_drewN | apply Kd.R_drew)); exact HO164.out) hb); have n2_ := Aside0.mk (Kd.R_lower ho0 (below_size (by repeat (first | (with_reducible first | exact HB.out | apply below_alloc | apply pw_below_drewN | apply below_drew1 | refine below_set ?_ GE161.out) | exact HB.out)))); have n3_ := Aside0.mk (blk_below (g := gb161) (o := .cells #[.string (⟨#[]⟩ : ByteArray), .slice Ao63 y158.length co63, .slice none 0 0] 25 (0, 0)) (by (with_reducible repeat (first | refine blk_drewN ?_ _ | refine blk_drew ?_ | refine blk_alloc ?_ _)); exact BK161.out) hb); have n4_ := Aside0.mk (below_step (by repeat (first | (with_reducible first | exact HB.out | apply below_alloc | apply pw_below_drewN | apply below_drew1 | refine below_set ?_ GE161.out) | exact HB.out)) hb); clear HO160; clear HO164; clear BK161; clear HB; have HO160 := n0_; have HO164 := n1_; have HO167 := n2_; have BK161 := n3_; have HB := n4_; clear n0_ n1_ n2_ n3_ n4_; (try clear hb); (try clear hb2); (try clear hk); (try clear hi); (try clear ho0); obtain ⟨Ao70, co70, eo70⟩ := Kd.R_slice HO167.out; subst eo70; have p168 : 0 ≤ (0 : Int) := (by omega); have q168 : 0 < (t165.length : Int) := of_decide_eq_true (by first | (with_reducible assumption) | assumption); obtain ⟨ad168, e168, hx168_0, hx168_1, hx168_2, hx168_3, hx168_4⟩ := at_T35 (Kd.R_reads' HO167.out).2.2 0 p168 q168; cases e168; have qi168 : (0 < t165.length) = True := eq_true (by omega); (try rw [show ((0 : Int)).toNat = 0 from rfl] at hx168_0); (try rw [show 0 * 5 = 0 from rfl] at hx168_0); (try rw [Addr.add_zero'] at hx168_0); (try rw [show ((0 : Int)).toNat = 0 from rfl] at hx168_1); (try rw [show 0 * 5 = 0 from rfl] at hx168_1); (try rw [Addr.add_zero'] at hx168_1); (try rw [show ((0 : Int)).toNat = 0 from rfl] at hx168_2); (try rw [show 0 * 5 = 0 from rfl] at hx168_2); (try rw [Addr.add_zero'] at hx168_2); (try rw [show ((0 : Int)).toNat = 0 from rfl] at hx168_3); (try rw [show 0 * 5 = 0 from rfl] at hx168_3); (try rw [Addr.add_zero'] at hx168_3); (try rw [show ((0 : Int)).toNat = 0 from rfl] at hx168_4); (try rw [show 0 * 5 = 0 from rfl] at hx168_4); (try rw [Addr.add_zero'] at hx168_4); replace p168 := eq_true p168; replace q168 := eq_true q168; have p169 : 0 ≤ (1 : Int) := (by omega); have q169 : 1 < (t165.length : Int) := of_decide_eq_true (by first | (with_reducible assumption) | assumption); obtain ⟨ad169, e169, hx169_0, hx169_1, hx169_2, hx169_3, hx169_4⟩ := at_T35 (Kd.R_reads' HO167.out).2.2 1 p169 q169; obtain rfl : ad168 = ad169 := (by injection e169); (try simp only [show (1 : Int).toNat = 1 from rfl, Nat.reduceMul, Nat.reduceEqDiff, Go.Addr.add, ↓reduceIte] at hx169_0); (try simp only [show (1 : Int).toNat = 1 from rfl, Nat.reduceMul, Nat.reduceEqDiff, Go.Addr.add, ↓reduceIte] at hx169_1); (try simp only [show (1 : Int).toNat = 1 from rfl, Nat.reduceMul, Nat.reduceEqDiff, Go.Addr.add, ↓reduceIte] at hx169_2); (try simp only [show (1 : Int).toNat = 1 from rfl, Nat.reduceMul, Nat.reduceEqDiff, Go.Addr.add, ↓reduceIte] at hx169_3); (try simp only [show (1 : Int).toNat = 1 from rfl, Nat.reduceMul, Nat.reduceEqDiff, Go.Addr.add, ↓reduceIte] at hx169_4); have qi169 : (1 < t165.length) = True := eq_true (by omega); (try rw [show ((1 : Int)).toNat = 1 from rfl] at hx169_0); (try rw [show 1 * 5 = 5 from rfl] at hx169_0); (try rw [show ((1 : Int)).toNat = 1 from rfl] at hx169_1); (try rw [show 1 * 5 = 5 from rfl] at hx169_1); (try rw [show ((1 : Int)).toNat = 1 from rfl] at hx169_2); (try rw [show 1 * 5 = 5 from rfl] at hx169_2); (try rw [show ((1 : Int)).toNat = 1 from rfl] at hx169_3); (try rw [show 1 * 5 = 5 from rfl] at hx169_3); (try rw [show ((1 : Int)).toNat = 1 from rfl] at hx169_4); (try rw [show 1 * 5 = 5 from rfl] at hx169_4); replace p169 := eq_true p169; replace q169 := eq_true q169; have p170 : 0 ≤ (2 : Int) := (by omega); have q170 : 2 < (t165.length : Int) := of_decide_eq_true (by first | (with_reducible assumption) | assumption); obtain ⟨ad170, e170, hx170_0, hx170_1, hx170_2, hx170_3, hx170_4⟩ := at_T35 (Kd.R_reads' HO167.out).2.2 2 p170 q170; obtain rfl : ad168 = ad170 := (by injection e170); (try simp only [show (2 : Int).toNat = 2 from rfl, Nat.reduceMul, Nat.reduceEqDiff, Go.Addr.add, ↓reduceIte] at hx170_0); (try simp only [show (2 : Int).toNat = 2 from rfl, Nat.reduceMul, Nat.reduceEqDiff, Go.Addr.add, ↓reduceIte] at hx170_1); (try simp only [show (2 : Int).toNat = 2 from rfl, Nat.reduceMul, Nat.reduceEqDiff, Go.Addr.add, ↓reduceIte] at hx170_2); (try simp only [show (2 : Int).toNat = 2 from rfl, Nat.reduceMul, Nat.reduceEqDiff, Go.Addr.add, ↓reduceIte] at hx170_3); (try simp only [show (2 : Int).toNat = 2 from rfl, Nat.reduceMul, Nat.reduceEqDiff, Go.Addr.add, ↓reduceIte] at hx170_4); have qi170 : (2 < t165.length) = True := eq_true (by omega); (try rw [show ((2 : Int)).toNat = 2 from rfl] at hx170_0); (try rw [show 2 * 5 = 10 from rfl] at hx170_0); (try rw [show ((2 : Int)).toNat = 2 from rfl] at hx170_1); (try rw [show 2 * 5 = 10 from rfl] at hx170_1); (try rw [show ((2 : Int)).toNat = 2 from rfl] at hx170_2); (try rw [show 2 * 5 = 10 from rfl] at hx170_2); (try rw [show ((2 : Int)).toNat = 2 from rfl] at hx170_3); (try rw [show 2 * 5 = 10 from rfl] at hx170_3); (try rw [show ((2 : Int)).toNat = 2 from rfl] at hx170_4); (try rw [show 2 * 5 = 10 from rfl] at hx170_4); replace p170 := eq_true p170; replace q170 := eq_true q170))
                go_ret
                exact ⟨by first | rfl | (simp [errW_none, errW_some] <;> rfl) | (simp [*, errW_none, errW_some] <;> rfl), by repeat (first | (with_reducible first | exact HB.out | apply below_alloc | apply pw_below_drewN | apply below_drew1 | refine below_set ?_ GE161.out) | exact HB.out)⟩
            · rw [if_neg c7] at H
              exact absurd H (by simp)
          · rw [if_neg c6] at H
            have c6b0 : (((rd_T35 t165 1).f0) == 2 && (((rd_T35 t165 1).f1) == 5 && (((rd_T35 t165 1).f2) == 2 && (((rd_T35 t165 1).f3) == 0 && (((rd_T35 t165 1).f4) == 9))))) = false := by simpa using c6
            (try (have c6b1 : decide (((rd_T35 t165 1).f0) = 2 && (((rd_T35 t165 1).f1) == 5 && (((rd_T35 t165 1).f2) == 2 && (((rd_T35 t165 1).f3) == 0 && (((rd_T35 t165 1).f4) == 9))))) = false := by simpa using c6))
            (try (have c6b2 : (((rd_T35 t165 1).f0) == 2 && (((rd_T35 t165 1).f1) == 5 && (((rd_T35 t165 1).f2) == 2 && (((rd_T35 t165 1).f3) == 0 && (((rd_T35 t165 1).f4) == 9))))) = false := by simpa using c6))
            (try (have c6b3 : ¬ (((rd_T35 t165 1).f0) = 2 && (((rd_T35 t165 1).f1) == 5 && (((rd_T35 t165 1).f2) == 2 && (((rd_T35 t165 1).f3) == 0 && (((rd_T35 t165 1).f4) == 9))))) := by simpa using c6))
            clear c6
            obtain rfl := Option.some.inj H
            go_enter Tryd.func7, Tryd.ntmps7
            go_wp2_with (first | ((with_reducible refine gate_dst (N := 5) rfl ?_); (try (refine gate_guard (by rfl) ?_; dsimp only)); refine Kd.R_lit k45 _ 45 ?hg (N := 5) ?hd (xs := ([(⟨3, 0, 3, 0, (⟨#[]⟩ : ByteArray)⟩ : S45), (⟨8, 0, 0, 1, (⟨#[80, 84, 57, 83]⟩ : ByteArray)⟩ : S45)] : List (S45))) (inner := [.int .i64 3, .int .i64 0, .int .i64 3, .int .i64 0, .string (⟨#[]⟩ : ByteArray), .int .i64 8, .int .i64 0, .int .i64 0, .int .i64 1, .string (⟨#[80, 84, 57, 83]⟩ : ByteArray)]) (ok := fun _ => True) (okp := fun _ => True) ?hr ?hp (fun _ hk => hk) trivial (Below.refl _ _) (Nat.le_refl _) (by simp) ?_; (case hd => rfl); (case hg => rfl); (case hr => first | (go_simp; done) | (go_simp; rfl)); (case hp => exact (Reps.c5 (show Kd.M k45 _ _ _ (⟨3, 0, 3, 0, (⟨#[]⟩ : ByteArray)⟩ : S45) [.int .i64 3, .int .i64 0, .int .i64 3, .int .i64 0, .string (⟨#[]⟩ : ByteArray)] from (k45_mkM _ _ _ (⟨3, 0, 3, 0, (⟨#[]⟩ : ByteArray)⟩ : S45) )) (Reps.c5 (show Kd.M k45 _ _ _ (⟨8, 0, 0, 1, (⟨#[80, 84, 57, 83]⟩ : ByteArray)⟩ : S45) [.int .i64 8, .int .i64 0, .int .i64 0, .int .i64 1, .string (⟨#[80, 84, 57, 83]⟩ : ByteArray)] from (k45_mkM _ _ _ (⟨8, 0, 0, 1, (⟨#[80, 84, 57, 83]⟩ : ByteArray)⟩ : S45) )) (Reps.none _ _)))); intro v159 w71 ho72 hb hg_ hnew_; clear hg_ hnew_; (first | rw [← Ny158.out] at ho72 | (simp only [Int.reduceToNat] at ho72; rw [← Ny158.out] at ho72)); have n0_ := Aside0.mk (Kd.R_lower ho72 (below_size (by repeat (first | (with_reducible first | exact HB.out | apply below_alloc | apply pw_below_drewN | apply below_drew1) | exact HB.out)))); have n1_ := Aside0.mk (below_step (by repeat (first | (with_reducible first | exact HB.out | apply below_alloc | apply pw_below_drewN | apply below_drew1) | exact HB.out)) hb); clear HB; have HO160 := n0_; have HB := n1_; clear n0_ n1_; clear hb ho72; obtain ⟨Ao73, co73, eo73⟩ := Kd.R_slice HO160.out; subst eo73) | ((with_reducible refine gate_dst (N := 1) rfl ?_); (try (refine gate_guard (by rfl) ?_; dsimp only)); refine box_event ?hg (N := 1) ?hd (cs := #[.string (⟨#[]⟩ : ByteArray), .slice none 0 0, .slice none 0 0]) (t := 25) ?hr ?_; (case hd => rfl); (case hg => rfl); (case hr => first | (go_simp; done) | (go_simp; rfl)); intro gb161 hg w74 hbox hb; have n0_ := Aside0.mk (Kd.R_below (by (with_reducible repeat (first | apply Kd.R_alloc | apply Kd.R_drewN | apply Kd.R_drew)); exact HO160.out) hb); have n1_ := Aside0.mk (below_step (by repeat (first | (with_reducible first | exact HB.out | apply below_alloc | apply pw_below_drewN | apply below_drew1) | exact HB.out)) hb); have n2_ := Aside0.mk (hbox); have n3_ := Aside0.mk ((by rw [hg]; exact (below_size (by repeat (first | (with_reducible first | exact HB.out | apply below_alloc | apply pw_below_drewN | apply below_drew1) | exact HB.out))) : w.heap.size ≤ gb161)); have n4_ := Aside0.mk ((by rw [hg]; exact (below_size (by repeat (first | (with_reducible first | exact HB.out | apply below_alloc | apply pw_below_drewN | apply below_drew1) | exact HB.out))) : w.heap.size ≤ gb161)); clear HO160; clear HB; have HO160 := n0_; have HB := n1_; have BK161 := n2_; have GW161 := n3_; have GE161 := n4_; clear n0_ n1_ n2_ n3_ n4_; clear hb hbox hg; have hcz75_0 : w74.cell? ⟨gb161, 0, none⟩ = some (.string (⟨#[]⟩ : ByteArray)) := (blk_cell BK161.out 0).trans rfl; have hcz75_1 : w74.cell? ⟨gb161, 1, none⟩ = some (.slice none 0 0) := (blk_cell BK161.out 1).trans rfl; have hcz75_2 : w74.cell? ⟨gb161, 2, none⟩ = some (.slice none 0 0) := (blk_cell BK161.out 2).trans rfl; have hfz75_0 := blk_frozen BK161.out 0; have hfz75_1 := blk_frozen BK161.out 1; have hfz75_2 := blk_frozen BK161.out 2) | ((with_reducible refine gate_dst (N := 12) rfl ?_); (try (refine gate_guard (by rfl) ?_; dsimp only)); refine Kd.R_lit k32 _ 32 ?hg (N := 12) ?hd (xs := ([(⟨2, 0, 1, 5⟩ : S32), (⟨1, 0, 0, 0⟩ : S32), (⟨3, 0, 2, 5⟩ : S32), (⟨4, 0, 0, 5⟩ : S32)] : List (S32))) (inner := [.int .i64 2, .int .i64 0, .int .i64 1, .int .i64 5, .int .i64 1, .int .i64 0, .int .i64 0, .int .i64 0, .int .i64 3, .int .i64 0, .int .i64 2, .int .i64 5, .int .i64 4, .int .i64 0, .int .i64 0, .int .i64 5]) (ok := fun _ => True) (okp := fun _ => True) ?hr ?hp (fun _ hk => hk) trivial (Below.refl _ _) (Nat.le_refl _) (by simp) ?_; (case hd => rfl); (case hg => rfl); (case hr => first | (go_simp; done) | (go_simp; rfl)); (case hp => exact (Reps.c4 (show Kd.M k32 _ _ _ (⟨2, 0, 1, 5⟩ : S32) [.int .i64 2, .int .i64 0, .int .i64 1, .int .i64 5] from (k32_mkM _ _ _ (⟨2, 0, 1, 5⟩ : S32) )) (Reps.c4 (show Kd.M k32 _ _ _ (⟨1, 0, 0, 0⟩ : S32) [.int .i64 1, .int .i64 0, .int .i64 0, .int .i64 0] from (k32_mkM _ _ _ (⟨1, 0, 0, 0⟩ : S32) )) (Reps.c4 (show Kd.M k32 _ _ _ (⟨3, 0, 2, 5⟩ : S32) [.int .i64 3, .int .i64 0, .int .i64 2, .int .i64 5] from (k32_mkM _ _ _ (⟨3, 0, 2, 5⟩ : S32) )) (Reps.c4 (show Kd.M k32 _ _ _ (⟨4, 0, 0, 5⟩ : S32) [.int .i64 4, .int .i64 0, .int .i64 0, .int .i64 5] from (k32_mkM _ _ _ (⟨4, 0, 0, 5⟩ : S32) )) (Reps.none _ _)))))); intro v163 w76 ho77 hb hg_ hnew_; clear hg_ hnew_; (first | rw [← Ny162.out] at ho77 | (simp only [Int.reduceToNat] at ho77; rw [← Ny162.out] at ho77)); have n0_ := Aside0.mk (Kd.R_below (by (with_reducible repeat (first | apply Kd.R_alloc | apply Kd.R_drewN | apply Kd.R_drew)); exact (Kd.R_mono (Kd.R_far (p := ⟨gb161, 2, none⟩) (Kd.R_far (p := ⟨gb161, 1, none⟩) (Kd.R_far (p := ⟨gb161, 0, none⟩) (Kd.R_types HO160.out BK161.out (by decide)) (fun _ hk => hk.2) (.string (⟨#[]⟩ : ByteArray))) (fun _ hk => hk.2) (.slice Ao73 y158.length co73)) (fun _ hk => hk.2) (.slice none 0 0)) (fun _ h_ => h_.1))) hb); have n1_ := Aside0.mk (Kd.R_lower ho77 (below_size (by repeat (first | (with_reducible first | exact HB.out | apply below_alloc | apply pw_below_drewN | apply below_drew1 | refine below_set ?_ GE161.out) | exact HB.out)))); have n2_ := Aside0.mk (blk_below (g := gb161) (o := .cells #[.string (⟨#[]⟩ : ByteArray), .slice Ao73 y158.length co73, .slice none 0 0] 25 (0, 0)) (by (with_reducible repeat (first | refine blk_drewN ?_ _ | refine blk_drew ?_ | refine blk_alloc ?_ _)); refine blk_put (cs := #[.string (⟨#[]⟩ : ByteArray), .slice Ao73 y158.length co73, .slice none 0 0]) ?_ 2 _ rfl; (with_reducible repeat (first | refine blk_drewN ?_ _ | refine blk_drew ?_ | refine blk_alloc ?_ _)); refine blk_put (cs := #[.string (⟨#[]⟩ : ByteArray), .slice none 0 0, .slice none 0 0]) ?_ 1 _ rfl; (with_reducible repeat (first | refine blk_drewN ?_ _ | refine blk_drew ?_ | refine blk_alloc ?_ _)); refine blk_put (cs := #[.string (⟨#[]⟩ : ByteArray), .slice none 0 0, .slice none 0 0]) ?_ 0 _ rfl; (with_reducible repeat (first | refine blk_drewN ?_ _ | refine blk_drew ?_ | refine blk_alloc ?_ _)); exact BK161.out) hb); have n3_ := Aside0.mk (below_step (by repeat (first | (with_reducible first | exact HB.out | apply below_alloc | apply pw_below_drewN | apply below_drew1 | refine below_set ?_ GE161.out) | exact HB.out)) hb); clear HO160; clear BK161; clear HB; have HO160 := n0_; have HO164 := n1_; have BK161 := n2_; have HB := n3_; clear n0_ n1_ n2_ n3_; clear hb ho77; obtain ⟨Ao78, co78, eo78⟩ := Kd.R_slice HO164.out; subst eo78) | ((with_reducible refine gate_callee (f := 8) rfl ?_); refine goesL_ (some 13) rfl rfl Tryd.func8 (by kernel_rfl) rfl #[.agg #[.string (⟨#[]⟩ : ByteArray), .slice Ao73 y158.length co73, .slice none 0 0], .slice Ao78 y162.length co78] rfl (by (try simp only [List.map_toArray, List.map_cons, List.map_nil]); first | done | rfl | (simp only [List.length_drop, List.length_take]; rfl)) ?_; (refine (orders_Of.calls k (⟨#[]⟩ : ByteArray) _ _ y158 _ _ ([] : List (S47)) _ _ y162 t165 _ ?side1 ?side2 ?side3 ?side4 ?side5 ?side6 A1.out).mono ?_); (case side1 => repeat (first | exact (Kd.R_reads' HO160.out).2.2 | (with_reducible refine Kd.C_alloc ?_ _) | (with_reducible refine Kd.C_drewN ?_ _) | (with_reducible refine Kd.C_drew ?_))); (case side2 => exact (Kd.R_reads' HO160.out).2.1); (case side3 => exact Kd.C_nil _ _); (case side4 => exact Nat.le_refl _); (case side5 => repeat (first | exact (Kd.R_reads' HO164.out).2.2 | (with_reducible refine Kd.C_alloc ?_ _) | (with_reducible refine Kd.C_drewN ?_ _) | (with_reducible refine Kd.C_drew ?_))); (case side6 => exact (Kd.R_reads' HO164.out).2.1); rintro e w79 ⟨v166, rfl, ho0, hb⟩; refine ⟨_, rfl, ?_⟩; have n0_ := Aside0.mk (Kd.R_below (by (with_reducible repeat (first | apply Kd.R_alloc | apply Kd.R_drewN | apply Kd.R_drew)); exact HO160.out) hb); have n1_ := Aside0.mk (Kd.R_below (by (with_reducible repeat (first | apply Kd.R_alloc | apply Kd.R_drewN | apply Kd.R_drew)); exact HO164.out) hb); have n2_ := Aside0.mk (Kd.R_lower ho0 (below_size (by repeat (first | (with_reducible first | exact HB.out | apply below_alloc | apply pw_below_drewN | apply below_drew1 | refine below_set ?_ GE161.out) | exact HB.out)))); have n3_ := Aside0.mk (blk_below (g := gb161) (o := .cells #[.string (⟨#[]⟩ : ByteArray), .slice Ao73 y158.length co73, .slice none 0 0] 25 (0, 0)) (by (with_reducible repeat (first | refine blk_drewN ?_ _ | refine blk_drew ?_ | refine blk_alloc ?_ _)); exact BK161.out) hb); have n4_ := Aside0.mk (below_step (by repeat (first | (with_reducible first | exact HB.out | apply below_alloc | apply pw_below_drewN | apply below_drew1 | refine below_set ?_ GE161.out) | exact HB.out)) hb); clear HO160; clear HO164; clear BK161; clear HB; have HO160 := n0_; have HO164 := n1_; have HO167 := n2_; have BK161 := n3_; have HB := n4_; clear n0_ n1_ n2_ n3_ n4_; (try clear hb); (try clear hb2); (try clear hk); (try clear hi); (try clear ho0); obtain ⟨Ao80, co80, eo80⟩ := Kd.R_slice HO167.out; subst eo80; have p168 : 0 ≤ (0 : Int) := (by omega); have q168 : 0 < (t165.length : Int) := of_decide_eq_true (by first | (with_reducible assumption) | assumption); obtain ⟨ad168, e168, hx168_0, hx168_1, hx168_2, hx168_3, hx168_4⟩ := at_T35 (Kd.R_reads' HO167.out).2.2 0 p168 q168; cases e168; have qi168 : (0 < t165.length) = True := eq_true (by omega); (try rw [show ((0 : Int)).toNat = 0 from rfl] at hx168_0); (try rw [show 0 * 5 = 0 from rfl] at hx168_0); (try rw [Addr.add_zero'] at hx168_0); (try rw [show ((0 : Int)).toNat = 0 from rfl] at hx168_1); (try rw [show 0 * 5 = 0 from rfl] at hx168_1); (try rw [Addr.add_zero'] at hx168_1); (try rw [show ((0 : Int)).toNat = 0 from rfl] at hx168_2); (try rw [show 0 * 5 = 0 from rfl] at hx168_2); (try rw [Addr.add_zero'] at hx168_2); (try rw [show ((0 : Int)).toNat = 0 from rfl] at hx168_3); (try rw [show 0 * 5 = 0 from rfl] at hx168_3); (try rw [Addr.add_zero'] at hx168_3); (try rw [show ((0 : Int)).toNat = 0 from rfl] at hx168_4); (try rw [show 0 * 5 = 0 from rfl] at hx168_4); (try rw [Addr.add_zero'] at hx168_4); replace p168 := eq_true p168; replace q168 := eq_true q168; have p169 : 0 ≤ (1 : Int) := (by omega); have q169 : 1 < (t165.length : Int) := of_decide_eq_true (by first | (with_reducible assumption) | assumption); obtain ⟨ad169, e169, hx169_0, hx169_1, hx169_2, hx169_3, hx169_4⟩ := at_T35 (Kd.R_reads' HO167.out).2.2 1 p169 q169; obtain rfl : ad168 = ad169 := (by injection e169); (try simp only [show (1 : Int).toNat = 1 from rfl, Nat.reduceMul, Nat.reduceEqDiff, Go.Addr.add, ↓reduceIte] at hx169_0); (try simp only [show (1 : Int).toNat = 1 from rfl, Nat.reduceMul, Nat.reduceEqDiff, Go.Addr.add, ↓reduceIte] at hx169_1); (try simp only [show (1 : Int).toNat = 1 from rfl, Nat.reduceMul, Nat.reduceEqDiff, Go.Addr.add, ↓reduceIte] at hx169_2); (try simp only [show (1 : Int).toNat = 1 from rfl, Nat.reduceMul, Nat.reduceEqDiff, Go.Addr.add, ↓reduceIte] at hx169_3); (try simp only [show (1 : Int).toNat = 1 from rfl, Nat.reduceMul, Nat.reduceEqDiff, Go.Addr.add, ↓reduceIte] at hx169_4); have qi169 : (1 < t165.length) = True := eq_true (by omega); (try rw [show ((1 : Int)).toNat = 1 from rfl] at hx169_0); (try rw [show 1 * 5 = 5 from rfl] at hx169_0); (try rw [show ((1 : Int)).toNat = 1 from rfl] at hx169_1); (try rw [show 1 * 5 = 5 from rfl] at hx169_1); (try rw [show ((1 : Int)).toNat = 1 from rfl] at hx169_2); (try rw [show 1 * 5 = 5 from rfl] at hx169_2); (try rw [show ((1 : Int)).toNat = 1 from rfl] at hx169_3); (try rw [show 1 * 5 = 5 from rfl] at hx169_3); (try rw [show ((1 : Int)).toNat = 1 from rfl] at hx169_4); (try rw [show 1 * 5 = 5 from rfl] at hx169_4); replace p169 := eq_true p169; replace q169 := eq_true q169))
            go_ret
            exact ⟨by first | rfl | (simp [errW_none, errW_some] <;> rfl) | (simp [*, errW_none, errW_some] <;> rfl), by repeat (first | (with_reducible first | exact HB.out | apply below_alloc | apply pw_below_drewN | apply below_drew1 | refine below_set ?_ GE161.out) | exact HB.out)⟩
        · rw [if_neg c5] at H
          exact absurd H (by simp)
      · rw [if_neg c4] at H
        have c4b0 : (((rd_T35 t165 0).f0) == 1 && (((rd_T35 t165 0).f1) == 5 && (((rd_T35 t165 0).f2) == 1 && (((rd_T35 t165 0).f3) == 3 && (((rd_T35 t165 0).f4) == 0))))) = false := by simpa using c4
        (try (have c4b1 : decide (((rd_T35 t165 0).f0) = 1 && (((rd_T35 t165 0).f1) == 5 && (((rd_T35 t165 0).f2) == 1 && (((rd_T35 t165 0).f3) == 3 && (((rd_T35 t165 0).f4) == 0))))) = false := by simpa using c4))
        (try (have c4b2 : (((rd_T35 t165 0).f0) == 1 && (((rd_T35 t165 0).f1) == 5 && (((rd_T35 t165 0).f2) == 1 && (((rd_T35 t165 0).f3) == 3 && (((rd_T35 t165 0).f4) == 0))))) = false := by simpa using c4))
        (try (have c4b3 : ¬ (((rd_T35 t165 0).f0) = 1 && (((rd_T35 t165 0).f1) == 5 && (((rd_T35 t165 0).f2) == 1 && (((rd_T35 t165 0).f3) == 3 && (((rd_T35 t165 0).f4) == 0))))) := by simpa using c4))
        clear c4
        obtain rfl := Option.some.inj H
        go_enter Tryd.func7, Tryd.ntmps7
        go_wp2_with (first | ((with_reducible refine gate_dst (N := 5) rfl ?_); (try (refine gate_guard (by rfl) ?_; dsimp only)); refine Kd.R_lit k45 _ 45 ?hg (N := 5) ?hd (xs := ([(⟨3, 0, 3, 0, (⟨#[]⟩ : ByteArray)⟩ : S45), (⟨8, 0, 0, 1, (⟨#[80, 84, 57, 83]⟩ : ByteArray)⟩ : S45)] : List (S45))) (inner := [.int .i64 3, .int .i64 0, .int .i64 3, .int .i64 0, .string (⟨#[]⟩ : ByteArray), .int .i64 8, .int .i64 0, .int .i64 0, .int .i64 1, .string (⟨#[80, 84, 57, 83]⟩ : ByteArray)]) (ok := fun _ => True) (okp := fun _ => True) ?hr ?hp (fun _ hk => hk) trivial (Below.refl _ _) (Nat.le_refl _) (by simp) ?_; (case hd => rfl); (case hg => rfl); (case hr => first | (go_simp; done) | (go_simp; rfl)); (case hp => exact (Reps.c5 (show Kd.M k45 _ _ _ (⟨3, 0, 3, 0, (⟨#[]⟩ : ByteArray)⟩ : S45) [.int .i64 3, .int .i64 0, .int .i64 3, .int .i64 0, .string (⟨#[]⟩ : ByteArray)] from (k45_mkM _ _ _ (⟨3, 0, 3, 0, (⟨#[]⟩ : ByteArray)⟩ : S45) )) (Reps.c5 (show Kd.M k45 _ _ _ (⟨8, 0, 0, 1, (⟨#[80, 84, 57, 83]⟩ : ByteArray)⟩ : S45) [.int .i64 8, .int .i64 0, .int .i64 0, .int .i64 1, .string (⟨#[80, 84, 57, 83]⟩ : ByteArray)] from (k45_mkM _ _ _ (⟨8, 0, 0, 1, (⟨#[80, 84, 57, 83]⟩ : ByteArray)⟩ : S45) )) (Reps.none _ _)))); intro v159 w81 ho82 hb hg_ hnew_; clear hg_ hnew_; (first | rw [← Ny158.out] at ho82 | (simp only [Int.reduceToNat] at ho82; rw [← Ny158.out] at ho82)); have n0_ := Aside0.mk (Kd.R_lower ho82 (below_size (by repeat (first | (with_reducible first | exact HB.out | apply below_alloc | apply pw_below_drewN | apply below_drew1) | exact HB.out)))); have n1_ := Aside0.mk (below_step (by repeat (first | (with_reducible first | exact HB.out | apply below_alloc | apply pw_below_drewN | apply below_drew1) | exact HB.out)) hb); clear HB; have HO160 := n0_; have HB := n1_; clear n0_ n1_; clear hb ho82; obtain ⟨Ao83, co83, eo83⟩ := Kd.R_slice HO160.out; subst eo83) | ((with_reducible refine gate_dst (N := 1) rfl ?_); (try (refine gate_guard (by rfl) ?_; dsimp only)); refine box_event ?hg (N := 1) ?hd (cs := #[.string (⟨#[]⟩ : ByteArray), .slice none 0 0, .slice none 0 0]) (t := 25) ?hr ?_; (case hd => rfl); (case hg => rfl); (case hr => first | (go_simp; done) | (go_simp; rfl)); intro gb161 hg w84 hbox hb; have n0_ := Aside0.mk (Kd.R_below (by (with_reducible repeat (first | apply Kd.R_alloc | apply Kd.R_drewN | apply Kd.R_drew)); exact HO160.out) hb); have n1_ := Aside0.mk (below_step (by repeat (first | (with_reducible first | exact HB.out | apply below_alloc | apply pw_below_drewN | apply below_drew1) | exact HB.out)) hb); have n2_ := Aside0.mk (hbox); have n3_ := Aside0.mk ((by rw [hg]; exact (below_size (by repeat (first | (with_reducible first | exact HB.out | apply below_alloc | apply pw_below_drewN | apply below_drew1) | exact HB.out))) : w.heap.size ≤ gb161)); have n4_ := Aside0.mk ((by rw [hg]; exact (below_size (by repeat (first | (with_reducible first | exact HB.out | apply below_alloc | apply pw_below_drewN | apply below_drew1) | exact HB.out))) : w.heap.size ≤ gb161)); clear HO160; clear HB; have HO160 := n0_; have HB := n1_; have BK161 := n2_; have GW161 := n3_; have GE161 := n4_; clear n0_ n1_ n2_ n3_ n4_; clear hb hbox hg; have hcz85_0 : w84.cell? ⟨gb161, 0, none⟩ = some (.string (⟨#[]⟩ : ByteArray)) := (blk_cell BK161.out 0).trans rfl; have hcz85_1 : w84.cell? ⟨gb161, 1, none⟩ = some (.slice none 0 0) := (blk_cell BK161.out 1).trans rfl; have hcz85_2 : w84.cell? ⟨gb161, 2, none⟩ = some (.slice none 0 0) := (blk_cell BK161.out 2).trans rfl; have hfz85_0 := blk_frozen BK161.out 0; have hfz85_1 := blk_frozen BK161.out 1; have hfz85_2 := blk_frozen BK161.out 2) | ((with_reducible refine gate_dst (N := 12) rfl ?_); (try (refine gate_guard (by rfl) ?_; dsimp only)); refine Kd.R_lit k32 _ 32 ?hg (N := 12) ?hd (xs := ([(⟨2, 0, 1, 5⟩ : S32), (⟨1, 0, 0, 0⟩ : S32), (⟨3, 0, 2, 5⟩ : S32), (⟨4, 0, 0, 5⟩ : S32)] : List (S32))) (inner := [.int .i64 2, .int .i64 0, .int .i64 1, .int .i64 5, .int .i64 1, .int .i64 0, .int .i64 0, .int .i64 0, .int .i64 3, .int .i64 0, .int .i64 2, .int .i64 5, .int .i64 4, .int .i64 0, .int .i64 0, .int .i64 5]) (ok := fun _ => True) (okp := fun _ => True) ?hr ?hp (fun _ hk => hk) trivial (Below.refl _ _) (Nat.le_refl _) (by simp) ?_; (case hd => rfl); (case hg => rfl); (case hr => first | (go_simp; done) | (go_simp; rfl)); (case hp => exact (Reps.c4 (show Kd.M k32 _ _ _ (⟨2, 0, 1, 5⟩ : S32) [.int .i64 2, .int .i64 0, .int .i64 1, .int .i64 5] from (k32_mkM _ _ _ (⟨2, 0, 1, 5⟩ : S32) )) (Reps.c4 (show Kd.M k32 _ _ _ (⟨1, 0, 0, 0⟩ : S32) [.int .i64 1, .int .i64 0, .int .i64 0, .int .i64 0] from (k32_mkM _ _ _ (⟨1, 0, 0, 0⟩ : S32) )) (Reps.c4 (show Kd.M k32 _ _ _ (⟨3, 0, 2, 5⟩ : S32) [.int .i64 3, .int .i64 0, .int .i64 2, .int .i64 5] from (k32_mkM _ _ _ (⟨3, 0, 2, 5⟩ : S32) )) (Reps.c4 (show Kd.M k32 _ _ _ (⟨4, 0, 0, 5⟩ : S32) [.int .i64 4, .int .i64 0, .int .i64 0, .int .i64 5] from (k32_mkM _ _ _ (⟨4, 0, 0, 5⟩ : S32) )) (Reps.none _ _)))))); intro v163 w86 ho87 hb hg_ hnew_; clear hg_ hnew_; (first | rw [← Ny162.out] at ho87 | (simp only [Int.reduceToNat] at ho87; rw [← Ny162.out] at ho87)); have n0_ := Aside0.mk (Kd.R_below (by (with_reducible repeat (first | apply Kd.R_alloc | apply Kd.R_drewN | apply Kd.R_drew)); exact (Kd.R_mono (Kd.R_far (p := ⟨gb161, 2, none⟩) (Kd.R_far (p := ⟨gb161, 1, none⟩) (Kd.R_far (p := ⟨gb161, 0, none⟩) (Kd.R_types HO160.out BK161.out (by decide)) (fun _ hk => hk.2) (.string (⟨#[]⟩ : ByteArray))) (fun _ hk => hk.2) (.slice Ao83 y158.length co83)) (fun _ hk => hk.2) (.slice none 0 0)) (fun _ h_ => h_.1))) hb); have n1_ := Aside0.mk (Kd.R_lower ho87 (below_size (by repeat (first | (with_reducible first | exact HB.out | apply below_alloc | apply pw_below_drewN | apply below_drew1 | refine below_set ?_ GE161.out) | exact HB.out)))); have n2_ := Aside0.mk (blk_below (g := gb161) (o := .cells #[.string (⟨#[]⟩ : ByteArray), .slice Ao83 y158.length co83, .slice none 0 0] 25 (0, 0)) (by (with_reducible repeat (first | refine blk_drewN ?_ _ | refine blk_drew ?_ | refine blk_alloc ?_ _)); refine blk_put (cs := #[.string (⟨#[]⟩ : ByteArray), .slice Ao83 y158.length co83, .slice none 0 0]) ?_ 2 _ rfl; (with_reducible repeat (first | refine blk_drewN ?_ _ | refine blk_drew ?_ | refine blk_alloc ?_ _)); refine blk_put (cs := #[.string (⟨#[]⟩ : ByteArray), .slice none 0 0, .slice none 0 0]) ?_ 1 _ rfl; (with_reducible repeat (first | refine blk_drewN ?_ _ | refine blk_drew ?_ | refine blk_alloc ?_ _)); refine blk_put (cs := #[.string (⟨#[]⟩ : ByteArray), .slice none 0 0, .slice none 0 0]) ?_ 0 _ rfl; (with_reducible repeat (first | refine blk_drewN ?_ _ | refine blk_drew ?_ | refine blk_alloc ?_ _)); exact BK161.out) hb); have n3_ := Aside0.mk (below_step (by repeat (first | (with_reducible first | exact HB.out | apply below_alloc | apply pw_below_drewN | apply below_drew1 | refine below_set ?_ GE161.out) | exact HB.out)) hb); clear HO160; clear BK161; clear HB; have HO160 := n0_; have HO164 := n1_; have BK161 := n2_; have HB := n3_; clear n0_ n1_ n2_ n3_; clear hb ho87; obtain ⟨Ao88, co88, eo88⟩ := Kd.R_slice HO164.out; subst eo88) | ((with_reducible refine gate_callee (f := 8) rfl ?_); refine goesL_ (some 13) rfl rfl Tryd.func8 (by kernel_rfl) rfl #[.agg #[.string (⟨#[]⟩ : ByteArray), .slice Ao83 y158.length co83, .slice none 0 0], .slice Ao88 y162.length co88] rfl (by (try simp only [List.map_toArray, List.map_cons, List.map_nil]); first | done | rfl | (simp only [List.length_drop, List.length_take]; rfl)) ?_; (refine (orders_Of.calls k (⟨#[]⟩ : ByteArray) _ _ y158 _ _ ([] : List (S47)) _ _ y162 t165 _ ?side1 ?side2 ?side3 ?side4 ?side5 ?side6 A1.out).mono ?_); (case side1 => repeat (first | exact (Kd.R_reads' HO160.out).2.2 | (with_reducible refine Kd.C_alloc ?_ _) | (with_reducible refine Kd.C_drewN ?_ _) | (with_reducible refine Kd.C_drew ?_))); (case side2 => exact (Kd.R_reads' HO160.out).2.1); (case side3 => exact Kd.C_nil _ _); (case side4 => exact Nat.le_refl _); (case side5 => repeat (first | exact (Kd.R_reads' HO164.out).2.2 | (with_reducible refine Kd.C_alloc ?_ _) | (with_reducible refine Kd.C_drewN ?_ _) | (with_reducible refine Kd.C_drew ?_))); (case side6 => exact (Kd.R_reads' HO164.out).2.1); rintro e w89 ⟨v166, rfl, ho0, hb⟩; refine ⟨_, rfl, ?_⟩; have n0_ := Aside0.mk (Kd.R_below (by (with_reducible repeat (first | apply Kd.R_alloc | apply Kd.R_drewN | apply Kd.R_drew)); exact HO160.out) hb); have n1_ := Aside0.mk (Kd.R_below (by (with_reducible repeat (first | apply Kd.R_alloc | apply Kd.R_drewN | apply Kd.R_drew)); exact HO164.out) hb); have n2_ := Aside0.mk (Kd.R_lower ho0 (below_size (by repeat (first | (with_reducible first | exact HB.out | apply below_alloc | apply pw_below_drewN | apply below_drew1 | refine below_set ?_ GE161.out) | exact HB.out)))); have n3_ := Aside0.mk (blk_below (g := gb161) (o := .cells #[.string (⟨#[]⟩ : ByteArray), .slice Ao83 y158.length co83, .slice none 0 0] 25 (0, 0)) (by (with_reducible repeat (first | refine blk_drewN ?_ _ | refine blk_drew ?_ | refine blk_alloc ?_ _)); exact BK161.out) hb); have n4_ := Aside0.mk (below_step (by repeat (first | (with_reducible first | exact HB.out | apply below_alloc | apply pw_below_drewN | apply below_drew1 | refine below_set ?_ GE161.out) | exact HB.out)) hb); clear HO160; clear HO164; clear BK161; clear HB; have HO160 := n0_; have HO164 := n1_; have HO167 := n2_; have BK161 := n3_; have HB := n4_; clear n0_ n1_ n2_ n3_ n4_; (try clear hb); (try clear hb2); (try clear hk); (try clear hi); (try clear ho0); obtain ⟨Ao90, co90, eo90⟩ := Kd.R_slice HO167.out; subst eo90; have p168 : 0 ≤ (0 : Int) := (by omega); have q168 : 0 < (t165.length : Int) := of_decide_eq_true (by first | (with_reducible assumption) | assumption); obtain ⟨ad168, e168, hx168_0, hx168_1, hx168_2, hx168_3, hx168_4⟩ := at_T35 (Kd.R_reads' HO167.out).2.2 0 p168 q168; cases e168; have qi168 : (0 < t165.length) = True := eq_true (by omega); (try rw [show ((0 : Int)).toNat = 0 from rfl] at hx168_0); (try rw [show 0 * 5 = 0 from rfl] at hx168_0); (try rw [Addr.add_zero'] at hx168_0); (try rw [show ((0 : Int)).toNat = 0 from rfl] at hx168_1); (try rw [show 0 * 5 = 0 from rfl] at hx168_1); (try rw [Addr.add_zero'] at hx168_1); (try rw [show ((0 : Int)).toNat = 0 from rfl] at hx168_2); (try rw [show 0 * 5 = 0 from rfl] at hx168_2); (try rw [Addr.add_zero'] at hx168_2); (try rw [show ((0 : Int)).toNat = 0 from rfl] at hx168_3); (try rw [show 0 * 5 = 0 from rfl] at hx168_3); (try rw [Addr.add_zero'] at hx168_3); (try rw [show ((0 : Int)).toNat = 0 from rfl] at hx168_4); (try rw [show 0 * 5 = 0 from rfl] at hx168_4); (try rw [Addr.add_zero'] at hx168_4); replace p168 := eq_true p168; replace q168 := eq_true q168))
        go_ret
        exact ⟨by first | rfl | (simp [errW_none, errW_some] <;> rfl) | (simp [*, errW_none, errW_some] <;> rfl), by repeat (first | (with_reducible first | exact HB.out | apply below_alloc | apply pw_below_drewN | apply below_drew1 | refine below_set ?_ GE161.out) | exact HB.out)⟩
    · rw [if_neg c3] at H
      exact absurd H (by simp)
  · rw [if_neg c2] at H
    have c2b0 : ((t165.length : Int) == 3) = false := beq_eq_false_iff_ne.mpr c2
    have c2b1 : ((t165.length : Int) != 3) = true := bne_iff_ne.mpr c2
    obtain rfl := Option.some.inj H
    go_enter Tryd.func7, Tryd.ntmps7
    go_wp2_with (first | ((with_reducible refine gate_dst (N := 5) rfl ?_); (try (refine gate_guard (by rfl) ?_; dsimp only)); refine Kd.R_lit k45 _ 45 ?hg (N := 5) ?hd (xs := ([(⟨3, 0, 3, 0, (⟨#[]⟩ : ByteArray)⟩ : S45), (⟨8, 0, 0, 1, (⟨#[80, 84, 57, 83]⟩ : ByteArray)⟩ : S45)] : List (S45))) (inner := [.int .i64 3, .int .i64 0, .int .i64 3, .int .i64 0, .string (⟨#[]⟩ : ByteArray), .int .i64 8, .int .i64 0, .int .i64 0, .int .i64 1, .string (⟨#[80, 84, 57, 83]⟩ : ByteArray)]) (ok := fun _ => True) (okp := fun _ => True) ?hr ?hp (fun _ hk => hk) trivial (Below.refl _ _) (Nat.le_refl _) (by simp) ?_; (case hd => rfl); (case hg => rfl); (case hr => first | (go_simp; done) | (go_simp; rfl)); (case hp => exact (Reps.c5 (show Kd.M k45 _ _ _ (⟨3, 0, 3, 0, (⟨#[]⟩ : ByteArray)⟩ : S45) [.int .i64 3, .int .i64 0, .int .i64 3, .int .i64 0, .string (⟨#[]⟩ : ByteArray)] from (k45_mkM _ _ _ (⟨3, 0, 3, 0, (⟨#[]⟩ : ByteArray)⟩ : S45) )) (Reps.c5 (show Kd.M k45 _ _ _ (⟨8, 0, 0, 1, (⟨#[80, 84, 57, 83]⟩ : ByteArray)⟩ : S45) [.int .i64 8, .int .i64 0, .int .i64 0, .int .i64 1, .string (⟨#[80, 84, 57, 83]⟩ : ByteArray)] from (k45_mkM _ _ _ (⟨8, 0, 0, 1, (⟨#[80, 84, 57, 83]⟩ : ByteArray)⟩ : S45) )) (Reps.none _ _)))); intro v159 w91 ho92 hb hg_ hnew_; clear hg_ hnew_; (first | rw [← Ny158.out] at ho92 | (simp only [Int.reduceToNat] at ho92; rw [← Ny158.out] at ho92)); have n0_ := Aside0.mk (Kd.R_lower ho92 (below_size (by repeat (first | (with_reducible first | exact HB.out | apply below_alloc | apply pw_below_drewN | apply below_drew1) | exact HB.out)))); have n1_ := Aside0.mk (below_step (by repeat (first | (with_reducible first | exact HB.out | apply below_alloc | apply pw_below_drewN | apply below_drew1) | exact HB.out)) hb); clear HB; have HO160 := n0_; have HB := n1_; clear n0_ n1_; clear hb ho92; obtain ⟨Ao93, co93, eo93⟩ := Kd.R_slice HO160.out; subst eo93) | ((with_reducible refine gate_dst (N := 1) rfl ?_); (try (refine gate_guard (by rfl) ?_; dsimp only)); refine box_event ?hg (N := 1) ?hd (cs := #[.string (⟨#[]⟩ : ByteArray), .slice none 0 0, .slice none 0 0]) (t := 25) ?hr ?_; (case hd => rfl); (case hg => rfl); (case hr => first | (go_simp; done) | (go_simp; rfl)); intro gb161 hg w94 hbox hb; have n0_ := Aside0.mk (Kd.R_below (by (with_reducible repeat (first | apply Kd.R_alloc | apply Kd.R_drewN | apply Kd.R_drew)); exact HO160.out) hb); have n1_ := Aside0.mk (below_step (by repeat (first | (with_reducible first | exact HB.out | apply below_alloc | apply pw_below_drewN | apply below_drew1) | exact HB.out)) hb); have n2_ := Aside0.mk (hbox); have n3_ := Aside0.mk ((by rw [hg]; exact (below_size (by repeat (first | (with_reducible first | exact HB.out | apply below_alloc | apply pw_below_drewN | apply below_drew1) | exact HB.out))) : w.heap.size ≤ gb161)); have n4_ := Aside0.mk ((by rw [hg]; exact (below_size (by repeat (first | (with_reducible first | exact HB.out | apply below_alloc | apply pw_below_drewN | apply below_drew1) | exact HB.out))) : w.heap.size ≤ gb161)); clear HO160; clear HB; have HO160 := n0_; have HB := n1_; have BK161 := n2_; have GW161 := n3_; have GE161 := n4_; clear n0_ n1_ n2_ n3_ n4_; clear hb hbox hg; have hcz95_0 : w94.cell? ⟨gb161, 0, none⟩ = some (.string (⟨#[]⟩ : ByteArray)) := (blk_cell BK161.out 0).trans rfl; have hcz95_1 : w94.cell? ⟨gb161, 1, none⟩ = some (.slice none 0 0) := (blk_cell BK161.out 1).trans rfl; have hcz95_2 : w94.cell? ⟨gb161, 2, none⟩ = some (.slice none 0 0) := (blk_cell BK161.out 2).trans rfl; have hfz95_0 := blk_frozen BK161.out 0; have hfz95_1 := blk_frozen BK161.out 1; have hfz95_2 := blk_frozen BK161.out 2) | ((with_reducible refine gate_dst (N := 12) rfl ?_); (try (refine gate_guard (by rfl) ?_; dsimp only)); refine Kd.R_lit k32 _ 32 ?hg (N := 12) ?hd (xs := ([(⟨2, 0, 1, 5⟩ : S32), (⟨1, 0, 0, 0⟩ : S32), (⟨3, 0, 2, 5⟩ : S32), (⟨4, 0, 0, 5⟩ : S32)] : List (S32))) (inner := [.int .i64 2, .int .i64 0, .int .i64 1, .int .i64 5, .int .i64 1, .int .i64 0, .int .i64 0, .int .i64 0, .int .i64 3, .int .i64 0, .int .i64 2, .int .i64 5, .int .i64 4, .int .i64 0, .int .i64 0, .int .i64 5]) (ok := fun _ => True) (okp := fun _ => True) ?hr ?hp (fun _ hk => hk) trivial (Below.refl _ _) (Nat.le_refl _) (by simp) ?_; (case hd => rfl); (case hg => rfl); (case hr => first | (go_simp; done) | (go_simp; rfl)); (case hp => exact (Reps.c4 (show Kd.M k32 _ _ _ (⟨2, 0, 1, 5⟩ : S32) [.int .i64 2, .int .i64 0, .int .i64 1, .int .i64 5] from (k32_mkM _ _ _ (⟨2, 0, 1, 5⟩ : S32) )) (Reps.c4 (show Kd.M k32 _ _ _ (⟨1, 0, 0, 0⟩ : S32) [.int .i64 1, .int .i64 0, .int .i64 0, .int .i64 0] from (k32_mkM _ _ _ (⟨1, 0, 0, 0⟩ : S32) )) (Reps.c4 (show Kd.M k32 _ _ _ (⟨3, 0, 2, 5⟩ : S32) [.int .i64 3, .int .i64 0, .int .i64 2, .int .i64 5] from (k32_mkM _ _ _ (⟨3, 0, 2, 5⟩ : S32) )) (Reps.c4 (show Kd.M k32 _ _ _ (⟨4, 0, 0, 5⟩ : S32) [.int .i64 4, .int .i64 0, .int .i64 0, .int .i64 5] from (k32_mkM _ _ _ (⟨4, 0, 0, 5⟩ : S32) )) (Reps.none _ _)))))); intro v163 w96 ho97 hb hg_ hnew_; clear hg_ hnew_; (first | rw [← Ny162.out] at ho97 | (simp only [Int.reduceToNat] at ho97; rw [← Ny162.out] at ho97)); have n0_ := Aside0.mk (Kd.R_below (by (with_reducible repeat (first | apply Kd.R_alloc | apply Kd.R_drewN | apply Kd.R_drew)); exact (Kd.R_mono (Kd.R_far (p := ⟨gb161, 2, none⟩) (Kd.R_far (p := ⟨gb161, 1, none⟩) (Kd.R_far (p := ⟨gb161, 0, none⟩) (Kd.R_types HO160.out BK161.out (by decide)) (fun _ hk => hk.2) (.string (⟨#[]⟩ : ByteArray))) (fun _ hk => hk.2) (.slice Ao93 y158.length co93)) (fun _ hk => hk.2) (.slice none 0 0)) (fun _ h_ => h_.1))) hb); have n1_ := Aside0.mk (Kd.R_lower ho97 (below_size (by repeat (first | (with_reducible first | exact HB.out | apply below_alloc | apply pw_below_drewN | apply below_drew1 | refine below_set ?_ GE161.out) | exact HB.out)))); have n2_ := Aside0.mk (blk_below (g := gb161) (o := .cells #[.string (⟨#[]⟩ : ByteArray), .slice Ao93 y158.length co93, .slice none 0 0] 25 (0, 0)) (by (with_reducible repeat (first | refine blk_drewN ?_ _ | refine blk_drew ?_ | refine blk_alloc ?_ _)); refine blk_put (cs := #[.string (⟨#[]⟩ : ByteArray), .slice Ao93 y158.length co93, .slice none 0 0]) ?_ 2 _ rfl; (with_reducible repeat (first | refine blk_drewN ?_ _ | refine blk_drew ?_ | refine blk_alloc ?_ _)); refine blk_put (cs := #[.string (⟨#[]⟩ : ByteArray), .slice none 0 0, .slice none 0 0]) ?_ 1 _ rfl; (with_reducible repeat (first | refine blk_drewN ?_ _ | refine blk_drew ?_ | refine blk_alloc ?_ _)); refine blk_put (cs := #[.string (⟨#[]⟩ : ByteArray), .slice none 0 0, .slice none 0 0]) ?_ 0 _ rfl; (with_reducible repeat (first | refine blk_drewN ?_ _ | refine blk_drew ?_ | refine blk_alloc ?_ _)); exact BK161.out) hb); have n3_ := Aside0.mk (below_step (by repeat (first | (with_reducible first | exact HB.out | apply below_alloc | apply pw_below_drewN | apply below_drew1 | refine below_set ?_ GE161.out) | exact HB.out)) hb); clear HO160; clear BK161; clear HB; have HO160 := n0_; have HO164 := n1_; have BK161 := n2_; have HB := n3_; clear n0_ n1_ n2_ n3_; clear hb ho97; obtain ⟨Ao98, co98, eo98⟩ := Kd.R_slice HO164.out; subst eo98) | ((with_reducible refine gate_callee (f := 8) rfl ?_); refine goesL_ (some 13) rfl rfl Tryd.func8 (by kernel_rfl) rfl #[.agg #[.string (⟨#[]⟩ : ByteArray), .slice Ao93 y158.length co93, .slice none 0 0], .slice Ao98 y162.length co98] rfl (by (try simp only [List.map_toArray, List.map_cons, List.map_nil]); first | done | rfl | (simp only [List.length_drop, List.length_take]; rfl)) ?_; (refine (orders_Of.calls k (⟨#[]⟩ : ByteArray) _ _ y158 _ _ ([] : List (S47)) _ _ y162 t165 _ ?side1 ?side2 ?side3 ?side4 ?side5 ?side6 A1.out).mono ?_); (case side1 => repeat (first | exact (Kd.R_reads' HO160.out).2.2 | (with_reducible refine Kd.C_alloc ?_ _) | (with_reducible refine Kd.C_drewN ?_ _) | (with_reducible refine Kd.C_drew ?_))); (case side2 => exact (Kd.R_reads' HO160.out).2.1); (case side3 => exact Kd.C_nil _ _); (case side4 => exact Nat.le_refl _); (case side5 => repeat (first | exact (Kd.R_reads' HO164.out).2.2 | (with_reducible refine Kd.C_alloc ?_ _) | (with_reducible refine Kd.C_drewN ?_ _) | (with_reducible refine Kd.C_drew ?_))); (case side6 => exact (Kd.R_reads' HO164.out).2.1); rintro e w99 ⟨v166, rfl, ho0, hb⟩; refine ⟨_, rfl, ?_⟩; have n0_ := Aside0.mk (Kd.R_below (by (with_reducible repeat (first | apply Kd.R_alloc | apply Kd.R_drewN | apply Kd.R_drew)); exact HO160.out) hb); have n1_ := Aside0.mk (Kd.R_below (by (with_reducible repeat (first | apply Kd.R_alloc | apply Kd.R_drewN | apply Kd.R_drew)); exact HO164.out) hb); have n2_ := Aside0.mk (Kd.R_lower ho0 (below_size (by repeat (first | (with_reducible first | exact HB.out | apply below_alloc | apply pw_below_drewN | apply below_drew1 | refine below_set ?_ GE161.out) | exact HB.out)))); have n3_ := Aside0.mk (blk_below (g := gb161) (o := .cells #[.string (⟨#[]⟩ : ByteArray), .slice Ao93 y158.length co93, .slice none 0 0] 25 (0, 0)) (by (with_reducible repeat (first | refine blk_drewN ?_ _ | refine blk_drew ?_ | refine blk_alloc ?_ _)); exact BK161.out) hb); have n4_ := Aside0.mk (below_step (by repeat (first | (with_reducible first | exact HB.out | apply below_alloc | apply pw_below_drewN | apply below_drew1 | refine below_set ?_ GE161.out) | exact HB.out)) hb); clear HO160; clear HO164; clear BK161; clear HB; have HO160 := n0_; have HO164 := n1_; have HO167 := n2_; have BK161 := n3_; have HB := n4_; clear n0_ n1_ n2_ n3_ n4_; (try clear hb); (try clear hb2); (try clear hk); (try clear hi); (try clear ho0); obtain ⟨Ao100, co100, eo100⟩ := Kd.R_slice HO167.out; subst eo100))
    go_ret
    exact ⟨by first | rfl | (simp [errW_none, errW_some] <;> rfl) | (simp [*, errW_none, errW_some] <;> rfl), by repeat (first | (with_reducible first | exact HB.out | apply below_alloc | apply pw_below_drewN | apply below_drew1 | refine below_set ?_ GE161.out) | exact HB.out)⟩

/-! ### remontoirkeep_Orders: function 9 -/
def remontoirkeep_Orders.l0 : Nat → List (S35) → List (S35) → Int → Option (Bool)
  | 0, _, _, _ => none
  | k + 1, x0, x1, x5 => if x5 < (x0.length : Int) then (if 0 ≤ x5 then (if x5 < (x1.length : Int) then (if (!(((rd_T35 x0 x5).f0) == ((rd_T35 x1 x5).f0)) || (!(((rd_T35 x0 x5).f1) == ((rd_T35 x1 x5).f1)) || (!(((rd_T35 x0 x5).f2) == ((rd_T35 x1 x5).f2)) || (!(((rd_T35 x0 x5).f3) == ((rd_T35 x1 x5).f3)) || (!(((rd_T35 x0 x5).f4) == ((rd_T35 x1 x5).f4))))))) = true then (some false) else (remontoirkeep_Orders.l0 k x0 x1 (wrap64 (x5 + 1)))) else (none)) else (none)) else (some true)
def remontoirkeep_Orders.f (k : Nat) (l0 : List (S35)) (l1 : List (S35)) : Option (Bool) := if (l0.length : Int) = (l1.length : Int) then (remontoirkeep_Orders.l0 k l0 l1 0) else (some false)
theorem remontoirkeep_Orders.mono_l : ∀ k, (∀ y0 y1 y2, LeO (remontoirkeep_Orders.l0 k y0 y1 y2) (remontoirkeep_Orders.l0 (k + 1) y0 y1 y2))
  | 0 => fun _ _ _ r h => by simp [remontoirkeep_Orders.l0] at h
  | k + 1 => by
    have ih0 := remontoirkeep_Orders.mono_l k
    · intro y0 y1 y2
      unfold remontoirkeep_Orders.l0
      repeat' first
      | (with_reducible exact ih0 _ _ _)
      | (with_reducible exact LeO.refl _)
      | (with_reducible exact LeO.none _)
      | (with_reducible refine LeO.ite ?_ ?_)
      | (with_reducible refine LeO.bind ?_ (fun _ => ?_))
      | exact ih0 _ _ _
      | exact LeO.none _
      | refine LeO.ite ?_ ?_
      | refine LeO.bind ?_ (fun _ => ?_)
theorem remontoirkeep_Orders.mono : ∀ a0 a1 k, LeO (remontoirkeep_Orders.f k a0 a1) (remontoirkeep_Orders.f (k + 1) a0 a1) := by
  intro a0 a1 k
  have ih0 := remontoirkeep_Orders.mono_l k
  unfold remontoirkeep_Orders.f
  repeat' first
      | (with_reducible exact ih0 _ _ _)
      | (with_reducible exact LeO.refl _)
      | (with_reducible exact LeO.none _)
      | (with_reducible refine LeO.ite ?_ ?_)
      | (with_reducible refine LeO.bind ?_ (fun _ => ?_))
      | exact ih0 _ _ _
      | exact LeO.none _
      | refine LeO.ite ?_ ?_
      | refine LeO.bind ?_ (fun _ => ?_)
set_option maxHeartbeats 8000000 in
set_option maxRecDepth 100000 in
theorem remontoirkeep_Orders.calls (k : Nat) (A0 : Option Addr) (c0 : Nat) (l0 : List (S35)) (A1 : Option Addr) (c1 : Nat) (l1 : List (S35)) (r : Bool) (w : World) (hr0 : Kd.C k35 w A0 l0.length l0) (hc0 : l0.length ≤ c0) (hr1 : Kd.C k35 w A1 l1.length l1) (hc1 : l1.length ≤ c1) (h : remontoirkeep_Orders.f k l0 l1 = some r) :
    Calls Tryd.prog 9 #[.slice A0 l0.length c0, .slice A1 l1.length c1] w fun e w' => e = .returned (.bool r) ∧ Drawn0 w w' := by
  have hu35 := Tryd.underlying35
  have HR0 := Aside0.mk hr0
  have HC0 := Aside0.mk hc0
  clear hr0 hc0
  have HR1 := Aside0.mk hr1
  have HC1 := Aside0.mk hc1
  clear hr1 hc1
  have H : (if (l0.length : Int) = (l1.length : Int) then (remontoirkeep_Orders.l0 k l0 l1 0) else (some false)) = some r := h
  clear h
  by_cases c3 : (l0.length : Int) = (l1.length : Int)
  · rw [if_pos c3] at H
    have c3b0 : ((l0.length : Int) == (l1.length : Int)) = true := beq_iff_eq.mpr c3
    have c3b1 : ((l0.length : Int) != (l1.length : Int)) = false := bne_eq_false_iff_eq.mpr c3
    have c3b2 : (l0.length == l1.length) = true := by first | simpa using c3 | (simp at c3 ⊢; omega)
    clear c3
    have H' := Aside0.mk H
    clear H
    go_enter Tryd.func9, Tryd.ntmps9
    go_wp2
    repeat (go_quiet (fail); try go_wp2)
    go_loopg [5] k (fun kq v5 w' => ∃ (x5_1 : Int), v5 = .int .i64 x5_1 ∧ Aside0 (remontoirkeep_Orders.l0 kq l0 l1 x5_1 = some r) ∧ Aside0 (kq ≤ k) ∧ Drawn0 w w')
    case atStart => exact ⟨(0), (by first | rfl | (simp; done) | (simp [*]; done)), H', ⟨Nat.le_refl _⟩, by repeat (first | exact Drawn0.refl _ | apply Drawn0.step)⟩
    case round =>
      clear H'
      try clear c1
      try clear p2
      try clear c3
      try clear c3b0
      try clear c3b1
      try clear c3b2
      obtain ⟨x5_1, rfl, HA, HK1, ⟨m1, rfl⟩⟩ := hrel
      cases gk with
      | zero => exact absurd HA.out (by simp [remontoirkeep_Orders.l0])
      | succ k1 =>
        have H := HA.out
        clear HA
        simp only [remontoirkeep_Orders.l0] at H
        by_cases c4 : x5_1 < (l0.length : Int)
        · rw [if_pos c4] at H
          have c4b0 : decide (x5_1 < (l0.length : Int)) = true := decide_eq_true c4
          clear c4
          by_cases c5 : 0 ≤ x5_1
          · rw [if_pos c5] at H
            have c5b0 : decide (0 ≤ x5_1) = true := decide_eq_true c5
            clear c5
            by_cases c6 : x5_1 < (l1.length : Int)
            · rw [if_pos c6] at H
              have c6b0 : decide (x5_1 < (l1.length : Int)) = true := decide_eq_true c6
              clear c6
              by_cases c7 : (!(((rd_T35 l0 x5_1).f0) == ((rd_T35 l1 x5_1).f0)) || (!(((rd_T35 l0 x5_1).f1) == ((rd_T35 l1 x5_1).f1)) || (!(((rd_T35 l0 x5_1).f2) == ((rd_T35 l1 x5_1).f2)) || (!(((rd_T35 l0 x5_1).f3) == ((rd_T35 l1 x5_1).f3)) || (!(((rd_T35 l0 x5_1).f4) == ((rd_T35 l1 x5_1).f4))))))) = true
              · rw [if_pos c7] at H
                have c7b0 : (!(((rd_T35 l0 x5_1).f0) == ((rd_T35 l1 x5_1).f0)) || (!(((rd_T35 l0 x5_1).f1) == ((rd_T35 l1 x5_1).f1)) || (!(((rd_T35 l0 x5_1).f2) == ((rd_T35 l1 x5_1).f2)) || (!(((rd_T35 l0 x5_1).f3) == ((rd_T35 l1 x5_1).f3)) || (!(((rd_T35 l0 x5_1).f4) == ((rd_T35 l1 x5_1).f4))))))) = true := c7
                clear c7
                obtain rfl := Option.some.inj H
                have p188 : 0 ≤ (x5_1 : Int) := of_decide_eq_true (by first | (with_reducible assumption) | assumption)
                have q188 : x5_1 < (l0.length : Int) := of_decide_eq_true (by first | (with_reducible assumption) | assumption)
                obtain ⟨ad188, e188, hx188_0, hx188_1, hx188_2, hx188_3, hx188_4⟩ := at_T35 HR0.out x5_1 p188 q188
                cases e188
                replace p188 := eq_true p188
                replace q188 := eq_true q188
                have p189 : 0 ≤ (x5_1 : Int) := of_decide_eq_true (by first | (with_reducible assumption) | assumption)
                have q189 : x5_1 < (l1.length : Int) := of_decide_eq_true (by first | (with_reducible assumption) | assumption)
                obtain ⟨ad189, e189, hx189_0, hx189_1, hx189_2, hx189_3, hx189_4⟩ := at_T35 HR1.out x5_1 p189 q189
                cases e189
                replace p189 := eq_true p189
                replace q189 := eq_true q189
                go_wp2
                repeat (go_quiet (fail); try go_wp2)
                go_ret
                exact ⟨by first | rfl | (simp; done) | (simp [*]; done), by repeat (first | exact Drawn0.refl _ | apply Drawn0.step)⟩
              · rw [if_neg c7] at H
                have c7b0 : (!(((rd_T35 l0 x5_1).f0) == ((rd_T35 l1 x5_1).f0)) || (!(((rd_T35 l0 x5_1).f1) == ((rd_T35 l1 x5_1).f1)) || (!(((rd_T35 l0 x5_1).f2) == ((rd_T35 l1 x5_1).f2)) || (!(((rd_T35 l0 x5_1).f3) == ((rd_T35 l1 x5_1).f3)) || (!(((rd_T35 l0 x5_1).f4) == ((rd_T35 l1 x5_1).f4))))))) = false := by simpa using c7
                clear c7
                have H' := Aside0.mk H
                clear H
                have p188 : 0 ≤ (x5_1 : Int) := of_decide_eq_true (by first | (with_reducible assumption) | assumption)
                have q188 : x5_1 < (l0.length : Int) := of_decide_eq_true (by first | (with_reducible assumption) | assumption)
                obtain ⟨ad188, e188, hx188_0, hx188_1, hx188_2, hx188_3, hx188_4⟩ := at_T35 HR0.out x5_1 p188 q188
                cases e188
                replace p188 := eq_true p188
                replace q188 := eq_true q188
                have p189 : 0 ≤ (x5_1 : Int) := of_decide_eq_true (by first | (with_reducible assumption) | assumption)
                have q189 : x5_1 < (l1.length : Int) := of_decide_eq_true (by first | (with_reducible assumption) | assumption)
                obtain ⟨ad189, e189, hx189_0, hx189_1, hx189_2, hx189_3, hx189_4⟩ := at_T35 HR1.out x5_1 p189 q189
                cases e189
                replace p189 := eq_true p189
                replace q189 := eq_true q189
                go_wp2
                repeat (go_quiet (fail); try go_wp2)
                go_roundg k1
                case measure => have := HK1.out; omega
                case rel => exact ⟨(wrap64 (x5_1 + 1)), (by first | rfl | (simp; done) | (simp [*]; done)), H', ⟨by have := HK1.out; omega⟩, by repeat (first | exact Drawn0.refl _ | apply Drawn0.step)⟩
            · rw [if_neg c6] at H
              exact absurd H (by simp)
          · rw [if_neg c5] at H
            exact absurd H (by simp)
        · rw [if_neg c4] at H
          have c4b0 : decide (x5_1 < (l0.length : Int)) = false := decide_eq_false c4
          clear c4
          obtain rfl := Option.some.inj H
          go_wp2
          repeat (go_quiet (fail); try go_wp2)
          go_ret
          exact ⟨by first | rfl | (simp; done) | (simp [*]; done), by repeat (first | exact Drawn0.refl _ | apply Drawn0.step)⟩
  · rw [if_neg c3] at H
    have c3b0 : ((l0.length : Int) == (l1.length : Int)) = false := beq_eq_false_iff_ne.mpr c3
    have c3b1 : ((l0.length : Int) != (l1.length : Int)) = true := bne_iff_ne.mpr c3
    have c3b2 : (l0.length == l1.length) = false := by first | simpa using c3 | (simp at c3 ⊢; omega)
    obtain rfl := Option.some.inj H
    go_enter Tryd.func9, Tryd.ntmps9
    go_wp2
    repeat (go_quiet (fail); try go_wp2)
    go_ret
    exact ⟨by first | rfl | (simp; done) | (simp [*]; done), by repeat (first | exact Drawn0.refl _ | apply Drawn0.step)⟩

end Go.Proofs.YtdfkbiffdcfnpaaDoor.H
-- Written by hp.py (a program of this session, over the kit's print.py), with hand-made contracts beside it.
namespace Go.Proofs.YtdfkbiffdcfnpaaDoor.H
open Go.RowKit Go.Proofs.YtdfkbiffdcfnpaaDoorW.PrintWords Go.Proofs.YtdfkbiffdcfnpaaDoorW.PrintLast Go.Proofs.YtdfkbiffdcfnpaaDoorW.PrintMore
attribute [local go_sem] max2_int min2_int max_two min_two max_three min_three max_four min_four   -- for this text's walks alone
set_option linter.unusedVariables false
set_option linter.unusedSimpArgs false

/-! ### remontoirkeep_LightDef: function 6 -/
mutual
def remontoirkeep_LightDef.j0 : Nat → Bool → ByteArray → List (S45) → List (S47) → Option (Bool)
  | 0, _, _, _, _ => none
  | k + 1, x20, x248000, x248001, x248002 => if x20 = true then (some false) else (remontoirkeep_LightDef.l0 k 0 x248000 x248001 x248002)
def remontoirkeep_LightDef.l0 : Nat → Int → ByteArray → List (S45) → List (S47) → Option (Bool)
  | 0, _, _, _, _ => none
  | k + 1, x3, x248000, x248001, x248002 => if x3 < (x248001.length : Int) then (if 0 ≤ x3 then (if (((rd_T45 x248001 x3).f4).size : Int) > 80 then (some false) else (remontoirkeep_LightDef.l0 k (wrap64 (x3 + 1)) x248000 x248001 x248002)) else (none)) else (remontoirkeep_LightDef.l1 k 0 x248000 x248001 x248002)
def remontoirkeep_LightDef.l1 : Nat → Int → ByteArray → List (S45) → List (S47) → Option (Bool)
  | 0, _, _, _, _ => none
  | k + 1, x4, x248000, x248001, x248002 => if x4 < (x248002.length : Int) then (if 0 ≤ x4 then (if (((rd_T47 x248002 x4).f4).size : Int) > 80 then (some false) else (remontoirkeep_LightDef.l1 k (wrap64 (x4 + 1)) x248000 x248001 x248002)) else (none)) else (some true)
end
def remontoirkeep_LightDef.f (k : Nat) (a0_0 : ByteArray) (l0_1 : List (S45)) (l0_2 : List (S47)) : Option (Bool) := if (l0_1.length : Int) > 70 then (remontoirkeep_LightDef.j0 k true a0_0 l0_1 l0_2) else (if (l0_2.length : Int) > 110 then (remontoirkeep_LightDef.j0 k true a0_0 l0_1 l0_2) else (remontoirkeep_LightDef.j0 k (decide ((a0_0.size : Int) > 60)) a0_0 l0_1 l0_2))
theorem remontoirkeep_LightDef.mono_l : ∀ k, (∀ y0 y1 y2 y3, LeO (remontoirkeep_LightDef.j0 k y0 y1 y2 y3) (remontoirkeep_LightDef.j0 (k + 1) y0 y1 y2 y3)) ∧ (∀ y0 y1 y2 y3, LeO (remontoirkeep_LightDef.l0 k y0 y1 y2 y3) (remontoirkeep_LightDef.l0 (k + 1) y0 y1 y2 y3)) ∧ (∀ y0 y1 y2 y3, LeO (remontoirkeep_LightDef.l1 k y0 y1 y2 y3) (remontoirkeep_LightDef.l1 (k + 1) y0 y1 y2 y3))
  | 0 => ⟨fun _ _ _ _ r h => by simp [remontoirkeep_LightDef.j0] at h, fun _ _ _ _ r h => by simp [remontoirkeep_LightDef.l0] at h, fun _ _ _ _ r h => by simp [remontoirkeep_LightDef.l1] at h⟩
  | k + 1 => by
    obtain ⟨ih0, ih1, ih2⟩ := remontoirkeep_LightDef.mono_l k
    refine ⟨?_, ?_, ?_⟩
    · intro y0 y1 y2 y3
      unfold remontoirkeep_LightDef.j0
      repeat' first
      | (with_reducible exact ih0 _ _ _ _)
      | (with_reducible exact ih1 _ _ _ _)
      | (with_reducible exact ih2 _ _ _ _)
      | (with_reducible exact LeO.refl _)
      | (with_reducible exact LeO.none _)
      | (with_reducible refine LeO.ite ?_ ?_)
      | (with_reducible refine LeO.bind ?_ (fun _ => ?_))
      | exact ih0 _ _ _ _
      | exact ih1 _ _ _ _
      | exact ih2 _ _ _ _
      | exact LeO.none _
      | refine LeO.ite ?_ ?_
      | refine LeO.bind ?_ (fun _ => ?_)
    · intro y0 y1 y2 y3
      unfold remontoirkeep_LightDef.l0
      repeat' first
      | (with_reducible exact ih0 _ _ _ _)
      | (with_reducible exact ih1 _ _ _ _)
      | (with_reducible exact ih2 _ _ _ _)
      | (with_reducible exact LeO.refl _)
      | (with_reducible exact LeO.none _)
      | (with_reducible refine LeO.ite ?_ ?_)
      | (with_reducible refine LeO.bind ?_ (fun _ => ?_))
      | exact ih0 _ _ _ _
      | exact ih1 _ _ _ _
      | exact ih2 _ _ _ _
      | exact LeO.none _
      | refine LeO.ite ?_ ?_
      | refine LeO.bind ?_ (fun _ => ?_)
    · intro y0 y1 y2 y3
      unfold remontoirkeep_LightDef.l1
      repeat' first
      | (with_reducible exact ih0 _ _ _ _)
      | (with_reducible exact ih1 _ _ _ _)
      | (with_reducible exact ih2 _ _ _ _)
      | (with_reducible exact LeO.refl _)
      | (with_reducible exact LeO.none _)
      | (with_reducible refine LeO.ite ?_ ?_)
      | (with_reducible refine LeO.bind ?_ (fun _ => ?_))
      | exact ih0 _ _ _ _
      | exact ih1 _ _ _ _
      | exact ih2 _ _ _ _
      | exact LeO.none _
      | refine LeO.ite ?_ ?_
      | refine LeO.bind ?_ (fun _ => ?_)
theorem remontoirkeep_LightDef.mono : ∀ a0 a1 a2 k, LeO (remontoirkeep_LightDef.f k a0 a1 a2) (remontoirkeep_LightDef.f (k + 1) a0 a1 a2) := by
  intro a0 a1 a2 k
  obtain ⟨ih0, ih1, ih2⟩ := remontoirkeep_LightDef.mono_l k
  unfold remontoirkeep_LightDef.f
  repeat' first
      | (with_reducible exact ih0 _ _ _ _)
      | (with_reducible exact ih1 _ _ _ _)
      | (with_reducible exact ih2 _ _ _ _)
      | (with_reducible exact LeO.refl _)
      | (with_reducible exact LeO.none _)
      | (with_reducible refine LeO.ite ?_ ?_)
      | (with_reducible refine LeO.bind ?_ (fun _ => ?_))
      | exact ih0 _ _ _ _
      | exact ih1 _ _ _ _
      | exact ih2 _ _ _ _
      | exact LeO.none _
      | refine LeO.ite ?_ ?_
      | refine LeO.bind ?_ (fun _ => ?_)
set_option maxHeartbeats 8000000 in
set_option maxRecDepth 100000 in
theorem remontoirkeep_LightDef.calls (k : Nat) (a0_0 : ByteArray) (A0_1 : Option Addr) (c0_1 : Nat) (l0_1 : List (S45)) (A0_2 : Option Addr) (c0_2 : Nat) (l0_2 : List (S47)) (r : Bool) (w : World) (hr0_1 : Kd.C k45 w A0_1 l0_1.length l0_1) (hc0_1 : l0_1.length ≤ c0_1) (hr0_2 : Kd.C k47 w A0_2 l0_2.length l0_2) (hc0_2 : l0_2.length ≤ c0_2) (h : remontoirkeep_LightDef.f k a0_0 l0_1 l0_2 = some r) :
    Calls Tryd.prog 6 #[.agg #[.string a0_0, .slice A0_1 l0_1.length c0_1, .slice A0_2 l0_2.length c0_2]] w fun e w' => e = .returned (.bool r) ∧ Below w.heap.size w w' := by
  have hu25 := Tryd.underlying25
  have HR0_1 := Aside0.mk hr0_1
  have HC0_1 := Aside0.mk hc0_1
  clear hr0_1 hc0_1
  have HR0_2 := Aside0.mk hr0_2
  have HC0_2 := Aside0.mk hc0_2
  clear hr0_2 hc0_2
  have HB := Aside0.mk (Below.refl w.heap.size w)
  have H : (if (l0_1.length : Int) > 70 then (remontoirkeep_LightDef.j0 k true a0_0 l0_1 l0_2) else (if (l0_2.length : Int) > 110 then (remontoirkeep_LightDef.j0 k true a0_0 l0_1 l0_2) else (remontoirkeep_LightDef.j0 k (decide ((a0_0.size : Int) > 60)) a0_0 l0_1 l0_2))) = some r := h
  clear h
  have HC2 := Aside0.mk H
  clear H
  go_enter Tryd.func6, Tryd.ntmps6
  go_upto_region 1 with (first | ((with_reducible refine gate_dst (N := 1) rfl ?_); (try (refine gate_guard (by rfl) ?_; dsimp only)); refine box_event ?hg (N := 1) ?hd (cs := #[.string a0_0, .slice A0_1 l0_1.length c0_1, .slice A0_2 l0_2.length c0_2]) (t := 25) ?hr ?_; (case hd => rfl); (case hg => rfl); (case hr => first | (go_simp; done) | (go_simp; rfl)); intro gb247 hg w3 hbox hb; have n0_ := Aside0.mk (below_step (by repeat (first | (with_reducible first | exact HB.out | apply below_alloc | apply pw_below_drewN | apply below_drew1) | exact HB.out)) hb); have n1_ := Aside0.mk (hbox); have n2_ := Aside0.mk ((by rw [hg]; exact (below_size (by repeat (first | (with_reducible first | exact HB.out | apply below_alloc | apply pw_below_drewN | apply below_drew1) | exact HB.out))) : w.heap.size ≤ gb247)); have n3_ := Aside0.mk ((by rw [hg]; exact (below_size (by repeat (first | (with_reducible first | exact HB.out | apply below_alloc | apply pw_below_drewN | apply below_drew1) | exact HB.out))) : w.heap.size ≤ gb247)); clear HB; have HB := n0_; have BK247 := n1_; have GW247 := n2_; have GE247 := n3_; clear n0_ n1_ n2_ n3_; clear hb hbox hg))
  (try simp only [Act.put, List.setIfInBounds_toArray, List.set_cons_zero, List.set_cons_succ])
  go_cut [20] (fun v20 wc => ∃ (kq : Nat) (x20_1 : Bool), v20 = .bool x20_1 ∧ Aside0 (remontoirkeep_LightDef.j0 kq x20_1 a0_0 l0_1 l0_2 = some r) ∧ Aside0 (kq ≤ k) ∧ Aside0 (wc.heap[gb247]? = some (.cells #[.string a0_0, (.slice A0_1 l0_1.length c0_1), (.slice A0_2 l0_2.length c0_2)] 25 (0, 0))) ∧ Aside0 (Below w.heap.size w wc))
  case first =>
    have H := HC2.out
    clear HC2
    by_cases c4 : (l0_1.length : Int) > 70
    · rw [if_pos c4] at H
      have c4b0 : decide (70 < (l0_1.length : Int)) = true := decide_eq_true c4
      have c4b1 : decide (70 < l0_1.length) = true := decide_eq_true (by omega)
      clear c4
      (first | rw [c4b0] | (simp only [i64_w, i32_w]; rw [c4b0]) | skip)
      have H' := Aside0.mk H
      clear H
      have hcz5_0 : w3.cell? ⟨gb247, 0, none⟩ = some (.string a0_0) := (blk_cell BK247.out 0).trans rfl
      have hcz5_1 : w3.cell? ⟨gb247, 1, none⟩ = some (.slice A0_1 l0_1.length c0_1) := (blk_cell BK247.out 1).trans rfl
      have hcz5_2 : w3.cell? ⟨gb247, 2, none⟩ = some (.slice A0_2 l0_2.length c0_2) := (blk_cell BK247.out 2).trans rfl
      have hfz5_0 := blk_frozen BK247.out 0
      have hfz5_1 := blk_frozen BK247.out 1
      have hfz5_2 := blk_frozen BK247.out 2
      go_wp2
      go_meet
      case rel => exact ⟨_, (true), (by first | rfl | (simp; done) | (simp [*]; done)), H', ⟨by first | omega | exact Nat.le_refl _⟩, ⟨by (with_reducible repeat (first | refine blk_drewN ?_ _ | refine blk_drew ?_ | refine blk_alloc ?_ _)); exact BK247.out⟩, ⟨by repeat (first | (with_reducible first | exact HB.out | apply below_alloc | apply pw_below_drewN | apply below_drew1 | refine below_set ?_ GE247.out) | exact HB.out)⟩⟩
    · rw [if_neg c4] at H
      have c4b0 : decide (70 < (l0_1.length : Int)) = false := decide_eq_false c4
      have c4b1 : decide (70 < l0_1.length) = false := decide_eq_false (by omega)
      clear c4
      (first | rw [c4b0] | (simp only [i64_w, i32_w]; rw [c4b0]) | skip)
      by_cases c6 : (l0_2.length : Int) > 110
      · rw [if_pos c6] at H
        have c6b0 : decide (110 < (l0_2.length : Int)) = true := decide_eq_true c6
        have c6b1 : decide (110 < l0_2.length) = true := decide_eq_true (by omega)
        clear c6
        have H' := Aside0.mk H
        clear H
        have hcz7_0 : w3.cell? ⟨gb247, 0, none⟩ = some (.string a0_0) := (blk_cell BK247.out 0).trans rfl
        have hcz7_1 : w3.cell? ⟨gb247, 1, none⟩ = some (.slice A0_1 l0_1.length c0_1) := (blk_cell BK247.out 1).trans rfl
        have hcz7_2 : w3.cell? ⟨gb247, 2, none⟩ = some (.slice A0_2 l0_2.length c0_2) := (blk_cell BK247.out 2).trans rfl
        have hfz7_0 := blk_frozen BK247.out 0
        have hfz7_1 := blk_frozen BK247.out 1
        have hfz7_2 := blk_frozen BK247.out 2
        go_wp2
        go_meet
        case rel => exact ⟨_, (true), (by first | rfl | (simp; done) | (simp [*]; done)), H', ⟨by first | omega | exact Nat.le_refl _⟩, ⟨by (with_reducible repeat (first | refine blk_drewN ?_ _ | refine blk_drew ?_ | refine blk_alloc ?_ _)); exact BK247.out⟩, ⟨by repeat (first | (with_reducible first | exact HB.out | apply below_alloc | apply pw_below_drewN | apply below_drew1 | refine below_set ?_ GE247.out) | exact HB.out)⟩⟩
      · rw [if_neg c6] at H
        have c6b0 : decide (110 < (l0_2.length : Int)) = false := decide_eq_false c6
        have c6b1 : decide (110 < l0_2.length) = false := decide_eq_false (by omega)
        clear c6
        have H' := Aside0.mk H
        clear H
        have hcz8_0 : w3.cell? ⟨gb247, 0, none⟩ = some (.string a0_0) := (blk_cell BK247.out 0).trans rfl
        have hcz8_1 : w3.cell? ⟨gb247, 1, none⟩ = some (.slice A0_1 l0_1.length c0_1) := (blk_cell BK247.out 1).trans rfl
        have hcz8_2 : w3.cell? ⟨gb247, 2, none⟩ = some (.slice A0_2 l0_2.length c0_2) := (blk_cell BK247.out 2).trans rfl
        have hfz8_0 := blk_frozen BK247.out 0
        have hfz8_1 := blk_frozen BK247.out 1
        have hfz8_2 := blk_frozen BK247.out 2
        go_wp2
        go_meet
        case rel => exact ⟨_, (decide ((a0_0.size : Int) > 60)), (by first | rfl | (simp; done) | (simp [*]; done)), H', ⟨by first | omega | exact Nat.le_refl _⟩, ⟨by (with_reducible repeat (first | refine blk_drewN ?_ _ | refine blk_drew ?_ | refine blk_alloc ?_ _)); exact BK247.out⟩, ⟨by repeat (first | (with_reducible first | exact HB.out | apply below_alloc | apply pw_below_drewN | apply below_drew1 | refine below_set ?_ GE247.out) | exact HB.out)⟩⟩
  case rest =>
    clear HC2
    try clear p2
    try clear c4
    try clear c4b0
    try clear c4b1
    try clear c6
    try clear c6b0
    try clear c6b1
    try clear hcz5_0
    try clear hcz5_1
    try clear hcz5_2
    try clear hcz7_0
    try clear hcz7_1
    try clear hcz7_2
    try clear hcz8_0
    try clear hcz8_1
    try clear hcz8_2
    try clear hfz5_0
    try clear hfz5_1
    try clear hfz5_2
    try clear hfz7_0
    try clear hfz7_1
    try clear hfz7_2
    try clear hfz8_0
    try clear hfz8_1
    try clear hfz8_2
    obtain ⟨kq, x20_1, rfl, HA, HJ1, BK247, HB⟩ := hcut
    cases kq with
    | zero => exact absurd HA.out (by simp [remontoirkeep_LightDef.j0])
    | succ kj1 =>
      have H := HA.out
      clear HA
      simp only [remontoirkeep_LightDef.j0] at H
      by_cases c9 : x20_1 = true
      · subst c9
        have H1 : (some false) = some r := by rw [if_pos rfl] at H; exact H
        clear H
        have H := H1
        clear H1
        obtain rfl := Option.some.inj H
        go_wp2
        go_ret
        exact ⟨by first | rfl | (simp [errW_none, errW_some] <;> rfl) | (simp [*, errW_none, errW_some] <;> rfl), by repeat (first | (with_reducible first | exact HB.out | apply below_alloc | apply pw_below_drewN | apply below_drew1 | refine below_set ?_ GE247.out) | exact HB.out)⟩
      · replace c9 := Bool.eq_false_iff.mpr c9
        subst c9
        have H1 : (remontoirkeep_LightDef.l0 kj1 0 a0_0 l0_1 l0_2) = some r := by rw [if_neg (show ¬ (false = true) by decide)] at H; exact H
        clear H
        have H := H1
        clear H1
        have H' := Aside0.mk H
        clear H
        go_wp2
        go_loopg [3] kj1 (fun kq v3 w' => ∃ (x3_2 : Int), v3 = .int .i64 x3_2 ∧ Aside0 (remontoirkeep_LightDef.l0 kq x3_2 a0_0 l0_1 l0_2 = some r) ∧ Aside0 (kq ≤ kj1) ∧ Aside0 (w'.heap[gb247]? = some (.cells #[.string a0_0, (.slice A0_1 l0_1.length c0_1), (.slice A0_2 l0_2.length c0_2)] 25 (0, 0))) ∧ Aside0 (Below w.heap.size w w'))
        case atStart => exact ⟨(0), (by first | rfl | (simp; done) | (simp [*]; done)), H', ⟨Nat.le_refl _⟩, ⟨by (with_reducible repeat (first | refine blk_drewN ?_ _ | refine blk_drew ?_ | refine blk_alloc ?_ _)); exact BK247.out⟩, ⟨by repeat (first | (with_reducible first | exact HB.out | apply below_alloc | apply pw_below_drewN | apply below_drew1 | refine below_set ?_ GE247.out) | exact HB.out)⟩⟩
        case round =>
          clear H'
          try clear p2
          try clear c4
          try clear c4b0
          try clear c4b1
          try clear c6
          try clear c6b0
          try clear c6b1
          try clear c9
          try clear hcz5_0
          try clear hcz5_1
          try clear hcz5_2
          try clear hcz7_0
          try clear hcz7_1
          try clear hcz7_2
          try clear hcz8_0
          try clear hcz8_1
          try clear hcz8_2
          try clear hfz5_0
          try clear hfz5_1
          try clear hfz5_2
          try clear hfz7_0
          try clear hfz7_1
          try clear hfz7_2
          try clear hfz8_0
          try clear hfz8_1
          try clear hfz8_2
          try clear p2
          obtain ⟨x3_2, rfl, HA, HK2, BK247, HB⟩ := hrel
          cases gk with
          | zero => exact absurd HA.out (by simp [remontoirkeep_LightDef.l0])
          | succ k2 =>
            have H := HA.out
            clear HA
            simp only [remontoirkeep_LightDef.l0] at H
            by_cases c10 : x3_2 < (l0_1.length : Int)
            · rw [if_pos c10] at H
              have c10b0 : decide (x3_2 < (l0_1.length : Int)) = true := decide_eq_true c10
              clear c10
              by_cases c11 : 0 ≤ x3_2
              · rw [if_pos c11] at H
                have c11b0 : decide (0 ≤ x3_2) = true := decide_eq_true c11
                clear c11
                by_cases c12 : (((rd_T45 l0_1 x3_2).f4).size : Int) > 80
                · rw [if_pos c12] at H
                  have c12b0 : decide (80 < (((rd_T45 l0_1 x3_2).f4).size : Int)) = true := decide_eq_true c12
                  have c12b1 : decide (80 < ((rd_T45 l0_1 x3_2).f4).size) = true := decide_eq_true (by omega)
                  clear c12
                  obtain rfl := Option.some.inj H
                  have hcz13_0 : wr.cell? ⟨gb247, 0, none⟩ = some (.string a0_0) := (blk_cell BK247.out 0).trans rfl
                  have hcz13_1 : wr.cell? ⟨gb247, 1, none⟩ = some (.slice A0_1 l0_1.length c0_1) := (blk_cell BK247.out 1).trans rfl
                  have hcz13_2 : wr.cell? ⟨gb247, 2, none⟩ = some (.slice A0_2 l0_2.length c0_2) := (blk_cell BK247.out 2).trans rfl
                  have hfz13_0 := blk_frozen BK247.out 0
                  have hfz13_1 := blk_frozen BK247.out 1
                  have hfz13_2 := blk_frozen BK247.out 2
                  have p248 : 0 ≤ (x3_2 : Int) := of_decide_eq_true (by first | (with_reducible assumption) | assumption)
                  have q248 : x3_2 < (l0_1.length : Int) := of_decide_eq_true (by first | (with_reducible assumption) | assumption)
                  obtain ⟨ad248, e248, hx248_0, hx248_1, hx248_2, hx248_3, hx248_4⟩ := at_T45 HR0_1.out x3_2 p248 q248
                  cases e248
                  replace hx248_0 := (HB.out.cell (World.block_lt_of_cell? w _ hx248_0)).trans hx248_0
                  replace hx248_1 := (HB.out.cell (World.block_lt_of_cell? w _ hx248_1)).trans hx248_1
                  replace hx248_2 := (HB.out.cell (World.block_lt_of_cell? w _ hx248_2)).trans hx248_2
                  replace hx248_3 := (HB.out.cell (World.block_lt_of_cell? w _ hx248_3)).trans hx248_3
                  replace hx248_4 := (HB.out.cell (World.block_lt_of_cell? w _ hx248_4)).trans hx248_4
                  replace p248 := eq_true p248
                  replace q248 := eq_true q248
                  go_wp2
                  go_ret
                  exact ⟨by first | rfl | (simp [errW_none, errW_some] <;> rfl) | (simp [*, errW_none, errW_some] <;> rfl), by repeat (first | (with_reducible first | exact HB.out | apply below_alloc | apply pw_below_drewN | apply below_drew1 | refine below_set ?_ GE247.out) | exact HB.out)⟩
                · rw [if_neg c12] at H
                  have c12b0 : decide (80 < (((rd_T45 l0_1 x3_2).f4).size : Int)) = false := decide_eq_false c12
                  have c12b1 : decide (80 < ((rd_T45 l0_1 x3_2).f4).size) = false := decide_eq_false (by omega)
                  clear c12
                  have H' := Aside0.mk H
                  clear H
                  have hcz14_0 : wr.cell? ⟨gb247, 0, none⟩ = some (.string a0_0) := (blk_cell BK247.out 0).trans rfl
                  have hcz14_1 : wr.cell? ⟨gb247, 1, none⟩ = some (.slice A0_1 l0_1.length c0_1) := (blk_cell BK247.out 1).trans rfl
                  have hcz14_2 : wr.cell? ⟨gb247, 2, none⟩ = some (.slice A0_2 l0_2.length c0_2) := (blk_cell BK247.out 2).trans rfl
                  have hfz14_0 := blk_frozen BK247.out 0
                  have hfz14_1 := blk_frozen BK247.out 1
                  have hfz14_2 := blk_frozen BK247.out 2
                  have p248 : 0 ≤ (x3_2 : Int) := of_decide_eq_true (by first | (with_reducible assumption) | assumption)
                  have q248 : x3_2 < (l0_1.length : Int) := of_decide_eq_true (by first | (with_reducible assumption) | assumption)
                  obtain ⟨ad248, e248, hx248_0, hx248_1, hx248_2, hx248_3, hx248_4⟩ := at_T45 HR0_1.out x3_2 p248 q248
                  cases e248
                  replace hx248_0 := (HB.out.cell (World.block_lt_of_cell? w _ hx248_0)).trans hx248_0
                  replace hx248_1 := (HB.out.cell (World.block_lt_of_cell? w _ hx248_1)).trans hx248_1
                  replace hx248_2 := (HB.out.cell (World.block_lt_of_cell? w _ hx248_2)).trans hx248_2
                  replace hx248_3 := (HB.out.cell (World.block_lt_of_cell? w _ hx248_3)).trans hx248_3
                  replace hx248_4 := (HB.out.cell (World.block_lt_of_cell? w _ hx248_4)).trans hx248_4
                  replace p248 := eq_true p248
                  replace q248 := eq_true q248
                  go_wp2
                  go_roundg k2
                  case measure => have := HJ1.out; have := HK2.out; omega
                  case rel => exact ⟨(wrap64 (x3_2 + 1)), (by first | rfl | (simp; done) | (simp [*]; done)), H', ⟨by have := HJ1.out; have := HK2.out; omega⟩, ⟨by (with_reducible repeat (first | refine blk_drewN ?_ _ | refine blk_drew ?_ | refine blk_alloc ?_ _)); exact BK247.out⟩, ⟨by repeat (first | (with_reducible first | exact HB.out | apply below_alloc | apply pw_below_drewN | apply below_drew1 | refine below_set ?_ GE247.out) | exact HB.out)⟩⟩
              · rw [if_neg c11] at H
                exact absurd H (by simp)
            · rw [if_neg c10] at H
              have c10b0 : decide (x3_2 < (l0_1.length : Int)) = false := decide_eq_false c10
              clear c10
              have H' := Aside0.mk H
              clear H
              have hcz15_0 : wr.cell? ⟨gb247, 0, none⟩ = some (.string a0_0) := (blk_cell BK247.out 0).trans rfl
              have hcz15_1 : wr.cell? ⟨gb247, 1, none⟩ = some (.slice A0_1 l0_1.length c0_1) := (blk_cell BK247.out 1).trans rfl
              have hcz15_2 : wr.cell? ⟨gb247, 2, none⟩ = some (.slice A0_2 l0_2.length c0_2) := (blk_cell BK247.out 2).trans rfl
              have hfz15_0 := blk_frozen BK247.out 0
              have hfz15_1 := blk_frozen BK247.out 1
              have hfz15_2 := blk_frozen BK247.out 2
              go_wp2
              go_loopg [4] k2 (fun kq v4 w' => ∃ (x4_3 : Int), v4 = .int .i64 x4_3 ∧ Aside0 (remontoirkeep_LightDef.l1 kq x4_3 a0_0 l0_1 l0_2 = some r) ∧ Aside0 (kq ≤ k2) ∧ Aside0 (w'.heap[gb247]? = some (.cells #[.string a0_0, (.slice A0_1 l0_1.length c0_1), (.slice A0_2 l0_2.length c0_2)] 25 (0, 0))) ∧ Aside0 (Below w.heap.size w w'))
              case atStart => exact ⟨(0), (by first | rfl | (simp; done) | (simp [*]; done)), H', ⟨Nat.le_refl _⟩, ⟨by (with_reducible repeat (first | refine blk_drewN ?_ _ | refine blk_drew ?_ | refine blk_alloc ?_ _)); exact BK247.out⟩, ⟨by repeat (first | (with_reducible first | exact HB.out | apply below_alloc | apply pw_below_drewN | apply below_drew1 | refine below_set ?_ GE247.out) | exact HB.out)⟩⟩
              case round =>
                clear H'
                try clear c1
                try clear p2
                try clear q2
                try clear hx2
                try clear c4
                try clear c4b0
                try clear c4b1
                try clear c6
                try clear c6b0
                try clear c6b1
                try clear p6
                try clear c9
                try clear c10
                try clear c10b0
                try clear c11
                try clear c11b0
                try clear c12
                try clear c12b0
                try clear c12b1
                try clear hcz13_0
                try clear hcz13_1
                try clear hcz13_2
                try clear hcz14_0
                try clear hcz14_1
                try clear hcz14_2
                try clear hcz15_0
                try clear hcz15_1
                try clear hcz15_2
                try clear hcz5_0
                try clear hcz5_1
                try clear hcz5_2
                try clear hcz7_0
                try clear hcz7_1
                try clear hcz7_2
                try clear hcz8_0
                try clear hcz8_1
                try clear hcz8_2
                try clear hfz13_0
                try clear hfz13_1
                try clear hfz13_2
                try clear hfz14_0
                try clear hfz14_1
                try clear hfz14_2
                try clear hfz15_0
                try clear hfz15_1
                try clear hfz15_2
                try clear hfz5_0
                try clear hfz5_1
                try clear hfz5_2
                try clear hfz7_0
                try clear hfz7_1
                try clear hfz7_2
                try clear hfz8_0
                try clear hfz8_1
                try clear hfz8_2
                try clear hx248_0
                try clear hx248_1
                try clear hx248_2
                try clear hx248_3
                try clear hx248_4
                try clear p2
                try clear p248
                try clear q248
                obtain ⟨x4_3, rfl, HA, HK3, BK247, HB⟩ := hrel
                cases gk with
                | zero => exact absurd HA.out (by simp [remontoirkeep_LightDef.l1])
                | succ k3 =>
                  have H := HA.out
                  clear HA
                  simp only [remontoirkeep_LightDef.l1] at H
                  by_cases c16 : x4_3 < (l0_2.length : Int)
                  · rw [if_pos c16] at H
                    have c16b0 : decide (x4_3 < (l0_2.length : Int)) = true := decide_eq_true c16
                    clear c16
                    by_cases c17 : 0 ≤ x4_3
                    · rw [if_pos c17] at H
                      have c17b0 : decide (0 ≤ x4_3) = true := decide_eq_true c17
                      clear c17
                      by_cases c18 : (((rd_T47 l0_2 x4_3).f4).size : Int) > 80
                      · rw [if_pos c18] at H
                        have c18b0 : decide (80 < (((rd_T47 l0_2 x4_3).f4).size : Int)) = true := decide_eq_true c18
                        have c18b1 : decide (80 < ((rd_T47 l0_2 x4_3).f4).size) = true := decide_eq_true (by omega)
                        clear c18
                        obtain rfl := Option.some.inj H
                        have hcz19_0 : wr.cell? ⟨gb247, 0, none⟩ = some (.string a0_0) := (blk_cell BK247.out 0).trans rfl
                        have hcz19_1 : wr.cell? ⟨gb247, 1, none⟩ = some (.slice A0_1 l0_1.length c0_1) := (blk_cell BK247.out 1).trans rfl
                        have hcz19_2 : wr.cell? ⟨gb247, 2, none⟩ = some (.slice A0_2 l0_2.length c0_2) := (blk_cell BK247.out 2).trans rfl
                        have hfz19_0 := blk_frozen BK247.out 0
                        have hfz19_1 := blk_frozen BK247.out 1
                        have hfz19_2 := blk_frozen BK247.out 2
                        have p249 : 0 ≤ (x4_3 : Int) := of_decide_eq_true (by first | (with_reducible assumption) | assumption)
                        have q249 : x4_3 < (l0_2.length : Int) := of_decide_eq_true (by first | (with_reducible assumption) | assumption)
                        obtain ⟨ad249, e249, hx249_0, hx249_1, hx249_2, hx249_3, hx249_4⟩ := at_T47 HR0_2.out x4_3 p249 q249
                        cases e249
                        replace hx249_0 := (HB.out.cell (World.block_lt_of_cell? w _ hx249_0)).trans hx249_0
                        replace hx249_1 := (HB.out.cell (World.block_lt_of_cell? w _ hx249_1)).trans hx249_1
                        replace hx249_2 := (HB.out.cell (World.block_lt_of_cell? w _ hx249_2)).trans hx249_2
                        replace hx249_3 := (HB.out.cell (World.block_lt_of_cell? w _ hx249_3)).trans hx249_3
                        replace hx249_4 := (HB.out.cell (World.block_lt_of_cell? w _ hx249_4)).trans hx249_4
                        replace p249 := eq_true p249
                        replace q249 := eq_true q249
                        go_wp2
                        go_ret
                        exact ⟨by first | rfl | (simp [errW_none, errW_some] <;> rfl) | (simp [*, errW_none, errW_some] <;> rfl), by repeat (first | (with_reducible first | exact HB.out | apply below_alloc | apply pw_below_drewN | apply below_drew1 | refine below_set ?_ GE247.out) | exact HB.out)⟩
                      · rw [if_neg c18] at H
                        have c18b0 : decide (80 < (((rd_T47 l0_2 x4_3).f4).size : Int)) = false := decide_eq_false c18
                        have c18b1 : decide (80 < ((rd_T47 l0_2 x4_3).f4).size) = false := decide_eq_false (by omega)
                        clear c18
                        have H' := Aside0.mk H
                        clear H
                        have hcz20_0 : wr.cell? ⟨gb247, 0, none⟩ = some (.string a0_0) := (blk_cell BK247.out 0).trans rfl
                        have hcz20_1 : wr.cell? ⟨gb247, 1, none⟩ = some (.slice A0_1 l0_1.length c0_1) := (blk_cell BK247.out 1).trans rfl
                        have hcz20_2 : wr.cell? ⟨gb247, 2, none⟩ = some (.slice A0_2 l0_2.length c0_2) := (blk_cell BK247.out 2).trans rfl
                        have hfz20_0 := blk_frozen BK247.out 0
                        have hfz20_1 := blk_frozen BK247.out 1
                        have hfz20_2 := blk_frozen BK247.out 2
                        have p249 : 0 ≤ (x4_3 : Int) := of_decide_eq_true (by first | (with_reducible assumption) | assumption)
                        have q249 : x4_3 < (l0_2.length : Int) := of_decide_eq_true (by first | (with_reducible assumption) | assumption)
                        obtain ⟨ad249, e249, hx249_0, hx249_1, hx249_2, hx249_3, hx249_4⟩ := at_T47 HR0_2.out x4_3 p249 q249
                        cases e249
                        replace hx249_0 := (HB.out.cell (World.block_lt_of_cell? w _ hx249_0)).trans hx249_0
                        replace hx249_1 := (HB.out.cell (World.block_lt_of_cell? w _ hx249_1)).trans hx249_1
                        replace hx249_2 := (HB.out.cell (World.block_lt_of_cell? w _ hx249_2)).trans hx249_2
                        replace hx249_3 := (HB.out.cell (World.block_lt_of_cell? w _ hx249_3)).trans hx249_3
                        replace hx249_4 := (HB.out.cell (World.block_lt_of_cell? w _ hx249_4)).trans hx249_4
                        replace p249 := eq_true p249
                        replace q249 := eq_true q249
                        go_wp2
                        go_roundg k3
                        case measure => have := HJ1.out; have := HK2.out; have := HK3.out; omega
                        case rel => exact ⟨(wrap64 (x4_3 + 1)), (by first | rfl | (simp; done) | (simp [*]; done)), H', ⟨by have := HJ1.out; have := HK2.out; have := HK3.out; omega⟩, ⟨by (with_reducible repeat (first | refine blk_drewN ?_ _ | refine blk_drew ?_ | refine blk_alloc ?_ _)); exact BK247.out⟩, ⟨by repeat (first | (with_reducible first | exact HB.out | apply below_alloc | apply pw_below_drewN | apply below_drew1 | refine below_set ?_ GE247.out) | exact HB.out)⟩⟩
                    · rw [if_neg c17] at H
                      exact absurd H (by simp)
                  · rw [if_neg c16] at H
                    have c16b0 : decide (x4_3 < (l0_2.length : Int)) = false := decide_eq_false c16
                    clear c16
                    obtain rfl := Option.some.inj H
                    have hcz21_0 : wr.cell? ⟨gb247, 0, none⟩ = some (.string a0_0) := (blk_cell BK247.out 0).trans rfl
                    have hcz21_1 : wr.cell? ⟨gb247, 1, none⟩ = some (.slice A0_1 l0_1.length c0_1) := (blk_cell BK247.out 1).trans rfl
                    have hcz21_2 : wr.cell? ⟨gb247, 2, none⟩ = some (.slice A0_2 l0_2.length c0_2) := (blk_cell BK247.out 2).trans rfl
                    have hfz21_0 := blk_frozen BK247.out 0
                    have hfz21_1 := blk_frozen BK247.out 1
                    have hfz21_2 := blk_frozen BK247.out 2
                    go_wp2
                    go_ret
                    exact ⟨by first | rfl | (simp [errW_none, errW_some] <;> rfl) | (simp [*, errW_none, errW_some] <;> rfl), by repeat (first | (with_reducible first | exact HB.out | apply below_alloc | apply pw_below_drewN | apply below_drew1 | refine below_set ?_ GE247.out) | exact HB.out)⟩

end Go.Proofs.YtdfkbiffdcfnpaaDoor.H
