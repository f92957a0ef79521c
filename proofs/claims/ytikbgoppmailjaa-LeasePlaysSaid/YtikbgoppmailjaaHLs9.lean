import Derived.Test.YtikbgoppmailjaaHLs5
import Derived.LoopN
/- List of a table of any leases: a row of them, in the order of their numbers. -/
namespace Go.Proofs.Ytikbgoppmailjaa.H
open Go.RowKit Go.HK Go.Maps Go.WideShapes Go.ChangeShapes Go.Proofs.YtikbgoppmailjaaW.PrintWords Go.Proofs.YtikbgoppmailjaaW.PrintLast Go.Proofs.YtikbgoppmailjaaW.PrintMore
set_option linter.unusedVariables false
set_option linter.unusedSimpArgs false
abbrev c3 (x : Int × Int × Int) : List Value := [.int .i64 x.1, .int .i64 x.2.1, .int .u64 x.2.2]
abbrev flat (l : List (Int × Int × Int)) : List Value := l.flatMap c3
/-- v is a row of the leases l, in memory from B on. -/
def RowG (w : World) (B : Nat) (v : Value) (l : List (Int × Int × Int)) : Prop := w.ownsRow B 38 3 v l.length (flat l)
theorem RowG.nil (w : World) (B : Nat) : RowG w B (.slice none 0 0) [] := World.ownsRow_nil _ _ _ _
theorem own_base {w : World} {B : Nat} {e : TypeId} {s : Nat} {v : Value} {n : Nat} {xs : List Value} (h : w.ownsRow B e s v n xs) : ∀ k, v.ownBlock = some k → B ≤ k := by
  rcases h.2 with ⟨rfl, _⟩ | ⟨g, cap, cur, rfl, h2, _⟩
  · intro k e; cases e
  · intro k e; cases e; exact h2
theorem list_body {r0 c1 r3 r4 body rt r0' c1' r3' r4' body' rt' : Code} {q q' : Nat} (h : Try.f16.body = some (.seq r0 (.seq c1 (.seq r3 (.seq (.seq r4 (.block q (.loop body))) rt))))) (h' : Try.f16.body = some (.seq r0' (.seq c1' (.seq r3' (.seq (.seq r4' (.block q' (.loop body'))) rt'))))) : body' = body := by
  rw [h] at h'
  injection h' with h'
  injection h' with _ h'
  injection h' with _ h'
  injection h' with _ h'
  injection h' with h1 _
  injection h1 with _ h1
  injection h1 with _ h1
  injection h1 with h1
  exact h1.symm
/-- The lease of a number, as the table's datum has it. -/
def Has3 (D1 : DataW Unit) (k : Int) (x : Int × Int × Int) : Prop := D1.atKey (kk k) (gd 0 0 0) = gd x.1 x.2.1 x.2.2
set_option maxRecDepth 100000 in
set_option maxHeartbeats 8000000 in
theorem list_exit {w : World} {p g L cap : Nat} {K : Act → World → Prop} {R : Ending → World → Prop} {N q : Nat} {r0 c1 r3 r4 body rt : Code} {l : Nat} {v : Value} {x1 x4 x5 x6 x7 x8 x9 x10 x11 x12 x16 x17 x18 x19 x20 x21 x22 x23 x24 x25 x26 x27 x28 x29 : Value} (hB : Try.f16.body = some (.seq r0 (.seq c1 (.seq r3 (.seq (.seq r4 (.block q (.loop body))) rt))))) (hl : L ≤ 100000) (hi : l = L)
    (cont : ∀ (y1 y4 y5 y6 y7 y8 y9 y10 y11 y12 y16 y17 y18 y19 y20 y21 y22 y23 y24 y25 y26 y27 y28 y29 : Value), K ⟨#[.pointer (some ⟨p, 0, none⟩), y1, .slice none 0 0, v, y4, y5, y6, y7, y8, y9, y10, y11, y12, .slice (some ⟨g, 0, none⟩) L cap, .int .i64 L, .int .i64 L, y16, y17, y18, y19, y20, y21, y22, y23, y24, y25, y26, y27, y28, y29], []⟩ w) : Code.rounds Try.prog body (Exit.inBlock 0 (Exit.then K (bodyPost Try.prog Try.f16 R))) (N + 1) ⟨#[.pointer (some ⟨p, 0, none⟩), x1, .slice none 0 0, v, x4, x5, x6, x7, x8, x9, x10, x11, x12, .slice (some ⟨g, 0, none⟩) L cap, .int .i64 L, .int .i64 l, x16, x17, x18, x19, x20, x21, x22, x23, x24, x25, x26, x27, x28, x29], []⟩ w := by
  have hbody := list_body rfl hB
  clear hB
  subst hbody hi
  have hcont := Aside0.mk cont
  clear cont
  rw [rounds_succ]
  go_wp2
  exact hcont.out _ _ _ _ _ _ _ _ _ _ _ _ _ _ _ _ _ _ _ _ _ _ _ _
set_option maxRecDepth 100000 in
set_option maxHeartbeats 8000000 in
theorem list_round {w0 w : World} {p g L cap b1 b2 m : Nat} {n : Int} {D1 D2 : DataW Unit} {K : Act → World → Prop} {R : Ending → World → Prop} {N q : Nat} {r0 c1 r3 r4 body rt : Code} {i : Nat} {k : Int} {v : Value} {l : List (Int × Int × Int)} {x1 x4 x5 x6 x7 x8 x9 x10 x11 x12 x16 x17 x18 x19 x20 x21 x22 x23 x24 x25 x26 x27 x28 x29 : Value} (hB : Try.f16.body = some (.seq r0 (.seq c1 (.seq r3 (.seq (.seq r4 (.block q (.loop body))) rt))))) (HT : Aside0 (TabAt w0 p n b1 b2 m D1 D2)) (HB : Aside0 (Below w0.heap.size w0 w)) (HR : Aside0 (RowG w w0.heap.size v l)) (HL : Aside0 (l.length ≤ 100000)) (hk : w0.cell? ⟨g, i, none⟩ = some (.int .i64 k)) (HK : Aside0 ((Lit.int .i64 k).wf = true)) (hi : i < L) (hl : L ≤ 100000)
    (cont : ∀ (w' : World) (v' : Value) (x : Int × Int × Int) (y1 y4 y5 y6 y7 y8 y9 y10 y11 y12 y16 y17 y18 y19 y20 y21 y22 y23 y24 y25 y26 y27 y28 y29 : Value), Has3 D1 k x → Below w0.heap.size w0 w' → RowG w' w0.heap.size v' (l ++ [x]) → Code.rounds Try.prog body (Exit.inBlock 0 (Exit.then K (bodyPost Try.prog Try.f16 R))) N ⟨#[.pointer (some ⟨p, 0, none⟩), y1, .slice none 0 0, v', y4, y5, y6, y7, y8, y9, y10, y11, y12, .slice (some ⟨g, 0, none⟩) L cap, .int .i64 L, .int .i64 (i + 1), y16, y17, y18, y19, y20, y21, y22, y23, y24, y25, y26, y27, y28, y29], []⟩ w') :
    Code.rounds Try.prog body (Exit.inBlock 0 (Exit.then K (bodyPost Try.prog Try.f16 R))) (N + 1) ⟨#[.pointer (some ⟨p, 0, none⟩), x1, .slice none 0 0, v, x4, x5, x6, x7, x8, x9, x10, x11, x12, .slice (some ⟨g, 0, none⟩) L cap, .int .i64 L, .int .i64 i, x16, x17, x18, x19, x20, x21, x22, x23, x24, x25, x26, x27, x28, x29], []⟩ w := by
  have hbody := list_body rfl hB
  clear hB
  subst hbody
  have ck := (HB.out.cell (p := ⟨g, i, none⟩) (World.block_lt_of_cell? w0 _ hk)).trans hk
  have T2 := Aside0.mk (HT.out.keep HB.out)
  have c1 := blk_cell T2.out.head 1
  have hcont := Aside0.mk cont
  clear hk cont
  obtain ⟨v0, ps, hrun, hv⟩ := T2.out.all.lookup keyI Try.underlying59 (zeroG _) (grantElem_mk 0 0 0) (keyOf_i HK.out)
  obtain ⟨a, b, c, rfl, hz⟩ := grantElem_inv hv
  have HX := Aside0.mk (congrArg Prod.fst hz)
  have HU := Aside0.mk hrun
  obtain ⟨i0, hi0, hz0, hz1, hz2⟩ := infoG
  have HI := Aside0.mk hi0
  have HI0 := Aside0.mk hz0
  have HI1 := Aside0.mk hz1
  have HI2 := Aside0.mk hz2
  clear hrun hv hz hi0 hz0 hz1 hz2
  rw [rounds_succ]
  go_upto_region 6 with fail
  go_upto_region 99 with (first
    | (refine Great.wpList_readTo rfl (some 25) rfl (gv a b c) (exec_lookup rfl HU.out) ?_)
    | (at_builtin; refine wpList_append_own _ rfl _ _ 34 rfl w0.heap.size 38 i0 (gv 0 0 0) 3 24 Try.underlying34 HI.out HI0.out HI1.out HI2.out rfl (by decide) v l.length (flat l) rfl (HR.out.alloc _) ⟨w.heap.size, 0, none⟩ 1 1 [.int .i64 a, .int .i64 b, .int .u64 c] rfl rfl (new_three _ _ _ _) (fun x hx => by simp at hx; rcases hx with rfl | rfl | rfl <;> rfl) (by have := HL.out; unfold maxLen; omega) (by have := HL.out; omega) (Nat.le_trans HB.out.size (by simp)) ?_; intro v' w3 hown' hgrow3 hnil3; have HO := Aside0.mk hown'; have HB3 := Aside0.mk (((HB.out.alloc HB.out.size (.cells #[.int .i64 a, .int .i64 b, .int .u64 c] 38)).grown hgrow3 (Nat.le_trans HB.out.size (by simp)) (own_base HR.out))); clear hown' hgrow3 hnil3))
  refine hcont.out _ v' (a, b, c) _ _ _ _ _ _ _ _ _ _ _ _ _ _ _ _ _ _ _ _ _ _ _ _ HX.out HB3.out ?_
  have h := HO.out
  have e : flat (l ++ [(a, b, c)]) = flat l ++ [.int .i64 a, .int .i64 b, .int .u64 c] := by simp [flat, List.flatMap_append]
  unfold RowG
  rw [List.length_append, e]
  exact h
/-- The leases of the numbers ks, one by one. -/
def Has3s (D1 : DataW Unit) : List Int → List (Int × Int × Int) → Prop
  | [], [] => True
  | k :: ks, x :: l => Has3 D1 k x ∧ Has3s D1 ks l
  | _, _ => False
theorem Has3s.snoc {D1 : DataW Unit} {k : Int} {x : Int × Int × Int} (h : Has3 D1 k x) : ∀ {ks : List Int} {l : List (Int × Int × Int)}, Has3s D1 ks l → Has3s D1 (ks ++ [k]) (l ++ [x])
  | [], [], _ => ⟨h, trivial⟩
  | _ :: _, _ :: _, hh => ⟨hh.1, Has3s.snoc h hh.2⟩
  | [], _ :: _, hh => hh.elim
  | _ :: _, [], hh => hh.elim
theorem Has3s.length {D1 : DataW Unit} : ∀ {ks : List Int} {l : List (Int × Int × Int)}, Has3s D1 ks l → l.length = ks.length
  | [], [], _ => rfl
  | _ :: _, _ :: _, hh => by simp [Has3s.length hh.2]
  | [], _ :: _, hh => hh.elim
  | _ :: _, [], hh => hh.elim
set_option maxRecDepth 100000 in
set_option maxHeartbeats 8000000 in
theorem list_loop {w0 : World} {p g cap b1 b2 m : Nat} {n : Int} {D1 D2 : DataW Unit} {K : Act → World → Prop} {R : Ending → World → Prop} {q : Nat} {r0 c1 r3 r4 body rt : Code} {ks : List Int} (hB : Try.f16.body = some (.seq r0 (.seq c1 (.seq r3 (.seq (.seq r4 (.block q (.loop body))) rt))))) (HT : TabAt w0 p n b1 b2 m D1 D2) (hl : ks.length ≤ 100000) (hk : ∀ i (h : i < ks.length), w0.cell? ⟨g, i, none⟩ = some (.int .i64 ks[i]) ∧ (Lit.int .i64 ks[i]).wf = true)
    (hK : ∀ (w' : World) (v : Value) (l : List (Int × Int × Int)) (y1 y4 y5 y6 y7 y8 y9 y10 y11 y12 y16 y17 y18 y19 y20 y21 y22 y23 y24 y25 y26 y27 y28 y29 : Value), Has3s D1 ks l → Below w0.heap.size w0 w' → RowG w' w0.heap.size v l → K ⟨#[.pointer (some ⟨p, 0, none⟩), y1, .slice none 0 0, v, y4, y5, y6, y7, y8, y9, y10, y11, y12, .slice (some ⟨g, 0, none⟩) ks.length cap, .int .i64 ks.length, .int .i64 ks.length, y16, y17, y18, y19, y20, y21, y22, y23, y24, y25, y26, y27, y28, y29], []⟩ w') :
    ∀ (d i : Nat) (w : World) (v : Value) (l : List (Int × Int × Int)) {y1 y4 y5 y6 y7 y8 y9 y10 y11 y12 y16 y17 y18 y19 y20 y21 y22 y23 y24 y25 y26 y27 y28 y29 : Value}, i + d = ks.length → Has3s D1 (ks.take i) l → Below w0.heap.size w0 w → RowG w w0.heap.size v l → Code.rounds Try.prog body (Exit.inBlock 0 (Exit.then K (bodyPost Try.prog Try.f16 R))) (d + 1) ⟨#[.pointer (some ⟨p, 0, none⟩), y1, .slice none 0 0, v, y4, y5, y6, y7, y8, y9, y10, y11, y12, .slice (some ⟨g, 0, none⟩) ks.length cap, .int .i64 ks.length, .int .i64 i, y16, y17, y18, y19, y20, y21, y22, y23, y24, y25, y26, y27, y28, y29], []⟩ w := by
  intro d
  induction d with
  | zero =>
    intro i w v l y1 y4 y5 y6 y7 y8 y9 y10 y11 y12 y16 y17 y18 y19 y20 y21 y22 y23 y24 y25 y26 y27 y28 y29 hd H HB HR
    have hi : i = ks.length := by omega
    refine list_exit (L := ks.length) (l := i) hB hl hi (fun y1 y4 y5 y6 y7 y8 y9 y10 y11 y12 y16 y17 y18 y19 y20 y21 y22 y23 y24 y25 y26 y27 y28 y29 => hK w v l y1 y4 y5 y6 y7 y8 y9 y10 y11 y12 y16 y17 y18 y19 y20 y21 y22 y23 y24 y25 y26 y27 y28 y29 ?_ HB HR)
    rwa [hi, List.take_length] at H
  | succ d ih =>
    intro i w v l y1 y4 y5 y6 y7 y8 y9 y10 y11 y12 y16 y17 y18 y19 y20 y21 y22 y23 y24 y25 y26 y27 y28 y29 hd H HB HR
    have hi : i < ks.length := by omega
    have hlen : l.length = i := by rw [H.length, List.length_take]; omega
    refine list_round hB ⟨HT⟩ ⟨HB⟩ ⟨HR⟩ ⟨by omega⟩ (hk i hi).1 ⟨(hk i hi).2⟩ hi hl (fun w' v' x y1 y4 y5 y6 y7 y8 y9 y10 y11 y12 y16 y17 y18 y19 y20 y21 y22 y23 y24 y25 y26 y27 y28 y29 hx hb hr => ih (i + 1) w' v' _ (by omega) ?_ hb hr)
    rw [List.take_succ_eq_append_getElem hi]
    exact H.snoc hx
end Go.Proofs.Ytikbgoppmailjaa.H
