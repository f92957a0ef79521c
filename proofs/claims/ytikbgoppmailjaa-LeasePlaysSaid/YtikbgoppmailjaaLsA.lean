import Derived.Test.YtikbgoppmailjaaProg
import Derived.Test.YtikbgoppmailjaaHKit
import Derived.Test.YtikbgoppmailjaaWMore
import Derived.WalkKit
import Derived.Below
import Derived.OwnWalk
import Derived.Test.YtikbgoppmailjaaWWords
import Derived.Test.YtikbgoppmailjaaWLast
import Derived.Maps.OwnSet
import Derived.Maps.OwnIn
import Derived.Deep.WholeRow
import Derived.Carry
import Derived.KernelRfl
import Derived.Deep.MidRow
/- A table of leases in the heap: its words; what is made, looked for, counted. -/
namespace Go.Proofs.Ytikbgoppmailjaa.H
open Go.RowKit Go.HK Go.Maps Go.WideShapes Go.ChangeShapes Go.Proofs.YtikbgoppmailjaaW.PrintWords Go.Proofs.YtikbgoppmailjaaW.PrintLast Go.Proofs.YtikbgoppmailjaaW.PrintMore
set_option linter.unusedVariables false
set_option linter.unusedSimpArgs false
abbrev gv (a b c : Int) : Value := .agg #[.int .i64 a, .int .i64 b, .int .u64 c]
abbrev gd (a b c : Int) : DataW Unit := .agg [.lit (.int .i64 a), .lit (.int .i64 b), .lit (.int .u64 c)]
abbrev kk (j : Int) : Lit := .int .i64 j
def grantElem (v : Value) : Option (DataW Unit × List MemPlace) := match v with
  | .agg ⟨[.int .i64 a, .int .i64 b, .int .u64 c]⟩ => some (gd a b c, [])
  | _ => none
theorem grantElem_mk (a b c : Int) : grantElem (gv a b c) = some (gd a b c, []) := rfl
theorem grantElem_inv {v : Value} {z : DataW Unit × List MemPlace} (h : grantElem v = some z) : ∃ a b c, v = gv a b c ∧ z = (gd a b c, []) := by
  unfold grantElem at h
  split at h
  · cases h; exact ⟨_, _, _, rfl, rfl⟩
  · cases h
theorem zeroG (w : World) : (zeroValue 38).run Try.prog w = .ok (gv 0 0 0) w := by kernel_rfl
theorem zeroI (w : World) : (zeroValue 3).run Try.prog w = .ok (.int .i64 0) w := by kernel_rfl
theorem keyI : Keyed Try.prog 3 := int_keyed Try.underlying3
theorem keyOf_i {j : Int} (h : (Lit.int .i64 j).wf = true) : keyOf Try.prog 3 (.int .i64 j) = some (kk j) := keyOf_int_mk Try.underlying3 h
/-- At p lies a table: the last number, its maps. -/
structure TabAt (w : World) (p : Nat) (n : Int) (b1 b2 m : Nat) (D1 D2 : DataW Unit) : Prop where
  head : w.heap[p]? = some (.cells #[.int .i64 n, .map (some b1), .map (some b2)] 62 (0, 0))
  all : w.ownsMap Try.prog 3 grantElem b1 m D1
  of : w.ownsMap Try.prog 3 (plainElem Try.prog 3) b2 m D2
  apart : b1 ≠ b2
theorem ownsMap_below {w w' : World} {P : Program} {k : TypeId} {R : Value → Option (DataW Unit × List MemPlace)} {b n B : Nat} {D : DataW Unit} (h : w.ownsMap P k R b n D) (hb : Below B w w') (hB : b < B) : w'.ownsMap P k R b n D := by
  obtain ⟨es, c, e, r⟩ := h
  exact ⟨es, c, (hb.block b hB).trans e, r⟩
theorem TabAt.below {w w' : World} {p : Nat} {n : Int} {b1 b2 m B : Nat} {D1 D2 : DataW Unit} (T : TabAt w p n b1 b2 m D1 D2) (hb : Below B w w') (hp : p < B) (h1 : b1 < B) (h2 : b2 < B) : TabAt w' p n b1 b2 m D1 D2 :=
  ⟨(hb.block p hp).trans T.head, ownsMap_below T.all hb h1, ownsMap_below T.of hb h2, T.apart⟩
theorem TabAt.keep {w w' : World} {p : Nat} {n : Int} {b1 b2 m : Nat} {D1 D2 : DataW Unit} (T : TabAt w p n b1 b2 m D1 D2) (hb : Below w.heap.size w w') : TabAt w' p n b1 b2 m D1 D2 :=
  T.below hb (blk_lt T.head) T.all.lt T.of.lt
theorem TabAt.ne1 {w : World} {p : Nat} {n : Int} {b1 b2 m : Nat} {D1 D2 : DataW Unit} (T : TabAt w p n b1 b2 m D1 D2) : p ≠ b1 := by
  rintro rfl
  obtain ⟨es, c, e, _⟩ := T.all
  rw [T.head] at e
  cases e
theorem TabAt.ne2 {w : World} {p : Nat} {n : Int} {b1 b2 m : Nat} {D1 D2 : DataW Unit} (T : TabAt w p n b1 b2 m D1 D2) : p ≠ b2 := by
  rintro rfl
  obtain ⟨es, c, e, _⟩ := T.of
  rw [T.head] at e
  cases e
theorem exec_makeMap {P : Program} {ρ : Operand → Value} {o : Oper} {t : TypeId} (ho : o.op = .makeMap t none) (w : World) : (execOp ρ o).run P w = .ok (.value (.map (some w.heap.size))) (w.alloc (.map #[] 0)) := by
  unfold execOp
  rw [ho]
  rfl
set_option maxRecDepth 100000 in
theorem new_calls (w : World) : Calls Try.prog 8 #[] w fun e w' => e = .returned (.pointer (some ⟨w.heap.size + 2, 0, none⟩)) ∧ TabAt w' (w.heap.size + 2) 0 w.heap.size (w.heap.size + 1) 0 (.map []) (.map []) ∧ Below w.heap.size w w' ∧ w'.heap.size = w.heap.size + 3 := by
  go_enter Try.func8, Try.ntmps8
  go_wp2_with (first
    | (refine Great.wpList_runTo rfl (some 1) rfl _ _ (exec_makeMap rfl _) ?_)
    | (refine Great.wpList_runTo rfl (some 2) rfl _ _ (exec_makeMap rfl _) ?_))
  go_ret
  have e1 : (w.alloc (.map #[] 0)).heap.size = w.heap.size + 1 := by simp
  have e2 : ((w.alloc (.map #[] 0)).alloc (.map #[] 0)).heap.size = w.heap.size + 2 := by simp
  have hb : Below w.heap.size w (((w.alloc (.map #[] 0)).alloc (.map #[] 0)).alloc (.cells #[.int .i64 0, .map (some w.heap.size), .map (some (w.heap.size + 1))] 62)) :=
    (((Below.refl _ w).alloc (Nat.le_refl _) _).alloc (by rw [e1]; omega) _).alloc (by rw [e2]; omega) _
  refine ⟨rfl, ⟨?_, ?_, ?_, by omega⟩, hb, by simp⟩
  · have h := heap_alloc_last ((w.alloc (.map #[] 0)).alloc (.map #[] 0)) (.cells #[.int .i64 0, .map (some w.heap.size), .map (some (w.heap.size + 1))] 62)
    rw [e2] at h
    exact h
  · have h := World.ownsMap_made w Try.prog 3 grantElem
    exact (h.alloc _).alloc _
  · have h := World.ownsMap_made (w.alloc (.map #[] 0)) Try.prog 3 (plainElem (H := Unit) Try.prog 3)
    rw [e1] at h
    exact h.alloc _
set_option maxRecDepth 100000 in
theorem of_calls {w : World} {p : Nat} {n : Int} {b1 b2 m : Nat} {D1 D2 : DataW Unit} (T : TabAt w p n b1 b2 m D1 D2) {j : Int} (hj : (Lit.int .i64 j).wf = true) :
    Calls Try.prog 17 #[.pointer (some ⟨p, 0, none⟩), .int .i64 j] w fun e w' => w' = w ∧ ∃ c, e = .returned (.tuple #[.int .i64 c, .bool (has D2 (kk j))]) ∧ D2.atKey (kk j) (.lit (.int .i64 0)) = .lit (.int .i64 c) ∧ (Lit.int .i64 c).wf = true := by
  have c0 := blk_cell T.head 0
  have c1 := blk_cell T.head 1
  have c2 := blk_cell T.head 2
  have HT := Aside0.mk T
  have HJ := Aside0.mk hj
  clear T hj
  go_enter Try.func17, Try.ntmps17
  go_wp2_with (first
    | (refine wpList_lookup_own_ok_int _ rfl _ _ 60 rfl 3 3 .i64 keyI Try.underlying60 Try.underlying3 (zeroI _) b2 m D2 rfl HT.out.of _ _ rfl (keyOf_i HJ.out) ?_; intro c hat hwc))
  go_ret2
  exact ⟨rfl, _, rfl, hat, hwc⟩
set_option maxRecDepth 100000 in
theorem of_nil {w : World} {j : Int} : Calls Try.prog 17 #[.pointer none, .int .i64 j] w fun e w' => w' = w ∧ e = .returned (.tuple #[.int .i64 0, .bool false]) := by
  go_enter Try.func17, Try.ntmps17
  go_wp2
  go_ret2
  exact ⟨rfl, rfl⟩
set_option maxRecDepth 100000 in
theorem len_calls {w : World} {p : Nat} {n : Int} {b1 b2 m : Nat} {D1 D2 : DataW Unit} (T : TabAt w p n b1 b2 m D1 D2) :
    Calls Try.prog 15 #[.pointer (some ⟨p, 0, none⟩)] w fun e w' => w' = w ∧ e = .returned (.int .i64 (size D1)) := by
  have c0 := blk_cell T.head 0
  have c1 := blk_cell T.head 1
  have c2 := blk_cell T.head 2
  have HT := Aside0.mk T
  clear T
  go_enter Try.func15, Try.ntmps15
  go_wp2_with (first
    | (refine wpList_len_own _ rfl _ 59 rfl 3 38 Try.underlying59 _ b1 m D1 rfl HT.out.all ?_))
  go_ret
  exact ⟨rfl, rfl⟩
set_option maxRecDepth 100000 in
theorem len_nil {w : World} : Calls Try.prog 15 #[.pointer none] w fun e w' => w' = w ∧ e = .returned (.int .i64 0) := by
  go_enter Try.func15, Try.ntmps15
  go_wp2
  go_ret
  exact ⟨rfl, rfl⟩
end Go.Proofs.Ytikbgoppmailjaa.H
/- Look: a lease by its number. -/
namespace Go.Proofs.Ytikbgoppmailjaa.H
open Go.RowKit Go.HK Go.Maps Go.WideShapes Go.ChangeShapes Go.Proofs.YtikbgoppmailjaaW.PrintWords Go.Proofs.YtikbgoppmailjaaW.PrintLast Go.Proofs.YtikbgoppmailjaaW.PrintMore
set_option linter.unusedVariables false
set_option linter.unusedSimpArgs false
theorem load_g {w : World} {g : Nat} {a b c : Int} (hg : w.heap[g]? = some (.cells #[.int .i64 a, .int .i64 b, .int .u64 c] 38 (0, 0))) : (loadVar 38 ⟨g, 0, none⟩).run Try.prog w = .ok (gv a b c) w :=
  run_loadVar_mid (P := Try.prog) w g 0 _ [.int .i64 a, .int .i64 b, .int .u64 c] _ (fun j v hv => by
    rw [cell_of_row w g (0 + j) _ _ (0, 0) hg]
    match j, hv with
    | 0, hv => simpa using hv
    | 1, hv => simpa using hv
    | 2, hv => simpa using hv
    | n + 3, hv => simp at hv) Try.underlying38 rfl (by kernel_rfl)
theorem results_cell_tmp {P : Program} {fn : Func} {p q : Tmp} {ty : TypeId} (h : fn.results = #[.cell p ty, .tmp q]) (tmps : Array Value) (w : World) (ad : Addr) (v : Value) (hp : tmps.getD p undef = .pointer (some ad)) (hl : (loadVar ty ad).run P w = .ok v w) :
    (results fn tmps).run P w = .ok (.tuple #[v, tmps.getD q undef]) w := by
  simp only [results, h]
  simp only [List.mapM_toArray, List.mapM_cons, List.mapM_nil, hp, asAddr]
  simp [hl, Result.andThen]
set_option maxRecDepth 100000 in
theorem look_calls {w : World} {p : Nat} {n : Int} {b1 b2 m : Nat} {D1 D2 : DataW Unit} (T : TabAt w p n b1 b2 m D1 D2) {j : Int} (hj : (Lit.int .i64 j).wf = true) :
    Calls Try.prog 14 #[.pointer (some ⟨p, 0, none⟩), .int .i64 j] w fun e w' => Below w.heap.size w w' ∧ ∃ a b c, e = .returned (.tuple #[gv a b c, .bool (has D1 (kk j))]) ∧ D1.atKey (kk j) (gd 0 0 0) = gd a b c := by
  have HT := Aside0.mk T
  have HJ := Aside0.mk hj
  have HP := Aside0.mk (blk_lt T.head)
  have c0 := blk_cell T.head 0
  have c1 := blk_cell T.head 1
  have c2 := blk_cell T.head 2
  clear T hj
  have c1' : (w.alloc (.cells #[.int .i64 0, .int .i64 0, .int .u64 0] 38)).cell? ⟨p, 1, none⟩ = some (.map (some b1)) := by
    rw [World.cell?_alloc_lt _ _ _ HP.out]; exact c1
  have HA := Aside0.mk (HT.out.all.alloc (.cells #[.int .i64 0, .int .i64 0, .int .u64 0] 38))
  go_enter Try.func14, Try.ntmps14
  go_wp2_with (first
    | (refine wpList_lookup_own_ok _ rfl _ _ 59 rfl 3 38 keyI Try.underlying59 grantElem (zeroG _) (gd 0 0 0) [] (grantElem_mk 0 0 0) b1 m D1 rfl HA.out _ _ rfl (keyOf_i HJ.out) ?_; intro v ps hv; obtain ⟨a, b, c, rfl, hz⟩ := grantElem_inv hv; have hat := Aside0.mk (congrArg Prod.fst hz); clear hv hz))
  (try simp only [Exit.inBlock, Exit.then])
  have e1 : (w.alloc (.cells #[.int .i64 a, .int .i64 b, .int .u64 c] 38)).heap.size = w.heap.size + 1 := by simp
  refine bodyPost_ret_by (results_cell_tmp rfl _ _ ⟨w.heap.size, 0, none⟩ (gv a b c) rfl (load_g ?_)) rfl ⟨((Below.refl _ w).alloc (Nat.le_refl _) _).alloc (by rw [e1]; omega) _, a, b, c, rfl, hat.out⟩
  exact (Below.heap_alloc _ _ _ (by rw [e1]; omega)).trans (heap_alloc_last _ _)
set_option maxRecDepth 100000 in
theorem look_nil {w : World} {j : Int} : Calls Try.prog 14 #[.pointer none, .int .i64 j] w fun e w' => Below w.heap.size w w' ∧ e = .returned (.tuple #[gv 0 0 0, .bool false]) := by
  go_enter Try.func14, Try.ntmps14
  go_wp2
  (try simp only [Exit.inBlock, Exit.then])
  refine bodyPost_ret_by (results_cell_tmp rfl _ _ ⟨w.heap.size, 0, none⟩ (gv 0 0 0) rfl (load_g (heap_alloc_last _ _))) rfl ⟨(Below.refl _ w).alloc (Nat.le_refl _) _, rfl⟩
end Go.Proofs.Ytikbgoppmailjaa.H
