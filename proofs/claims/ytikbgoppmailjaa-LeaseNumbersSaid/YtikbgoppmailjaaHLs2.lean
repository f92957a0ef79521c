import Derived.Test.YtikbgoppmailjaaHLs
import Derived.Deep.MidRow
/- Look: a lease by its number. -/
namespace Go.Proofs.Ytikbgoppmailjaa.H
open Go.RowKit Go.HK Go.Maps Go.WideShapes Go.ChangeShapes Go.Proofs.YtikbgoppmailjaaW.PrintWords Go.Proofs.YtikbgoppmailjaaW.PrintLast Go.Proofs.YtikbgoppmailjaaW.PrintMore
set_option linter.unusedVariables false
set_option linter.unusedSimpArgs false
theorem load_g {w : World} {g : Nat} {a b c : Int} (hg : w.heap[g]? = some (.cells #[.int .i64 a, .int .i64 b, .int .u64 c] 38 (0, 0))) : (loadVar 38 ⟨g, 0, none⟩).run Try.prog w = .ok (gv a b c) w :=
  run_loadVar_mid (P := Try.prog) w g 0 _ [.int .i64 a, .int .i64 b, .int .u64 c] _ (fun j v hv => by
    rw [cell_of_row w g (0 + j) _ _ (0, 0) hg]
    match j, hv with
    | 0, hv => simpa using hv
    | 1, hv => simpa using hv
    | 2, hv => simpa using hv
    | n + 3, hv => simp at hv) Try.underlying38 rfl (by kernel_rfl)
theorem results_cell_tmp {P : Program} {fn : Func} {p q : Tmp} {ty : TypeId} (h : fn.results = #[.cell p ty, .tmp q]) (tmps : Array Value) (w : World) (ad : Addr) (v : Value) (hp : tmps.getD p undef = .pointer (some ad)) (hl : (loadVar ty ad).run P w = .ok v w) :
    (results fn tmps).run P w = .ok (.tuple #[v, tmps.getD q undef]) w := by
  simp only [results, h]
  simp only [List.mapM_toArray, List.mapM_cons, List.mapM_nil, hp, asAddr]
  simp [hl, Result.andThen]
set_option maxRecDepth 100000 in
theorem look_calls {w : World} {p : Nat} {n : Int} {b1 b2 m : Nat} {D1 D2 : DataW Unit} (T : TabAt w p n b1 b2 m D1 D2) {j : Int} (hj : (Lit.int .i64 j).wf = true) :
    Calls Try.prog 14 #[.pointer (some ⟨p, 0, none⟩), .int .i64 j] w fun e w' => Below w.heap.size w w' ∧ ∃ a b c, e = .returned (.tuple #[gv a b c, .bool (has D1 (kk j))]) ∧ D1.atKey (kk j) (gd 0 0 0) = gd a b c := by
  have HT := Aside0.mk T
  have HJ := Aside0.mk hj
  have HP := Aside0.mk (blk_lt T.head)
  have c0 := blk_cell T.head 0
  have c1 := blk_cell T.head 1
  have c2 := blk_cell T.head 2
  clear T hj
  have c1' : (w.alloc (.cells #[.int .i64 0, .int .i64 0, .int .u64 0] 38)).cell? ⟨p, 1, none⟩ = some (.map (some b1)) := by
    rw [World.cell?_alloc_lt _ _ _ HP.out]; exact c1
  have HA := Aside0.mk (HT.out.all.alloc (.cells #[.int .i64 0, .int .i64 0, .int .u64 0] 38))
  go_enter Try.func14, Try.ntmps14
  go_wp2_with (first
    | (refine wpList_lookup_own_ok _ rfl _ _ 59 rfl 3 38 keyI Try.underlying59 grantElem (zeroG _) (gd 0 0 0) [] (grantElem_mk 0 0 0) b1 m D1 rfl HA.out _ _ rfl (keyOf_i HJ.out) ?_; intro v ps hv; obtain ⟨a, b, c, rfl, hz⟩ := grantElem_inv hv; have hat := Aside0.mk (congrArg Prod.fst hz); clear hv hz))
  (try simp only [Exit.inBlock, Exit.then])
  have e1 : (w.alloc (.cells #[.int .i64 a, .int .i64 b, .int .u64 c] 38)).heap.size = w.heap.size + 1 := by simp
  refine bodyPost_ret_by (results_cell_tmp rfl _ _ ⟨w.heap.size, 0, none⟩ (gv a b c) rfl (load_g ?_)) rfl ⟨((Below.refl _ w).alloc (Nat.le_refl _) _).alloc (by rw [e1]; omega) _, a, b, c, rfl, hat.out⟩
  exact (Below.heap_alloc _ _ _ (by rw [e1]; omega)).trans (heap_alloc_last _ _)
set_option maxRecDepth 100000 in
theorem look_nil {w : World} {j : Int} : Calls Try.prog 14 #[.pointer none, .int .i64 j] w fun e w' => Below w.heap.size w w' ∧ e = .returned (.tuple #[gv 0 0 0, .bool false]) := by
  go_enter Try.func14, Try.ntmps14
  go_wp2
  (try simp only [Exit.inBlock, Exit.then])
  refine bodyPost_ret_by (results_cell_tmp rfl _ _ ⟨w.heap.size, 0, none⟩ (gv 0 0 0) rfl (load_g (heap_alloc_last _ _))) rfl ⟨(Below.refl _ w).alloc (Nat.le_refl _) _, rfl⟩
end Go.Proofs.Ytikbgoppmailjaa.H
