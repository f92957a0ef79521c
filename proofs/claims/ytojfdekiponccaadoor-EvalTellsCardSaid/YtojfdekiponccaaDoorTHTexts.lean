import Derived.Test.YtojfdekiponccaaDoorProg
import Derived.Test.YtojfdekiponccaaDoorTHKit
/- lex.texts: the array of the signs' texts. -/
namespace Go.Proofs.YtojfdekiponccaaDoor.H
open Go.HK Go.RowKit
set_option linter.unusedVariables false
def lexT : List ByteArray := [⟨#[]⟩, ⟨#[]⟩, ⟨#[]⟩, ⟨#[43]⟩, ⟨#[45]⟩, ⟨#[42]⟩, ⟨#[60]⟩, ⟨#[60, 61]⟩, ⟨#[62]⟩, ⟨#[62, 61]⟩, ⟨#[61, 61]⟩, ⟨#[33, 61]⟩, ⟨#[38]⟩, ⟨#[124]⟩, ⟨#[33]⟩, ⟨#[40]⟩, ⟨#[41]⟩, ⟨#[91]⟩, ⟨#[93]⟩]
def lexTv : Array Value := (lexT.map Value.string).toArray
def lexT0 : Array Value := Array.replicate 19 (.string ⟨#[]⟩)

theorem idxT (w : World) (k : Nat) (hk : k < 19) : (Instr.index 78 (.agg lexTv) (.int .i64 k)).run Tryd.prog w = .ok (.string (lexT.getD k ⟨#[]⟩)) w := by
  rcases (by omega : k = 0 ∨ k = 1 ∨ k = 2 ∨ k = 3 ∨ k = 4 ∨ k = 5 ∨ k = 6 ∨ k = 7 ∨ k = 8 ∨ k = 9 ∨ k = 10 ∨ k = 11 ∨ k = 12 ∨ k = 13 ∨ k = 14 ∨ k = 15 ∨ k = 16 ∨ k = 17 ∨ k = 18) with rfl | rfl | rfl | rfl | rfl | rfl | rfl | rfl | rfl | rfl | rfl | rfl | rfl | rfl | rfl | rfl | rfl | rfl | rfl
  all_goals kernel_rfl
theorem sizeT : (Tryd.prog.info? 78).map (·.size) = some 19 := by kernel_rfl
theorem underT : Tryd.prog.underlying 78 = some (.array 19 9) := by kernel_rfl
theorem storeT (w : World) : (Instr.storeAt 78 (.pointer (some ⟨w.heap.size, 0, none⟩)) (.agg lexTv)).run Tryd.prog (w.alloc (.cells lexT0 78)) = .ok () (w.alloc (.cells lexTv 78)) :=
  run_storeAt_new w 78 lexT0 lexTv sizeT rfl (by kernel_rfl)
set_option maxRecDepth 100000 in
theorem lex_texts (w : World) :
    Calls Tryd.prog 39 #[] w fun e w' => e = .returned (.agg lexTv) ∧ Below w.heap.size w w' := by
  have hl : (loadVar 78 ⟨w.heap.size, 0, none⟩).run Tryd.prog (w.alloc (.cells lexTv 78)) = .ok (.agg lexTv) (w.alloc (.cells lexTv 78)) := run_loadVar_new w 78 lexTv 19 9 underT sizeT
  go_enter Tryd.func39, Tryd.ntmps39
  go_wp2_with (first
    | (refine Great.wpList_runTo rfl (some 0) rfl (.pointer (some ⟨w.heap.size, 0, none⟩)) (w.alloc (.cells lexT0 78)) (by kernel_rfl) ?_)
    | (refine Great.wpList_runTo rfl (some 1) rfl (.agg lexTv) (w.alloc (.cells lexT0 78)) (by kernel_rfl) ?_)
    | (refine wpList_doTo rfl (w.alloc (.cells lexTv 78)) (exec_store rfl (storeT w)) ?_))
  refine bodyPost_ret (v := .agg lexTv) ?_ rfl ⟨rfl, (Below.refl _ _).alloc (Nat.le_refl _) _⟩
  exact results_cell1 (p := 0) (ty := 78) rfl _ _ _ _ ⟨w.heap.size, 0, none⟩ _ rfl hl
end Go.Proofs.YtojfdekiponccaaDoor.H
