import Derived.WalkKit
import Derived.Great.Walk
import Derived.Deep.WholeRow
import Derived.ScopeJumps
import Derived.Laws.NewBlocks
import Derived.Laws.Tables
/- Small laws of this session, over any program: an operation met by its run; a scope with several labels. -/
namespace Go.HK
open Go Go.RowKit

theorem wpList_doTo {P : Program} {ops : Array Oper} {rest : List Oper} {o : Oper} {a : Act} {w : World} {Q : Exit → Act → World → Prop} (hg : o.guard = none) (w' : World)
    (hrun : (execOp a.eval o).run P w = .ok .skip w')
    (h : wpList P ops Q rest (a.put o.dst undef) w') : wpList P ops Q (o :: rest) a w := by
  refine wpList_plain hg fun K hK => ?_
  unfold Oper.wp
  rw [hrun, Oper.upon_skip]
  exact hK _ _ h
theorem results_cell1 {fn : Func} {p : Tmp} {ty : TypeId} (h : fn.results = #[.cell p ty]) (tmps : Array Value) (P : Program) (w w' : World) (ad : Addr) (v : Value) (hp : tmps.getD p undef = .pointer (some ad)) (hl : (loadVar ty ad).run P w = .ok v w') :
    (results fn tmps).run P w = .ok v w' := by
  simp only [results, h]
  simp only [List.mapM_toArray, List.mapM_cons, List.mapM_nil, hp, asAddr]
  simp [hl]
theorem exec_store {P : Program} {ρ : Operand → Value} {o : Oper} {t : TypeId} {a x : Operand} (ho : o.op = .store t a x) {w w' : World} (h : (Instr.storeAt t (ρ a) (ρ x)).run P w = .ok () w') : (execOp ρ o).run P w = .ok .skip w' := by
  unfold execOp
  rw [ho]
  simp only [Sem.run_bind, h, Result.andThen]
  rfl
theorem exec_index {P : Program} {ρ : Operand → Value} {o : Oper} {t : TypeId} {a x : Operand} (ho : o.op = .index t a x) {w w' : World} {v : Value} (h : (Instr.index t (ρ a) (ρ x)).run P w = .ok v w') : (execOp ρ o).run P w = .ok (.value v) w' := by
  unfold execOp
  rw [ho]
  simp only [Sem.run_bind, h, Result.andThen]
  rfl

/-- As Q; by a goto to label l: J l. -/
def jumps (J : Nat → Act → World → Prop) (Q : Exit → Act → World → Prop) : Exit → Act → World → Prop
  | .goto l, a, w => J l a w
  | e, a, w => Q e a w

section
variable {P : Program} {a : Act} {w : World} {Q : Exit → Act → World → Prop}
theorem jumps_ret {J : Nat → Act → World → Prop} (h : Q .ret a w) : jumps J Q .ret a w := h
theorem jumps_goto {J : Nat → Act → World → Prop} {l : Nat} (h : J l a w) : jumps J Q (.goto l) a w := h
theorem wp_scope_labels {c : Code} (I : Nat → Nat → Act → World → Prop)
    (pass : ∀ l n a w, I l n a w → ∀ K : Nat → Act → World → Prop, (∀ l' n' a' w', n' < n → I l' n' a' w' → K l' a' w') → ∃ rest, findLabel c l = some (.seq .skip rest) ∧ rest.wp P (jumps K Q) a w)
    (first : ∀ K : Nat → Act → World → Prop, (∀ l n a' w', I l n a' w' → K l a' w') → (∀ l rest, findLabel c l = some (.seq .skip rest) → ∀ n a' w', I l n a' w' → rest.wp P (jumps K Q) a' w') → c.wp P (jumps K Q) a w) : (Code.scope c).wp P Q a w := by
  intro b k cs
  have key : ∀ n l a w, I l n a w → ∃ rest, findLabel c l = some rest ∧ ∃ e a' w', Q e a' w' ∧ Arrives P (lone (b.at a (.code rest :: .inScope c :: k)) cs w) b k cs e a' w' := by
    intro n
    induction n using Nat.strongRecOn with
    | _ n ih =>
      intro l a w hJ
      obtain ⟨rest, hr, hw0⟩ := pass l n a w hJ (fun l' a' w' => ∃ n', n' < n ∧ I l' n' a' w') (fun l' n' a' w' h1 h2 => ⟨n', h1, h2⟩)
      refine ⟨_, hr, ?_⟩
      have hw := wp_seq (x := Code.skip) (y := rest) (P := P) (Q := jumps (fun l' a' w' => ∃ n', n' < n ∧ I l' n' a' w') Q) (wp_skip hw0)
      obtain ⟨e, a₁, w₁, hq, harr⟩ := hw b (.inScope c :: k) cs
      cases e with
      | normal => exact ⟨.normal, a₁, w₁, hq, Steps.trans harr (.one step_inScope)⟩
      | exit id => exact ⟨.exit id, a₁, w₁, hq, fun k' hk => harr k' (by simp [exitTo, hk])⟩
      | goto l' =>
        obtain ⟨n', hlt, hJ'⟩ := hq
        obtain ⟨rest', hr', e₂, a₂, w₂, hq₂, harr₂⟩ := ih n' hlt l' a₁ w₁ hJ'
        exact ⟨e₂, a₂, w₂, hq₂, .of_steps (harr _ (by simp [gotoIn, hr'])) harr₂⟩
      | ret => exact ⟨_, a₁, w₁, hq, harr⟩
      | panic ch => exact ⟨_, a₁, w₁, hq, harr⟩
      | outgrown => exact ⟨_, a₁, w₁, hq, harr⟩
  obtain ⟨e, a₁, w₁, hq, harr⟩ := first (fun l a w => ∃ n, I l n a w) (fun l n a' w' h => ⟨n, h⟩) (fun l rest hr n a' w' h => by
    obtain ⟨rest', hr', hw⟩ := pass l n a' w' h (fun l a w => ∃ n, I l n a w) (fun l' n' a' w' _ h2 => ⟨n', h2⟩)
    rw [hr] at hr'
    simp only [Option.some.injEq, Code.seq.injEq, true_and] at hr'
    subst hr'
    exact hw) b (.inScope c :: k) cs
  cases e with
  | normal => exact ⟨.normal, a₁, w₁, hq, .head step_scope (Steps.trans harr (.one step_inScope))⟩
  | exit id => exact ⟨.exit id, a₁, w₁, hq, fun k' hk => .head step_scope (harr k' (by simp [exitTo, hk]))⟩
  | goto l' =>
    obtain ⟨n', hJ'⟩ := hq
    obtain ⟨rest', hr', e₂, a₂, w₂, hq₂, harr₂⟩ := key n' l' a₁ w₁ hJ'
    exact ⟨e₂, a₂, w₂, hq₂, .of_steps (.head step_scope (harr _ (by simp [gotoIn, hr']))) harr₂⟩
  | ret => exact ⟨_, a₁, w₁, hq, .of_steps (.one step_scope) harr⟩
  | panic ch => exact ⟨_, a₁, w₁, hq, .of_steps (.one step_scope) harr⟩
  | outgrown => exact ⟨_, a₁, w₁, hq, .of_steps (.one step_scope) harr⟩
end
end Go.HK
