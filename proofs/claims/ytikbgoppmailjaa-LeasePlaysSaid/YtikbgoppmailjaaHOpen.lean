import Derived.Test.YtikbgoppmailjaaWWords
import Derived.Deep.Slices
import Derived.ChangeArms
/- An argument whose type is built of whole numbers, truths, strings, structs, slices: its reading says what its cells hold, kind by kind ('Opens'). -/
namespace Go.Proofs.Ytikbgoppmailjaa.HO
open Go.RowKit Go.ChangeShapes Go.WideShapes Go.Deep Go.Proofs.YtikbgoppmailjaaW.PrintWords
set_option linter.unusedVariables false
section
variable {H : Type} (enc : TypeId × Value → H) (P : Program) (w : World) (base : Nat) (spare : Nat → Bool) (held : Bool)
/-- What a reading of type e says: the cells are the kind's cells of some y with 'ok'. -/
def Opens {α : Type} (e : TypeId) (d : Kd α) (ok : α → Prop) : Prop :=
  ∀ (fuel : Nat) (cs : List Value) (x : DataW H × List MemPlace), DataW.trod enc P w base spare held fuel e cs = some x → ∃ y, d.K w y cs ∧ ok y
variable {enc P w base spare held}
theorem Opens.imp {α : Type} {e : TypeId} {d : Kd α} {ok ok' : α → Prop} (h : Opens enc P w base spare held e d ok) (hi : ∀ y, ok y → ok' y) : Opens enc P w base spare held e d ok' := by
  intro fuel cs x hx
  obtain ⟨y, h1, h2⟩ := h fuel cs x hx
  exact ⟨y, h1, hi y h2⟩
theorem opens_int {e : TypeId} {k : IntKind} (he : P.underlying e = some (.int k)) : Opens enc P w base spare held e (Kd.int k) (fun n => (Lit.int k n).wf = true) := by
  intro fuel cs x h
  obtain ⟨n, rfl, _, hw⟩ := DataW.trod_int he h
  exact ⟨n, rfl, hw⟩
theorem opens_bool {e : TypeId} (he : P.underlying e = some .bool) : Opens enc P w base spare held e Kd.bool (fun _ => True) := by
  intro fuel cs x h
  obtain ⟨b, rfl, _⟩ := DataW.trod_bool he h
  exact ⟨b, rfl, trivial⟩
theorem opens_string {e : TypeId} (he : P.underlying e = some .string) : Opens enc P w base spare held e Kd.string (fun s => s.size ≤ maxLen) := by
  intro fuel cs x h
  obtain ⟨s, rfl, _, hs⟩ := DataW.trod_string he h
  exact ⟨s, rfl, hs⟩
theorem opens_slice {α : Type} {t e : TypeId} {d : Kd α} {ok : α → Prop} (ht : P.underlying t = some (.slice e)) (hC : P.cellsOf e = d.sz) (h : Opens enc P w base spare held e d ok) :
    Opens enc P w base spare held t (Kd.slice e d) (fun l => l.length ≤ maxLen ∧ ∀ y ∈ l, ok y) := by
  intro fuel cs x hx
  rcases open_slice ht hx with ⟨rfl, _⟩ | ⟨a, len, cap, m, n, D, Pl, rfl, hb, hl, hm, hmm, rfl, hi⟩
  · exact ⟨[], ⟨none, 0, rfl, Nat.le_refl _, rfl, Nat.zero_le _, fun h => absurd h (by simp)⟩, Nat.zero_le _, fun y hy => by cases hy⟩
  · have hlm : len ≤ m := by rw [hmm]; split <;> omega
    have hml : maxLen ≤ 9223372036854775807 := by decide
    have each : ∀ i, i < len → ∃ y : α, (∃ c : List Value, c.length = d.sz ∧ d.K w y c ∧ ∀ j u, c[j]? = some u → w.cell? (a.add (i * d.sz + j)) = some u) ∧ ok y := by
      intro i hil
      obtain ⟨cs', h1, h2⟩ := hi i (by omega)
      rw [hC] at h1
      obtain ⟨_, hlen, hcell⟩ := World.cells?_some h1
      obtain ⟨y, hy, ho⟩ := h _ _ _ h2
      refine ⟨y, ⟨cs', hlen, hy, fun j u hj => ?_⟩, ho⟩
      have hjl : j < d.sz := by rw [← hlen]; exact (List.getElem?_eq_some_iff.1 hj).1
      have := hcell j hjl
      rw [Go.Deep.add_add] at this
      rw [this, hj]
    by_cases h0 : len = 0
    · subst h0
      exact ⟨[], ⟨some a, cap, rfl, Nat.zero_le _, rfl, Nat.zero_le _, fun h => absurd h (by simp)⟩, Nat.zero_le _, fun y hy => by cases hy⟩
    · haveI : Inhabited α := ⟨(each 0 (by omega)).choose⟩
      obtain ⟨f, hf⟩ := choose_lt each
      have hll : ((List.range len).map f).length = len := by simp
      refine ⟨(List.range len).map f, ⟨some a, cap, by rw [hll], by rw [hll]; exact hl, rfl, by rw [hll]; omega, fun _ => ⟨a, rfl, fun j p hp => ?_⟩⟩, by rw [hll]; omega, fun y hy => ?_⟩
      · have hjl : j < len := by
          have := (List.getElem?_eq_some_iff.1 hp).1
          rw [hll] at this; exact this
        obtain rfl : f j = p := by simpa [hjl] using hp
        exact (hf j hjl).1
      · obtain ⟨j, hj, rfl⟩ := List.mem_map.1 hy
        exact (hf j (List.mem_range.1 hj)).2
/-- A struct of two fields that lie one behind the other. -/
theorem opens_struct2 {α β γ : Type} {t : TypeId} {f0 f1 : Field} {a : Kd α} {b : Kd β} {oka : α → Prop} {okb : β → Prop} (g : γ → α × β) (mk : α → β → γ) (hg : ∀ x y, g (mk x y) = (x, y))
    (ht : P.underlying t = some (.struct #[f0, f1])) (o0 : f0.offset = 0) (o1 : f1.offset = a.sz) (c0 : P.cellsOf f0.type = a.sz) (c1 : P.cellsOf f1.type = b.sz) (ct : P.cellsOf t = a.sz + b.sz)
    (ha : Opens enc P w base spare held f0.type a oka) (hb : Opens enc P w base spare held f1.type b okb) :
    Opens enc P w base spare held t (Kd.iso (Kd.pair a b) g) (fun z => oka (g z).1 ∧ okb (g z).2) := by
  intro fuel cs x hx
  obtain ⟨xs, n, _, _, hcl, hxl, hf⟩ := DataW.trod_struct ht hx
  match xs, hxl with
  | [y0, y1], _ =>
    have g0 := hf 0 f0 rfl
    have g1 := hf 1 f1 rfl
    rw [o0, c0] at g0
    rw [o1, c1] at g1
    obtain ⟨u, hu, hou⟩ := ha _ _ _ g0
    obtain ⟨v, hv, hov⟩ := hb _ _ _ g1
    refine ⟨mk u v, ?_, ?_⟩
    · refine ⟨(cs.drop 0).take a.sz, (cs.drop a.sz).take b.sz, ?_, by rw [hg]; exact hu, by rw [hg]; exact hv⟩
      rw [List.drop_zero, List.take_of_length_le (l := cs.drop a.sz) (by rw [List.length_drop]; omega)]
      exact (List.take_append_drop _ _).symm
    · show oka (g (mk u v)).1 ∧ okb (g (mk u v)).2
      rw [hg]; exact ⟨hou, hov⟩
/-- A struct of three fields that lie one behind the other. -/
theorem opens_struct3 {α β γ δ : Type} {t : TypeId} {f0 f1 f2 : Field} {a : Kd α} {b : Kd β} {c : Kd γ} {oka : α → Prop} {okb : β → Prop} {okc : γ → Prop} (g : δ → α × β × γ) (mk : α → β → γ → δ) (hg : ∀ x y z, g (mk x y z) = (x, y, z))
    (ht : P.underlying t = some (.struct #[f0, f1, f2])) (o0 : f0.offset = 0) (o1 : f1.offset = a.sz) (o2 : f2.offset = a.sz + b.sz) (c0 : P.cellsOf f0.type = a.sz) (c1 : P.cellsOf f1.type = b.sz) (c2 : P.cellsOf f2.type = c.sz) (ct : P.cellsOf t = a.sz + b.sz + c.sz)
    (ha : Opens enc P w base spare held f0.type a oka) (hb : Opens enc P w base spare held f1.type b okb) (hc : Opens enc P w base spare held f2.type c okc) :
    Opens enc P w base spare held t (Kd.iso (Kd.pair a (Kd.pair b c)) g) (fun z => oka (g z).1 ∧ okb (g z).2.1 ∧ okc (g z).2.2) := by
  intro fuel cs x hx
  obtain ⟨xs, n, _, _, hcl, hxl, hf⟩ := DataW.trod_struct ht hx
  match xs, hxl with
  | [y0, y1, y2], _ =>
    have g0 := hf 0 f0 rfl
    have g1 := hf 1 f1 rfl
    have g2 := hf 2 f2 rfl
    rw [o0, c0] at g0
    rw [o1, c1] at g1
    rw [o2, c2] at g2
    obtain ⟨u, hu, hou⟩ := ha _ _ _ g0
    obtain ⟨v, hv, hov⟩ := hb _ _ _ g1
    obtain ⟨z, hz, hoz⟩ := hc _ _ _ g2
    refine ⟨mk u v z, ?_, ?_⟩
    · refine ⟨(cs.drop 0).take a.sz, (cs.drop a.sz).take b.sz ++ (cs.drop (a.sz + b.sz)).take c.sz, ?_, by rw [hg]; exact hu, (cs.drop a.sz).take b.sz, (cs.drop (a.sz + b.sz)).take c.sz, rfl, by rw [hg]; exact hv, by rw [hg]; exact hz⟩
      rw [List.drop_zero, List.take_of_length_le (l := cs.drop (a.sz + b.sz)) (by rw [List.length_drop]; omega)]
      have e1 : cs.drop (a.sz + b.sz) = (cs.drop a.sz).drop b.sz := by rw [List.drop_drop]
      rw [e1, List.take_append_drop, List.take_append_drop]
    · show oka (g (mk u v z)).1 ∧ okb (g (mk u v z)).2.1 ∧ okc (g (mk u v z)).2.2
      rw [hg]; exact ⟨hou, hov, hoz⟩
/-- A parameter that is a slice. -/
theorem open_arg {α : Type} {e t : TypeId} {d : Kd α} {ok : α → Prop} {A : Option Addr} {len cap : Nat} {y : DataW H} {p : List MemPlace} (h : Opens enc P w base spare held t (Kd.slice e d) (fun l => l.length ≤ maxLen ∧ ∀ y ∈ l, ok y))
    (hx : DataW.Trod enc P w base spare held t (.slice A len cap) y p) : ∃ l : List α, len = l.length ∧ d.C w A l.length l ∧ l.length ≤ cap ∧ l.length ≤ maxLen ∧ ∀ y ∈ l, ok y := by
  obtain ⟨fuel, hf⟩ := hx
  obtain ⟨l, ⟨A', c', e1, hle, hC⟩, hl, ho⟩ := h _ _ _ hf
  have e2 : (Value.cells (.slice A len cap)).toList = [.slice A len cap] := by simp [Value.cells]
  rw [e2] at e1
  injection e1 with e3
  injection e3 with e4 e5 e6
  subst e4; subst e5; subst e6
  exact ⟨l, rfl, hC, hle, hl, ho⟩
end
end Go.Proofs.Ytikbgoppmailjaa.HO
